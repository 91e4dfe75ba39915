/- What the rows of chapter 1 share: a number that came in; a world in which the listed variables hold what the text lays. -/
import Derived.Test.YtldakajmhfdfgaaDoorRows
import Derived.Test.YtldakajmhfdfgaaDoorTie
import Derived.Test.YtldakajmhfdfgaaDoorLiftA
import Derived.Test.YtldakajmhfdfgaaDoorNumPlain
import Derived.Test.YtldakajmhfdfgaaDoorMem
import Derived.Lib.SmallJoins
import Derived.WalkKit
import Derived.ProofKit
import Derived.OpenShut
import Derived.ChangeOld
import Derived.ChangeSame
import Derived.ChangeVars
import Derived.JoinedOf
import Derived.Below
import Derived.LaidLaws
import Derived.LaidHandle
import Derived.Stop.Joined
namespace Go.Proofs.YtldakajmhfdfgaaDoor
open Go.ChangeShapes Go.WideShapes Go.ChangeAt Go.RowKit Go.Deep
set_option linter.unusedVariables false
theorem own : ownKnob Tryd.prog.godebug = none := by kernel_rfl
theorem laidOut : laidOutB Tryd.prog = true := by kernel_rfl
section
variable {H : Type} {enc : TypeId × Value → H} {w : World} {base : Nat} {spare : Nat → Bool} {held : Bool}
theorem nmAt_of {r : Reach} {b0 : Nat} {v : Value} {d : DataW H} {p : List MemPlace} (hv : Value.okWide Tryd.prog w r b0 23 v) (h : DataW.Trod enc Tryd.prog w base spare held 23 v d p) : ∃ a : Nm, v = .agg #[.int .i64 a.k, .int .i64 a.n] := by
  obtain ⟨v0, v1, y0, y1, n, rfl, -, -, h0, h1⟩ := Joins.open_agg2 Tryd.underlying23 (by kernel_rfl) (by kernel_rfl) hv h
  obtain ⟨k, rfl, -⟩ := cell_int Tryd.underlying3 h0
  obtain ⟨m, rfl, -⟩ := cell_int Tryd.underlying3 h1
  exact ⟨⟨k, m⟩, rfl⟩
end
def tab32 : Array Value := #[.int .u8 0, .int .u8 1, .int .u8 28, .int .u8 2, .int .u8 29, .int .u8 14, .int .u8 24, .int .u8 3, .int .u8 30, .int .u8 22, .int .u8 20, .int .u8 15, .int .u8 25, .int .u8 17, .int .u8 4, .int .u8 8, .int .u8 31, .int .u8 27, .int .u8 13, .int .u8 23, .int .u8 21, .int .u8 19, .int .u8 16, .int .u8 7, .int .u8 26, .int .u8 12, .int .u8 18, .int .u8 6, .int .u8 11, .int .u8 5, .int .u8 10, .int .u8 9]
def tab64 : Array Value := #[.int .u8 0, .int .u8 1, .int .u8 56, .int .u8 2, .int .u8 57, .int .u8 49, .int .u8 28, .int .u8 3, .int .u8 61, .int .u8 58, .int .u8 42, .int .u8 50, .int .u8 38, .int .u8 29, .int .u8 17, .int .u8 4, .int .u8 62, .int .u8 47, .int .u8 59, .int .u8 36, .int .u8 45, .int .u8 43, .int .u8 51, .int .u8 22, .int .u8 53, .int .u8 39, .int .u8 33, .int .u8 30, .int .u8 24, .int .u8 18, .int .u8 12, .int .u8 5, .int .u8 63, .int .u8 55, .int .u8 48, .int .u8 27, .int .u8 60, .int .u8 41, .int .u8 37, .int .u8 16, .int .u8 46, .int .u8 35, .int .u8 44, .int .u8 21, .int .u8 52, .int .u8 32, .int .u8 23, .int .u8 11, .int .u8 54, .int .u8 26, .int .u8 40, .int .u8 15, .int .u8 34, .int .u8 20, .int .u8 31, .int .u8 10, .int .u8 25, .int .u8 14, .int .u8 19, .int .u8 9, .int .u8 13, .int .u8 8, .int .u8 7, .int .u8 6]
def tab10 : Array Value := #[.int .u64 1, .int .u64 10, .int .u64 100, .int .u64 1000, .int .u64 10000, .int .u64 100000, .int .u64 1000000, .int .u64 10000000, .int .u64 100000000, .int .u64 1000000000, .int .u64 10000000000, .int .u64 100000000000, .int .u64 1000000000000, .int .u64 10000000000000, .int .u64 100000000000000, .int .u64 1000000000000000, .int .u64 10000000000000000, .int .u64 100000000000000000, .int .u64 1000000000000000000, .int .u64 10000000000000000000]
def errRangeS : ByteArray := ⟨#[118, 97, 108, 117, 101, 32, 111, 117, 116, 32, 111, 102, 32, 114, 97, 110, 103, 101]⟩
def errSyntaxS : ByteArray := ⟨#[105, 110, 118, 97, 108, 105, 100, 32, 115, 121, 110, 116, 97, 120]⟩
def setRow (cs : Array Value) : Obj → Obj
  | .cells _ t frozen => .cells cs t frozen
  | o => o
/-- the settled world, the five variables' cells laid -/
def laidOn (low : Nat) (w0 : World) : World := { w0 with heap := ((((w0.heap.modify 0 (setRow #[.iface 83 (.pointer (some ⟨low + 1, 0, none⟩))])).modify 1 (setRow #[.iface 83 (.pointer (some ⟨low, 0, none⟩))])).modify 2 (setRow tab10)).modify 3 (setRow tab32)).modify 4 (setRow tab64) }
theorem laid_met (os : Os) (args : Array Value) : laidMetH Tryd.prog Rows.numComparesRow.laid (((laidOn (World.holding Tryd.prog default ⟨#[], #[], []⟩).heap.size (World.holding Tryd.prog os ⟨#[.cells #[.string errRangeS] 85, .cells #[.string errSyntaxS] 85], #[], []⟩))).forCall (fun _ _ => 0) ⟨#[], args, []⟩).memory :=
  laidMetH_of_parts (laidMet_of_run' 100 (by kernel_rfl) (by kernel_rfl)) (by kernel_rfl)
end Go.Proofs.YtldakajmhfdfgaaDoor
