/- What the cards of this seat share: a world in which the listed variables hold what the text lays; what strconv.Itoa says there. -/
import Derived.Test.YtecgdgjlmlpcnaaGreatDoorRows
import Derived.Test.YtecgdgjlmlpcnaaGreatDoorTie
import Derived.Test.YtecgdgjlmlpcnaaGreatDoorTlL
import Derived.Lib.SmallJoins
import Derived.Lib.LaidU8
import Derived.Lib.AppendIntMem
import Derived.LaidSub
import Derived.MakeChecks
import Derived.WalkKit
import Derived.ProofKit
import Derived.OpenShut
import Derived.ChangeOld
import Derived.ChangeSame
import Derived.ChangeVars
import Derived.JoinedOf
import Derived.Below
import Derived.LaidLaws
import Derived.LaidHandle
import Derived.Stop.Joined
namespace Go.Proofs.YtecgdgjlmlpcnaaGreatDoor
open Go.ChangeShapes Go.WideShapes Go.ChangeAt Go.RowKit Go.Deep
set_option linter.unusedVariables false
theorem own : ownKnob Tryz.prog.godebug = none := by kernel_rfl
theorem laidOut : laidOutB Tryz.prog = true := by kernel_rfl
def tab32 : Array Value := #[.int .u8 0, .int .u8 1, .int .u8 28, .int .u8 2, .int .u8 29, .int .u8 14, .int .u8 24, .int .u8 3, .int .u8 30, .int .u8 22, .int .u8 20, .int .u8 15, .int .u8 25, .int .u8 17, .int .u8 4, .int .u8 8, .int .u8 31, .int .u8 27, .int .u8 13, .int .u8 23, .int .u8 21, .int .u8 19, .int .u8 16, .int .u8 7, .int .u8 26, .int .u8 12, .int .u8 18, .int .u8 6, .int .u8 11, .int .u8 5, .int .u8 10, .int .u8 9]
def tab64 : Array Value := #[.int .u8 0, .int .u8 1, .int .u8 56, .int .u8 2, .int .u8 57, .int .u8 49, .int .u8 28, .int .u8 3, .int .u8 61, .int .u8 58, .int .u8 42, .int .u8 50, .int .u8 38, .int .u8 29, .int .u8 17, .int .u8 4, .int .u8 62, .int .u8 47, .int .u8 59, .int .u8 36, .int .u8 45, .int .u8 43, .int .u8 51, .int .u8 22, .int .u8 53, .int .u8 39, .int .u8 33, .int .u8 30, .int .u8 24, .int .u8 18, .int .u8 12, .int .u8 5, .int .u8 63, .int .u8 55, .int .u8 48, .int .u8 27, .int .u8 60, .int .u8 41, .int .u8 37, .int .u8 16, .int .u8 46, .int .u8 35, .int .u8 44, .int .u8 21, .int .u8 52, .int .u8 32, .int .u8 23, .int .u8 11, .int .u8 54, .int .u8 26, .int .u8 40, .int .u8 15, .int .u8 34, .int .u8 20, .int .u8 31, .int .u8 10, .int .u8 25, .int .u8 14, .int .u8 19, .int .u8 9, .int .u8 13, .int .u8 8, .int .u8 7, .int .u8 6]
def tab10 : Array Value := #[.int .u64 1, .int .u64 10, .int .u64 100, .int .u64 1000, .int .u64 10000, .int .u64 100000, .int .u64 1000000, .int .u64 10000000, .int .u64 100000000, .int .u64 1000000000, .int .u64 10000000000, .int .u64 100000000000, .int .u64 1000000000000, .int .u64 10000000000000, .int .u64 100000000000000, .int .u64 1000000000000000, .int .u64 10000000000000000, .int .u64 100000000000000000, .int .u64 1000000000000000000, .int .u64 10000000000000000000]
def setRow (cs : Array Value) : Obj → Obj
  | .cells _ t frozen => .cells cs t frozen
  | o => o
/-- the settled world, the three variables' cells laid -/
def laidOn (w0 : World) : World := { w0 with heap := (((w0.heap.modify 0 (setRow tab10)).modify 1 (setRow tab32)).modify 2 (setRow tab64)) }
theorem laid_met (os : Os) (args : Array Value) : laidMetH Tryz.prog Rows.convTellsRow.laid (((laidOn (World.holding Tryz.prog os ⟨#[], #[], []⟩))).forCall (fun _ _ => 0) ⟨#[], args, []⟩).memory :=
  laidMetH_of_parts (laidMet_of_run' 100 (by kernel_rfl) (by kernel_rfl)) (by kernel_rfl)
theorem itoa_at {w0 w : World} (ht : Lib.TabIs Tryz.prog w0 "internal/strconv.uint64pow10" .u64 Lib.pow10Tab) (hw : New w0 w) {n : Int} (h0 : -9223372036854775808 ≤ n) (h1 : n ≤ 9223372036854775807) : Calls Tryz.prog 91 #[.int .i64 n] w (IsRet (.string (itoaS n)) w) := by
  refine (Any.strconv_Itoa Tryz.laysM171 n h0 h1 w (Joins.tab_stays (g := 0) (by kernel_rfl) ht hw.below (Nat.le_refl _))).mono ?_
  rintro e w'' ⟨rfl, k, os, rfl⟩
  exact ⟨rfl, Upd.ofBelow (Lib.below_grow _ _ (Nat.le_refl _) k os)⟩
theorem itoaOk {w0 : World} (ht : Lib.TabIs Tryz.prog w0 "internal/strconv.uint64pow10" .u64 Lib.pow10Tab) : ItoaOk w0 := fun n h0 h1 w' hw => itoa_at ht hw h0 h1
theorem tab_of_laid {l : List (String × DataW Unit)} {w : World} (h : laidMetH Tryz.prog l w) (hl : l.filter (fun x => x.1 == "internal/strconv.uint64pow10") = [("internal/strconv.uint64pow10", Lib.tabData .u64 Lib.pow10Tab)]) : Lib.TabIs Tryz.prog w "internal/strconv.uint64pow10" .u64 Lib.pow10Tab := by
  have h2 := h.filter (fun x => x.1 == "internal/strconv.uint64pow10")
  rw [hl, Go.MakeChecks.laidMetH_plain _ _ _ rfl] at h2
  exact Lib.tabIs_of_head (g := 0) (t := 130) (e := 95) (n := 20) (by kernel_rfl) (by kernel_rfl) (by kernel_rfl) (by kernel_rfl) (by kernel_rfl) (by kernel_rfl) h2
end Go.Proofs.YtecgdgjlmlpcnaaGreatDoor
