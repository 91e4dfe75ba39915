import Derived.Test.YtjakfchffigkkaaGreatDoorProg
import Derived.Test.YtjakfchffigkkaaGreatDoorAgg
import Derived.Test.YtjakfchffigkkaaGreatDoorStr
import Derived.Test.YtjakfchffigkkaaGreatDoorLoop
import Derived.Test.YtjakfchffigkkaaGreatDoorBigPlain
import Derived.WalkSpells
import Derived.KernelRfl
import Derived.Laws.StructEq
import Derived.Tactics2
import Derived.StillTactics
namespace Go.Proofs.YtjakfchffigkkaaGreatDoor
open Go.RowKit
set_option linter.unusedVariables false
set_option linter.unusedSimpArgs false
theorem elW : ElemT Tryz.prog 24 56 (.int .u32 0) 1 4 := ⟨Tryz.underlying24, by kernel_rfl, rfl, by omega⟩
theorem elU : ElemT Tryz.prog 27 74 (.int .u16 0) 1 2 := ⟨Tryz.underlying27, by kernel_rfl, rfl, by omega⟩
theorem n_eql_self {P : Program} {t : TypeId} (k : IntKind) (x : Int) : ∀ w, (binOp .eql t (.int k x) (.int k x)).run P w = .ok (.bool true) w := r_eql (by simp)
theorem n_neq_self {P : Program} {t : TypeId} (k : IntKind) (x : Int) : ∀ w, (binOp .neq t (.int k x) (.int k x)).run P w = .ok (.bool false) w := by
  have h := r_neq (P := P) (t := t) (k := k) (x := x) (y := x) (r := true) (by simp)
  exact h
theorem self_eqlB (b : Bool) : ∀ w, (binOp .eql 4 (.bool b) (.bool b)).run Tryz.prog w = .ok (.bool true) w := by intro w; cases b <;> kernel_rfl
theorem self_neqB (b : Bool) : ∀ w, (binOp .neq 4 (.bool b) (.bool b)).run Tryz.prog w = .ok (.bool false) w := by intro w; cases b <;> kernel_rfl
theorem eqNumIn (a b c d : Int) (w : World) : (Op.equalIn 10000 23 (.agg #[.int .i64 a, .int .i64 b]) (.agg #[.int .i64 c, .int .i64 d])).run Tryz.prog w = .ok (a == c && b == d) w := by
  have u3 := Tryz.underlying3
  have a3 := Tryz.isAgg3
  have z3 := Tryz.sizeOf3
  have hS : Tryz.prog.underlying 23 = some (.struct (Tryz.prog.fieldsOf 23)) := by kernel_rfl
  have hp : Tryz.prog.stoodInHeld 23 = false := by kernel_rfl
  rw [show (10000 : Nat) = 9999 + 1 from rfl, run_equalIn_agg w 9999 23 _ _ hS hp]
  simp only [Program.fieldsOf, Tryz.underlying23]
  go_simp
  by_cases h1 : a = c <;> by_cases h2 : b = d <;> simp [h1, h2]
theorem eqlNum (a b c d : Int) {r : Bool} (h : (a == c && b == d) = r) : ∀ w, (binOp .eql 23 (.agg #[iv a, iv b]) (.agg #[iv c, iv d])).run Tryz.prog w = .ok (.bool r) w := by
  intro w
  rw [run_eql_struct, eqNumIn, h]; rfl
theorem gNum {x y : Operand} (a b c d : Int) : ∀ w, (eqGuard .eql 23 x y (.agg #[iv a, iv b]) (.agg #[iv c, iv d])).run Tryz.prog w = .ok () w := fun w => run_eqGuard_agg w _ _ _ _ _ _ (by kernel_rfl)
end Go.Proofs.YtjakfchffigkkaaGreatDoor
