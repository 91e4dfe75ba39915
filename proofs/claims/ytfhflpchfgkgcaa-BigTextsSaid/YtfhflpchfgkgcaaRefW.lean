/- Package big's numbers in the form of the walks: few, first. -/
import Derived.Test.YtfhflpchfgkgcaaRefD
import Derived.Test.YtfhflpchfgkgcaaBigV
namespace Go.Proofs.Ytfhflpchfgkgcaa
open Go.RowKit
set_option linter.unusedSimpArgs false
set_option linter.unusedVariables false
theorem big_in {w : World} {b : Bool} {A : Option Addr} {m : List Nat} {c : Nat} (hr : SRow w .u32 A m c) (hl : Limbs m) : BigAt w (.agg #[.bool b, sv A m c]) (goodI b m) := ⟨b, _, m, rfl, hr, hl, rfl⟩
theorem n_eql_self {P : Program} {t : TypeId} (k : IntKind) (x : Int) : ∀ w, (binOp .eql t (.int k x) (.int k x)).run P w = .ok (.bool true) w := r_eql (by simp)
theorem n_neq_self {P : Program} {t : TypeId} (k : IntKind) (x : Int) : ∀ w, (binOp .neq t (.int k x) (.int k x)).run P w = .ok (.bool false) w := by
  have h := r_neq (P := P) (t := t) (k := k) (x := x) (y := x) (r := true) (by simp)
  exact h
theorem self_eqlB (b : Bool) : ∀ w, (binOp .eql 4 (.bool b) (.bool b)).run Try.prog w = .ok (.bool true) w := by intro w; cases b <;> kernel_rfl
theorem self_neqB (b : Bool) : ∀ w, (binOp .neq 4 (.bool b) (.bool b)).run Try.prog w = .ok (.bool false) w := by intro w; cases b <;> kernel_rfl
theorem bfew_c (b : Bool) (A : Option Addr) (m : List Nat) (c : Nat) (w : World) (hr : SRow w .u32 A m c) : Calls Try.prog 15 #[.agg #[.bool b, sv A m c]] w (IsRet (.bool (decide (m.length ≤ 40))) w) := by
  exact few_any b _ m w hr
theorem bfirst_c  (w : World)  : Calls Try.prog 14 #[] w (IsRet (.bool true) w) := by
  exact first_any w
end Go.Proofs.Ytfhflpchfgkgcaa
