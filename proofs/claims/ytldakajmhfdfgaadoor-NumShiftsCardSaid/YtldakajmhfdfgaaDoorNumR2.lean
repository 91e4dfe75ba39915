/- Package renref1 in the words of package num. -/
import Derived.Test.YtldakajmhfdfgaaDoorNumR
import Derived.Test.YtldakajmhfdfgaaDoorNumMath7
namespace Go.Proofs.YtldakajmhfdfgaaDoor
open Go.RowKit
theorem rmul_c (a b : Nm) (w : World) : Calls Tryd.prog 41 #[nv a, nv b] w (IsRet (.tuple #[nv (mulM a b).1, .bool (mulM a b).2]) w) := by
  have h := rmul0_c a b w
  rw [rMul_eq] at h
  exact h
theorem rdiv_c (a b : Nm) (w : World) : Calls Tryd.prog 43 #[nv a, nv b] w (IsRet (.tuple #[nv (divM a b).1, .bool (divM a b).2]) w) := by
  have h := rdiv0_c a b w
  rw [rDiv_eq] at h
  exact h
theorem rrem_c (a b : Nm) (w : World) : Calls Tryd.prog 47 #[nv a, nv b] w (IsRet (nv (remM a b)) w) := by
  have h := rrem0_c a b w
  rw [rRem_eq] at h
  exact h
theorem rbit_c (op : Int) (a b : Nm) (w : World) : Calls Tryd.prog 37 #[iv op, nv a, nv b] w (IsRet (nv (bitM op a b)) w) := by
  have h := rbit0_c op a b w
  rw [rBit_eq] at h
  exact h
theorem eqN_refl (a : Nm) : eqN a a = true := by simp [eqN]
theorem is_refl (a : Nm) (x : Bool) : (eqN a a && x == x) = true := by simp [eqN]
end Go.Proofs.YtldakajmhfdfgaaDoor
