/- The lowest bits: the plain law. -/
import Derived.Test.YtfhflpchfgkgcaaBigDiv
namespace Go.Proofs.Ytfhflpchfgkgcaa
/-! ### The lowest bits -/
theorem two_pow_val {m : List Nat} (hm : Limbs m) {k n : Nat} (h : 32 * k ≤ n) : val (m.take k) % 2 ^ n = val (m.take k) := by
  have h1 := val_take_lt hm k
  rw [pow32] at h1
  exact Nat.mod_eq_of_lt (Nat.lt_of_lt_of_le h1 (Nat.pow_le_pow_right (by omega) h))
theorem low_none {m : List Nat} {k n : Nat} (h : n ≤ 32 * k) : val (m.take (k + 1)) % 2 ^ n = val (m.take k) % 2 ^ n := by
  rw [val_take, pow32, show 32 * k = n + (32 * k - n) by omega, Nat.pow_add, Nat.mul_assoc, Nat.add_mul_mod_self_left]
theorem low_some {m : List Nat} (hm : Limbs m) {k n : Nat} (h : 32 * k ≤ n) : val (m.take (k + 1)) % 2 ^ n = val (m.take k) % 2 ^ n + 4294967296 ^ k * (m.getD k 0 % 2 ^ (n - 32 * k)) := by
  rw [two_pow_val hm h, val_take, pow32]
  have h1 := val_take_lt hm k
  rw [pow32] at h1
  have e : 2 ^ n = 2 ^ (32 * k) * 2 ^ (n - 32 * k) := by rw [← Nat.pow_add]; congr 1; omega
  rw [e, Nat.add_comm, Nat.mod_mul, Nat.mul_add_mod, Nat.mod_eq_of_lt h1, Nat.mul_add_div (Nat.two_pow_pos _), Nat.div_eq_of_lt h1, Nat.add_zero]
theorem low_all {m : List Nat} (hm : Limbs m) {k n : Nat} (h : 32 * k + 32 ≤ n) : m.getD k 0 % 2 ^ (n - 32 * k) = m.getD k 0 := by
  have h1 := hm.at k
  refine Nat.mod_eq_of_lt (Nat.lt_of_lt_of_le h1 ?_)
  rw [show 4294967296 = 2 ^ 32 by decide]
  exact Nat.pow_le_pow_right (by omega) (by omega)
end Go.Proofs.Ytfhflpchfgkgcaa
