/- Division bit by bit: the plain law. -/
import Derived.Test.YtfhflpchfgkgcaaBigPlain
namespace Go.Proofs.Ytfhflpchfgkgcaa
/-! ### Division, bit by bit -/
theorem pow32 (p : Nat) : 4294967296 ^ p = 2 ^ (32 * p) := by rw [show 4294967296 = 2 ^ 32 by decide, ← Nat.pow_mul]
theorem val_split (l : List Nat) (p : Nat) : ∃ R, val l = val (l.take p) + 2 ^ (32 * p) * (l.getD p 0 + 4294967296 * R) := by
  refine ⟨val (l.drop (p + 1)), ?_⟩
  have h1 := val_app (l.take (p + 1)) (l.drop (p + 1))
  rw [List.take_append_drop, val_take] at h1
  rcases Nat.lt_or_ge p l.length with h | h
  · rw [List.length_take, Nat.min_eq_left (by omega), Nat.pow_succ] at h1
    rw [← pow32, h1]
    grind
  · rw [List.drop_eq_nil_of_le (by omega)] at h1 ⊢
    simp only [val] at h1 ⊢
    rw [← pow32, h1]
    grind
theorem limb_of {l : List Nat} (hl : Limbs l) (p : Nat) : val l / 2 ^ (32 * p) % 4294967296 = l.getD p 0 := by
  obtain ⟨R, h⟩ := val_split l p
  have h1 := val_take_lt hl p
  rw [pow32] at h1
  rw [h, Nat.add_mul_div_left _ _ (Nat.two_pow_pos _), Nat.div_eq_of_lt h1]
  have := hl.at p
  omega
theorem bit_of {l : List Nat} (hl : Limbs l) {p s : Nat} (hs : s < 32) : val l / 2 ^ (32 * p + s) % 2 = l.getD p 0 / 2 ^ s % 2 := by
  obtain ⟨R, h⟩ := val_split l p
  have h1 := val_take_lt hl p
  rw [pow32] at h1
  rw [Nat.pow_add, ← Nat.div_div_eq_div_mul, h, Nat.add_mul_div_left _ _ (Nat.two_pow_pos _), Nat.div_eq_of_lt h1, Nat.zero_add]
  have e : 4294967296 * R = 2 ^ s * (2 * (2 ^ (31 - s) * R)) := by
    have : 4294967296 = 2 ^ s * (2 * 2 ^ (31 - s)) := by
      rw [← Nat.pow_succ', ← Nat.pow_add, show s + (31 - s + 1) = 32 by omega]
    rw [this]
    grind
  rw [e, Nat.add_mul_div_left _ _ (Nat.two_pow_pos _)]
  omega
/-- A bit that is not there yet. -/
theorem or_pow {q s : Nat} (h : q % 2 ^ (s + 1) = 0) : q ||| 2 ^ s = q + 2 ^ s := by
  have h1 : q = 2 ^ (s + 1) * (q / 2 ^ (s + 1)) := by
    have := Nat.div_add_mod q (2 ^ (s + 1))
    omega
  have h2 : 2 ^ s < 2 ^ (s + 1) := Nat.pow_lt_pow_right (by omega) (by omega)
  have h3 := Nat.two_pow_add_eq_or_of_lt h2 (q / 2 ^ (s + 1))
  rw [← h1] at h3
  exact h3.symm
/-- The quotient's limb at p, when s bits and one more of it are to come. -/
theorem limb_low {l : List Nat} (hl : Limbs l) {p s Q : Nat} (hs : s < 32) (h : val l = 2 ^ (32 * p + s + 1) * Q) : l.getD p 0 % 2 ^ (s + 1) = 0 ∧ l.getD p 0 + 2 ^ s < 4294967296 := by
  have h1 := limb_of hl p
  have e1 : val l / 2 ^ (32 * p) = 2 ^ (s + 1) * Q := by
    rw [h, Nat.add_assoc, Nat.pow_add, Nat.mul_assoc, Nat.mul_div_cancel_left _ (Nat.two_pow_pos _)]
  have e2 : 4294967296 = 2 ^ (s + 1) * 2 ^ (31 - s) := by
    rw [← Nat.pow_add, show s + 1 + (31 - s) = 32 by omega]
  rw [e1, e2, Nat.mul_mod_mul_left] at h1
  refine ⟨by rw [← h1, Nat.mul_mod_right], ?_⟩
  have h2 : Q % 2 ^ (31 - s) < 2 ^ (31 - s) := Nat.mod_lt _ (Nat.two_pow_pos _)
  rw [← h1, e2]
  have h3 : 2 ^ (s + 1) * (Q % 2 ^ (31 - s) + 1) ≤ 2 ^ (s + 1) * 2 ^ (31 - s) := Nat.mul_le_mul_left _ h2
  have h4 : 2 ^ s < 2 ^ (s + 1) := Nat.pow_lt_pow_right (by omega) (by omega)
  rw [Nat.mul_add, Nat.mul_one] at h3
  omega
theorem div_two (a T : Nat) : a / 2 ^ T = 2 * (a / 2 ^ (T + 1)) + a / 2 ^ T % 2 := by
  rw [Nat.pow_succ, ← Nat.div_div_eq_div_mul]
  omega
/-- One bit more: the rest is too small. -/
theorem div_no {H B c : Nat} (hlt : 2 * (H % B) + c < B) : (2 * H + c) / B = 2 * (H / B) ∧ (2 * H + c) % B = 2 * (H % B) + c := by
  have h := Nat.div_add_mod H B
  have e : 2 * H + c = B * (2 * (H / B)) + (2 * (H % B) + c) := by
    rw [Nat.mul_left_comm, ← Nat.add_assoc, ← Nat.mul_add]
    omega
  have hB : 0 < B := by omega
  constructor
  · rw [e, Nat.mul_add_div hB, Nat.div_eq_of_lt hlt, Nat.add_zero]
  · rw [e, Nat.mul_add_mod, Nat.mod_eq_of_lt hlt]
/-- One bit more: the rest is enough. -/
theorem div_yes {H B c : Nat} (hB : 0 < B) (hc : c ≤ 1) (hge : B ≤ 2 * (H % B) + c) : (2 * H + c) / B = 2 * (H / B) + 1 ∧ (2 * H + c) % B = 2 * (H % B) + c - B := by
  have h := Nat.div_add_mod H B
  have hm := Nat.mod_lt H hB
  have hlt : 2 * (H % B) + c - B < B := by omega
  have e : 2 * H + c = B * (2 * (H / B) + 1) + (2 * (H % B) + c - B) := by
    rw [Nat.mul_add, Nat.mul_one, Nat.mul_left_comm]
    omega
  constructor
  · rw [e, Nat.mul_add_div hB, Nat.div_eq_of_lt hlt, Nat.add_zero]
  · rw [e, Nat.mul_add_mod, Nat.mod_eq_of_lt hlt]
/-- The quotient's limbs behind a bit that is set. -/
theorem set_bit {l : List Nat} (hl : Limbs l) {p s Q : Nat} (hp : p < l.length) (hs : s < 32) (h : val l = 2 ^ (32 * p + s + 1) * Q) :
    Limbs (l.set p (l.getD p 0 ||| 2 ^ s)) ∧ val (l.set p (l.getD p 0 ||| 2 ^ s)) = 2 ^ (32 * p + s) * (2 * Q + 1) ∧ l.getD p 0 ||| 2 ^ s < 4294967296 := by
  obtain ⟨h1, h2⟩ := limb_low hl hs h
  rw [or_pow h1]
  refine ⟨hl.set _ h2, ?_, h2⟩
  have h3 := val_set l p (l.getD p 0 + 2 ^ s) hp
  rw [pow32, Nat.mul_add] at h3
  have e : 2 ^ (32 * p) * 2 ^ s = 2 ^ (32 * p + s) := by rw [← Nat.pow_add]
  have e2 : 2 ^ (32 * p + s + 1) * Q = 2 ^ (32 * p + s) * (2 * Q) := by rw [Nat.pow_succ, Nat.mul_assoc]
  rw [e, h, e2] at h3
  rw [Nat.mul_add, Nat.mul_one]
  omega
end Go.Proofs.Ytfhflpchfgkgcaa
