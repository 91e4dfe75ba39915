/- Ten times a size and a digit: the plain law. -/
import Derived.Test.YtfhflpchfgkgcaaBigDec
namespace Go.Proofs.Ytfhflpchfgkgcaa
structure MulTen (m m2 : List Nat) (t cc dg : Nat) : Prop where
  limbs : Limbs m2
  len : m2.length = m.length
  same : ∀ j, t ≤ j → m2.getD j 0 = m.getD j 0
  sum : val (m2.take t) + 4294967296 ^ t * cc = 10 * val (m.take t) + dg
theorem mulTen_start {m : List Nat} (h : Limbs m) (dg : Nat) : MulTen m m 0 dg dg := ⟨h, rfl, fun _ _ => rfl, by simp [val]⟩
theorem take_set_self (l : List Nat) (k x : Nat) : (l.set k x).take k = l.take k := List.take_set_of_le (Nat.le_refl _)
theorem mulTen_step {m m2 : List Nat} {t cc dg : Nat} (hm : Limbs m) (h : MulTen m m2 t cc dg) (ht : t < m.length) (hc : cc ≤ 9) :
    MulTen m (m2.set t ((cc + 10 * m.getD t 0) % 4294967296)) (t + 1) ((cc + 10 * m.getD t 0) / 4294967296) dg ∧ (cc + 10 * m.getD t 0) / 4294967296 ≤ 9 := by
  have hx := hm.at t
  have h1 := val_take m t
  generalize m.getD t 0 = x at *
  refine ⟨⟨h.limbs.set _ (by omega), by simp [h.len], fun j hj => ?_, ?_⟩, by omega⟩
  · rw [← h.same j (by omega)]
    simp [List.getD, show t ≠ j by omega]
  · have h2 := val_take (m2.set t ((cc + 10 * x) % 4294967296)) t
    have h3 : (m2.set t ((cc + 10 * x) % 4294967296)).getD t 0 = (cc + 10 * x) % 4294967296 := getD_set_self _ (by rw [h.len]; exact ht)
    have h4 := h.sum
    have h5 := Nat.mod_add_div (cc + 10 * x) 4294967296
    rw [h3, take_set_self] at h2
    rw [h2, h1, Nat.pow_succ]
    generalize (cc + 10 * x) % 4294967296 = r at *
    generalize (cc + 10 * x) / 4294967296 = q at *
    generalize 4294967296 ^ t = p at *
    grind
theorem mulTen_end {m m2 : List Nat} {cc dg : Nat} (h : MulTen m m2 m.length cc dg) : val (m2 ++ [cc]) = 10 * val m + dg := by
  have h1 := h.sum
  rw [List.take_of_length_le (by rw [h.len]; exact Nat.le_refl _), List.take_of_length_le (Nat.le_refl _)] at h1
  rw [val_snoc, h.len]
  exact h1
/-- What digits are worth. -/
def decV (l : List UInt8) : Nat := l.foldl (fun v c => 10 * v + (c.toNat - 48)) 0
theorem decV_snoc (l : List UInt8) (c : UInt8) : decV (l ++ [c]) = 10 * decV l + (c.toNat - 48) := by simp [decV]
theorem decV_mono (l : List UInt8) (k : Nat) : decV (l.take k) ≤ decV l := by
  have : ∀ (a b : List UInt8), decV a ≤ decV (a ++ b) := by
    intro a b
    induction b generalizing a with
    | nil => simp
    | cons c b ih =>
      have h1 := ih (a ++ [c])
      rw [List.append_assoc, decV_snoc] at h1
      simp only [List.singleton_append] at h1
      omega
  have h := this (l.take k) (l.drop k)
  rwa [List.take_append_drop] at h
end Go.Proofs.Ytfhflpchfgkgcaa
