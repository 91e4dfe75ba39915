/- Decimal digits: the plain law. -/
import Derived.Test.YtfhflpchfgkgcaaBigLow
namespace Go.Proofs.Ytfhflpchfgkgcaa
/-! ### Decimal digits -/
/-- The digits of a number, the least first; nought has none. -/
def digs (n : Nat) : List Nat := if h : n = 0 then [] else n % 10 :: digs (n / 10)
termination_by n
decreasing_by omega
theorem digs_zero : digs 0 = [] := by unfold digs; simp
theorem digs_pos {n : Nat} (h : 0 < n) : digs n = n % 10 :: digs (n / 10) := by
  conv => lhs; unfold digs
  rw [dif_neg (by omega)]
theorem digs_len {n k : Nat} (h : n < 10 ^ k) : (digs n).length ≤ k := by
  induction k generalizing n with
  | zero =>
    have : n = 0 := by simpa using h
    rw [this, digs_zero]; simp
  | succ k ih =>
    rcases Nat.eq_zero_or_pos n with rfl | h0
    · rw [digs_zero]; simp
    · rw [digs_pos h0, List.length_cons]
      have : n / 10 < 10 ^ k := by
        rw [Nat.pow_succ] at h
        exact Nat.div_lt_of_lt_mul (by rw [Nat.mul_comm]; exact h)
      have := ih this
      omega
theorem digs_big {n : Nat} (h : n < 2 ^ 256) : (digs n).length ≤ 78 := digs_len (Nat.lt_trans h (by decide +kernel))
theorem digs_lt {n d : Nat} (h : d ∈ digs n) : d < 10 := by
  induction n using Nat.strongRecOn with
  | ind n ih =>
    rcases Nat.eq_zero_or_pos n with rfl | h0
    · rw [digs_zero] at h; cases h
    · rw [digs_pos h0] at h
      rcases List.mem_cons.1 h with rfl | h
      · omega
      · exact ih _ (by omega) h
/-- A digit's letter. -/
def letter (d : Nat) : Int := ((48 + d : Nat) : Int)
/-- The text of a number. -/
def textI (z : Int) : List Int := if z = 0 then [48] else (if z < 0 then [45] else []) ++ ((digs z.natAbs).map letter).reverse
theorem val_drop (l : List Nat) (k : Nat) : val (l.drop k) = l.getD k 0 + 4294967296 * val (l.drop (k + 1)) := by
  rcases Nat.lt_or_ge k l.length with h | h
  · rw [List.drop_eq_getElem_cons h]
    simp [val, List.getD, h]
  · rw [List.drop_eq_nil_of_le h, List.drop_eq_nil_of_le (by omega)]
    simp [val, List.getD, h]
theorem getD_set_self {l : List Nat} {k : Nat} (x : Nat) (h : k < l.length) : (l.set k x).getD k 0 = x := by simp [List.getD, h]
/-- A number divided by ten, limb by limb from the top. -/
structure TenAt (m m2 : List Nat) (k r : Nat) : Prop where
  limbs : Limbs m2
  len : m2.length = m.length
  same : ∀ j, j < k → m2.getD j 0 = m.getD j 0
  quot : val (m2.drop k) = val (m.drop k) / 10
  rest : r = val (m.drop k) % 10
theorem ten_start {m : List Nat} (h : Limbs m) : TenAt m m m.length 0 := by
  refine ⟨h, rfl, fun _ _ => rfl, ?_, ?_⟩ <;> simp [val]
theorem ten_step {m m2 : List Nat} {p r : Nat} (hm : Limbs m) (h : TenAt m m2 (p + 1) r) (hp : p < m.length) :
    TenAt m (m2.set p ((r * 4294967296 + m.getD p 0) / 10)) p ((r * 4294967296 + m.getD p 0) % 10) ∧ (r * 4294967296 + m.getD p 0) / 10 < 4294967296 ∧ r < 10 := by
  have hx := hm.at p
  have hr : r < 10 := by rw [h.rest]; exact Nat.mod_lt _ (by omega)
  have hq : (r * 4294967296 + m.getD p 0) / 10 < 4294967296 := by omega
  have hd := val_drop m p
  have hr' := h.rest
  have hq' := h.quot
  generalize hH : val (m.drop (p + 1)) = H at hd hr' hq'
  generalize hxx : m.getD p 0 = x at *
  have hdm : H = 10 * (H / 10) + r := by omega
  generalize hQ : H / 10 = Q at *
  have e : x + 4294967296 * H = 10 * (4294967296 * Q) + (r * 4294967296 + x) := by omega
  generalize hs : r * 4294967296 + x = s at *
  refine ⟨⟨h.limbs.set _ hq, by simp [h.len], fun j hj => ?_, ?_, ?_⟩, hq, hr⟩
  · rw [← h.same j (by omega)]
    simp [List.getD, show p ≠ j by omega]
  · have h1 := val_drop (m2.set p (s / 10)) p
    have h2 : (m2.set p (s / 10)).getD p 0 = s / 10 := getD_set_self _ (by rw [h.len]; exact hp)
    have h3 : (m2.set p (s / 10)).drop (p + 1) = m2.drop (p + 1) := by rw [List.drop_set_of_lt (by omega)]
    rw [h3, hq', h2] at h1
    rw [hd, e, h1]
    generalize 4294967296 * Q = y
    omega
  · rw [hd, e, Nat.mul_add_mod 10 (4294967296 * Q) s]
theorem ten_end {m m2 : List Nat} {r : Nat} (h : TenAt m m2 0 r) : val m2 = val m / 10 ∧ r = val m % 10 := by
  have h1 := h.quot
  have h2 := h.rest
  rw [List.drop_zero, List.drop_zero] at h1
  rw [List.drop_zero] at h2
  exact ⟨h1, h2⟩
end Go.Proofs.Ytfhflpchfgkgcaa
