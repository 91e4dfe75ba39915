/- The document's side of values and texts, as plain Lean. -/
import Derived.Test.YtecgdgjlmlpcnaaCvText
namespace Go.Proofs.Ytecgdgjlmlpcnaa
open Go.RowKit
set_option linter.unusedSimpArgs false
set_option linter.unusedVariables false
theorem zgetD_far {m : List Nat} {i : Nat} (h : m.length ≤ i) : m.getD i 0 = 0 := by simp [List.getD, h]
theorem ztrim_dn {m : List Nat} {k : Nat} (h0 : 0 < k) (h : decide (((m.getD ((k : Int) - 1).toNat 0 : Nat) : Int) = 0) = true) (hv : val (m.take k) = val m) : val (m.take (k - 1)) = val m := by
  have h1 := of_decide_eq_true h
  rw [show ((k : Int) - 1).toNat = k - 1 by omega] at h1
  have h2 := val_take m (k - 1)
  rw [show k - 1 + 1 = k by omega, show m.getD (k - 1) 0 = 0 by omega] at h2
  omega
theorem ztrim_nz {m : List Nat} {k : Nat} (h : decide (((m.getD ((k : Int) - 1).toNat 0 : Nat) : Int) = 0) = false) : 0 < m.getD (k - 1) 0 := by
  have h1 := of_decide_eq_false h
  rw [show ((k : Int) - 1).toNat = k - 1 by omega] at h1
  omega
theorem ztrim_end {m : List Nat} {k : Nat} (hl : Limbs m) (hk : k ≤ m.length) (hv : val (m.take k) = val m) (h : k = 0 ∨ 0 < m.getD (k - 1) 0) : [] ++ m.take (k : Int).toNat = canon (val m) := by
  rw [List.nil_append, Int.toNat_natCast, ← hv]
  refine canon_val (hl.take k) ?_
  rcases h with rfl | h
  · exact .inl (by simp)
  · rcases Nat.eq_zero_or_pos k with hk0 | hk0
    · exact .inl (by simp [hk0])
    refine .inr ?_
    rw [List.length_take, Nat.min_eq_left hk]
    simpa [List.getD, show k - 1 < k by omega] using h
theorem zabove_dn {a b : List Nat} {n : Nat} (h : Above a b n) (h0 : 0 < n) (h1 : decide (((a.getD ((n : Int) - 1).toNat 0 : Nat) : Int) < ((b.getD ((n : Int) - 1).toNat 0 : Nat) : Int)) = false) (h2 : decide (((a.getD ((n : Int) - 1).toNat 0 : Nat) : Int) ≤ ((b.getD ((n : Int) - 1).toNat 0 : Nat) : Int)) = true) : Above a b (n - 1) := by
  have h3 := of_decide_eq_false h1
  have h4 := of_decide_eq_true h2
  rw [show ((n : Int) - 1).toNat = n - 1 by omega] at h3 h4
  intro j hj
  rcases Nat.lt_or_ge j n with h5 | h5
  · obtain rfl : j = n - 1 := by omega
    omega
  · exact h j h5
theorem zcmp_lt {a b : List Nat} {n : Nat} (ha : Limbs a) (h : Above a b n) (h0 : 0 < n) (h1 : decide (((a.getD ((n : Int) - 1).toNat 0 : Nat) : Int) < ((b.getD ((n : Int) - 1).toNat 0 : Nat) : Int)) = true) : cmpI (val a) (val b) = -1 := by
  have h3 := of_decide_eq_true h1
  rw [show ((n : Int) - 1).toNat = n - 1 by omega] at h3
  unfold cmpI
  rw [if_pos (lt_of_diff ha (k := n - 1) (by rw [show n - 1 + 1 = n by omega]; exact h) (by omega))]
theorem zcmp_gt {a b : List Nat} {n : Nat} (hb : Limbs b) (h : Above a b n) (h0 : 0 < n) (h1 : decide (((a.getD ((n : Int) - 1).toNat 0 : Nat) : Int) ≤ ((b.getD ((n : Int) - 1).toNat 0 : Nat) : Int)) = false) : cmpI (val a) (val b) = 1 := by
  have h3 := of_decide_eq_false h1
  rw [show ((n : Int) - 1).toNat = n - 1 by omega] at h3
  have h4 := lt_of_diff hb (k := n - 1) (a := b) (b := a) (by rw [show n - 1 + 1 = n by omega]; exact fun j hj => (h j hj).symm) (by omega)
  unfold cmpI
  rw [if_neg (by omega), if_pos h4]
theorem zcmp_eq {a b : List Nat} {n : Nat} (h : Above a b n) (h0 : n = 0) : cmpI (val a) (val b) = 0 := by
  subst h0
  have := eq_of_above h
  unfold cmpI
  rw [if_neg (by omega), if_neg (by omega)]
theorem zmade_b1 {d : Bool} {n : Nat} (h : d = false) : decide (sgn d n < 0) = false := by subst h; simp [sgn]
theorem zmade_b2 {d : Bool} {n : Nat} (h : decide (((canon n).length : Int) ≤ 0) = true) : decide (sgn d n < 0) = false := by
  have h1 := of_decide_eq_true h
  have h2 : n = 0 := canon_nil.1 (List.eq_nil_of_length_eq_zero (by omega))
  rw [h2, sgn_zero]; rfl
theorem zmade_b3 {d : Bool} {n : Nat} (hd : d = true) (h : decide (((canon n).length : Int) ≤ 0) = false) : decide (sgn d n < 0) = true := by
  have h1 := of_decide_eq_false h
  rcases Nat.eq_zero_or_pos n with h2 | h2
  · rw [h2, canon_zero] at h1; simp at h1
  · rw [sgn_neg h2, hd]
def rMayB (a : Nm) : Bool := if decide (a.k = 0) then !decide (a.n < -9007199254740991) && decide (a.n ≤ 9007199254740991) else !decide (a.k < 1) && decide (a.k ≤ 4) && decide (a.n = 0)
theorem rMay_eq (a : Nm) : rMayB a = nmayB a := by
  obtain ⟨k, n⟩ := a
  unfold rMayB nmayB
  by_cases h0 : k = 0
  · simp [h0]
  · by_cases hk : k = 1 ∨ k = 2 ∨ k = 3 ∨ k = 4
    · rcases hk with rfl | rfl | rfl | rfl <;> simp
    · have h1 : ¬ k = 1 := by omega
      have h2 : ¬ k = 2 := by omega
      have h3 : ¬ k = 3 := by omega
      have h4 : ¬ k = 4 := by omega
      by_cases hlt : k < 1
      · simp [h0, h1, h2, h3, h4, hlt]
      · have : ¬ k ≤ 4 := by omega
        simp [h0, h1, h2, h3, h4, hlt, this]
def signedR (big neg : Bool) : Nm := if big && neg then ⟨4, 0⟩ else if big then ⟨3, 0⟩ else if neg then ⟨1, 0⟩ else ⟨0, 0⟩
def rNegM (a : Nm) : Nm := if decide ((asM a).k = 2) then asM a else if infB (asM a).k || noughtB (asM a) then signedR (infB (asM a).k) (!belowB (asM a)) else ⟨0, -(asM a).n⟩
theorem rNeg_eq (a : Nm) : rNegM a = negM a := by
  unfold rNegM negM negA
  rcases as_cases a with ⟨n, h, h1, h2⟩ | h | h | h | h <;> rw [h]
  · by_cases hn : n = 0
    · subst hn; decide
    · simp [infB, noughtB, hn]
  all_goals decide
theorem cmpZ_nn2 {a b : Int} (ha : decide (a < 0) = true) (hb : decide (b < 0) = true) : cmpI (val (canon b.natAbs)) (val (canon a.natAbs)) = cmpZ a b := by
  rw [val_canon, val_canon]; exact cmpZ_nn (of_decide_eq_true ha) (of_decide_eq_true hb)
theorem cmpZ_pp2 {a b : Int} (ha : decide (a < 0) = false) (hb : decide (b < 0) = false) : cmpI (val (canon a.natAbs)) (val (canon b.natAbs)) = cmpZ a b := by
  rw [val_canon, val_canon]; exact cmpZ_pp (of_decide_eq_false ha) (of_decide_eq_false hb)
/-! ### values -/
def mayR (v : Vl) : Bool :=
  if decide (v.k = 0) || decide (v.k = 1) then sameV v ⟨v.k, 0, 0, false, [], [], 0⟩
  else if decide (v.k = 2) then (if decide (v.ref = 0) || decide (v.ref = 1) then sameV v ⟨v.k, 0, 0, false, [], [], v.ref⟩ else false)
  else if decide (v.k = 3) then (if nmayB v.num then sameV v ⟨v.k, v.nk, v.nn, false, [], [], 0⟩ else false)
  else if decide (v.k = 4) then (if mayB v.neg v.mag then sameV v ⟨v.k, 0, 0, v.neg, v.mag, [], 0⟩ else false)
  else if decide (v.k = 5) then (if decide ((v.s.length : Int) ≤ 4096) then sameV v ⟨v.k, 0, 0, false, [], v.s, 0⟩ else false)
  else if decide (v.k = 6) then (if decide (v.ref < 0) then false else sameV v ⟨v.k, 0, 0, false, [], [], v.ref⟩)
  else false
theorem len0 (l : List Nat) : decide ((l.length : Int) = 0) = decide (l = []) := by cases l <;> simp; omega
theorem mayR_eq (v : Vl) : mayR v = mayV v := by
  unfold mayR mayV
  simp only [sameV, zeroV, len0, Vl.num]
  repeat' split
  all_goals first | rfl | skip
  all_goals (generalize decide (v.mag = []) = x1; generalize decide (v.s = []) = x2; simp_all)
  all_goals first | rfl | (cases v.neg <;> simp_all) | skip
def ordB (b : Bool) (m : List Nat) (a : Nm) : Int := if decide (a.k = 2) then 2 else if decide (a.k = 3) then -1 else if decide (a.k = 4) then 1 else cmpZ (goodI b m) a.n
end Go.Proofs.Ytecgdgjlmlpcnaa
