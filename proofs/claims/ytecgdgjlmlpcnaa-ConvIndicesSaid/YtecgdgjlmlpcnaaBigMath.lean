/- Plain laws of sizes and numbers of limbs. -/
import Derived.Test.YtecgdgjlmlpcnaaBigPlain
import Derived.Laws.BytesArg
import Derived.Lib.IndexBytes
namespace Go.Proofs.Ytecgdgjlmlpcnaa
set_option linter.unusedSimpArgs false
set_option linter.unusedVariables false
/-- May it be one? -/
def mayB (b : Bool) (m : List Nat) : Bool := decide (m.length ≤ 8) && ((decide (m.length = 0) && !b) || (decide (0 < m.length) && decide (m.getD (m.length - 1) 0 ≠ 0)))
def sgn (b : Bool) (n : Nat) : Int := if b then -(n : Int) else n
/-- What a number that came in is worth: nothing, if it may not be one. -/
def goodI (b : Bool) (m : List Nat) : Int := if mayB b m then sgn b (val m) else 0
theorem natAbs_sgn (b : Bool) (n : Nat) : (sgn b n).natAbs = n := by cases b <;> simp [sgn]
theorem may_trim {b : Bool} {m : List Nat} (h : mayB b m = true) : Trim m ∧ m.length ≤ 8 ∧ (b = true → m ≠ []) := by
  simp only [mayB, Bool.and_eq_true, decide_eq_true_eq, Bool.or_eq_true, Bool.not_eq_true', ne_eq] at h
  obtain ⟨h8, h | h⟩ := h
  · exact ⟨.inl (List.eq_nil_of_length_eq_zero h.1), h8, fun hb => by rw [h.2] at hb; cases hb⟩
  · exact ⟨.inr (by omega), h8, fun _ h0 => by rw [h0] at h; simp at h⟩
theorem canon_good {b : Bool} {m : List Nat} (hl : Limbs m) : canon (goodI b m).natAbs = if mayB b m then m else [] := by
  unfold goodI
  split
  · rename_i h
    rw [natAbs_sgn, ← canon_val hl (may_trim h).1]
  · exact canon_zero
theorem val_pos {m : List Nat} (hl : Limbs m) (ht : Trim m) (h : m ≠ []) : 0 < val m := by
  have h1 := canon_val hl ht
  rcases Nat.eq_zero_or_pos (val m) with h0 | h0
  · rw [h0, canon_zero] at h1
    exact absurd h1 h
  · exact h0
theorem neg_good {b : Bool} {m : List Nat} (hl : Limbs m) : decide (goodI b m < 0) = (mayB b m && b) := by
  unfold goodI
  cases h : mayB b m
  · simp
  · obtain ⟨h1, _, h3⟩ := may_trim h
    cases b
    · simp [sgn]
    · have := val_pos hl h1 (h3 rfl)
      simp [sgn]; omega
theorem good_lt {b : Bool} {m : List Nat} (hl : Limbs m) : (goodI b m).natAbs < 2 ^ 256 := by
  rw [← canon_len8, canon_good hl]
  split
  · exact (may_trim ‹_›).2.1
  · simp
theorem may_canon {z : Int} (h : z.natAbs < 2 ^ 256) : mayB (decide (z < 0)) (canon z.natAbs) = true := by
  have h8 := (canon_len8 z.natAbs).2 h
  simp only [mayB, Bool.and_eq_true, decide_eq_true_eq, Bool.or_eq_true, Bool.not_eq_true', ne_eq]
  refine ⟨h8, ?_⟩
  rcases trim_canon z.natAbs with h0 | h0
  · refine .inl ⟨by rw [h0]; rfl, ?_⟩
    have := canon_nil.1 h0
    simp; omega
  · refine .inr ⟨?_, by omega⟩
    rcases Nat.eq_zero_or_pos (canon z.natAbs).length with h1 | h1
    · rw [List.eq_nil_of_length_eq_zero h1] at h0
      simp at h0
    · exact h1
theorem sgn_zero (d : Bool) : sgn d 0 = 0 := by cases d <;> rfl
theorem sgn_neg {d : Bool} {n : Nat} (h : 0 < n) : decide (sgn d n < 0) = d := by cases d <;> simp [sgn]; omega
/-- z, if it has not too many limbs. -/
def capI (z : Int) : Int := if z.natAbs < 2 ^ 256 then z else 0
def okI (z : Int) : Bool := decide (z.natAbs < 2 ^ 256)
def sgnI (n : Int) : Int := if n < 0 then -1 else if 0 < n then 1 else 0
def cmpI (a b : Nat) : Int := if a < b then -1 else if b < a then 1 else 0
/-- How two numbers lie to one another. -/
def cmpZ (a b : Int) : Int := if a < b then -1 else if b < a then 1 else 0
theorem cmpZ_np {a b : Int} (ha : a < 0) (hb : ¬ b < 0) : cmpZ a b = -1 := by unfold cmpZ; rw [if_pos (by omega)]
theorem cmpZ_pn {a b : Int} (ha : ¬ a < 0) (hb : b < 0) : cmpZ a b = 1 := by unfold cmpZ; rw [if_neg (by omega), if_pos (by omega)]
theorem cmpZ_nn {a b : Int} (ha : a < 0) (hb : b < 0) : cmpI b.natAbs a.natAbs = cmpZ a b := by
  unfold cmpZ cmpI
  by_cases h : a < b
  · rw [if_pos h, if_pos (by omega)]
  · by_cases h2 : b < a
    · rw [if_neg h, if_pos h2, if_neg (by omega), if_pos (by omega)]
    · rw [if_neg h, if_neg h2, if_neg (by omega), if_neg (by omega)]
theorem cmpZ_pp {a b : Int} (ha : ¬ a < 0) (hb : ¬ b < 0) : cmpI a.natAbs b.natAbs = cmpZ a b := by
  unfold cmpZ cmpI
  by_cases h : a < b
  · rw [if_pos h, if_pos (by omega)]
  · by_cases h2 : b < a
    · rw [if_neg h, if_pos h2, if_neg (by omega), if_pos (by omega)]
    · rw [if_neg h, if_neg h2, if_neg (by omega), if_neg (by omega)]
theorem cmpZ_zero (a b : Int) : (cmpZ a b == 0) = decide (a = b) := by
  unfold cmpZ
  by_cases h : a < b
  · rw [if_pos h]; simp; omega
  · by_cases h2 : b < a
    · rw [if_neg h, if_pos h2]; simp; omega
    · rw [if_neg h, if_neg h2]; simp; omega
theorem getD_past {m : List Nat} {k : Nat} (h : m.length ≤ k) : m.getD k 0 = 0 := by simp [List.getD, h]
theorem pow32 (p : Nat) : 4294967296 ^ p = 2 ^ (32 * p) := by rw [show 4294967296 = 2 ^ 32 by decide, ← Nat.pow_mul]
theorem val_split (l : List Nat) (p : Nat) : ∃ R, val l = val (l.take p) + 2 ^ (32 * p) * (l.getD p 0 + 4294967296 * R) := by
  refine ⟨val (l.drop (p + 1)), ?_⟩
  have h1 := val_app (l.take (p + 1)) (l.drop (p + 1))
  rw [List.take_append_drop, val_take] at h1
  rcases Nat.lt_or_ge p l.length with h | h
  · rw [List.length_take, Nat.min_eq_left (by omega), Nat.pow_succ] at h1
    rw [← pow32, h1]
    grind
  · rw [List.drop_eq_nil_of_le (by omega)] at h1 ⊢
    simp only [val] at h1 ⊢
    rw [← pow32, h1]
    grind
theorem limb_of {l : List Nat} (hl : Limbs l) (p : Nat) : val l / 2 ^ (32 * p) % 4294967296 = l.getD p 0 := by
  obtain ⟨R, h⟩ := val_split l p
  have h1 := val_take_lt hl p
  rw [pow32] at h1
  rw [h, Nat.add_mul_div_left _ _ (Nat.two_pow_pos _), Nat.div_eq_of_lt h1]
  have := hl.at p
  omega
theorem bit_of {l : List Nat} (hl : Limbs l) {p s : Nat} (hs : s < 32) : val l / 2 ^ (32 * p + s) % 2 = l.getD p 0 / 2 ^ s % 2 := by
  obtain ⟨R, h⟩ := val_split l p
  have h1 := val_take_lt hl p
  rw [pow32] at h1
  rw [Nat.pow_add, ← Nat.div_div_eq_div_mul, h, Nat.add_mul_div_left _ _ (Nat.two_pow_pos _), Nat.div_eq_of_lt h1, Nat.zero_add]
  have e : 4294967296 * R = 2 ^ s * (2 * (2 ^ (31 - s) * R)) := by
    have : 4294967296 = 2 ^ s * (2 * 2 ^ (31 - s)) := by
      rw [← Nat.pow_succ', ← Nat.pow_add, show s + (31 - s + 1) = 32 by omega]
    rw [this]
    grind
  rw [e, Nat.add_mul_div_left _ _ (Nat.two_pow_pos _)]
  omega
/-- A bit that is not there yet. -/
theorem or_pow {q s : Nat} (h : q % 2 ^ (s + 1) = 0) : q ||| 2 ^ s = q + 2 ^ s := by
  have h1 : q = 2 ^ (s + 1) * (q / 2 ^ (s + 1)) := by
    have := Nat.div_add_mod q (2 ^ (s + 1))
    omega
  have h2 : 2 ^ s < 2 ^ (s + 1) := Nat.pow_lt_pow_right (by omega) (by omega)
  have h3 := Nat.two_pow_add_eq_or_of_lt h2 (q / 2 ^ (s + 1))
  rw [← h1] at h3
  exact h3.symm
/-- The quotient's limb at p, when s bits and one more of it are to come. -/
theorem limb_low {l : List Nat} (hl : Limbs l) {p s Q : Nat} (hs : s < 32) (h : val l = 2 ^ (32 * p + s + 1) * Q) : l.getD p 0 % 2 ^ (s + 1) = 0 ∧ l.getD p 0 + 2 ^ s < 4294967296 := by
  have h1 := limb_of hl p
  have e1 : val l / 2 ^ (32 * p) = 2 ^ (s + 1) * Q := by
    rw [h, Nat.add_assoc, Nat.pow_add, Nat.mul_assoc, Nat.mul_div_cancel_left _ (Nat.two_pow_pos _)]
  have e2 : 4294967296 = 2 ^ (s + 1) * 2 ^ (31 - s) := by
    rw [← Nat.pow_add, show s + 1 + (31 - s) = 32 by omega]
  rw [e1, e2, Nat.mul_mod_mul_left] at h1
  refine ⟨by rw [← h1, Nat.mul_mod_right], ?_⟩
  have h2 : Q % 2 ^ (31 - s) < 2 ^ (31 - s) := Nat.mod_lt _ (Nat.two_pow_pos _)
  rw [← h1, e2]
  have h3 : 2 ^ (s + 1) * (Q % 2 ^ (31 - s) + 1) ≤ 2 ^ (s + 1) * 2 ^ (31 - s) := Nat.mul_le_mul_left _ h2
  have h4 : 2 ^ s < 2 ^ (s + 1) := Nat.pow_lt_pow_right (by omega) (by omega)
  rw [Nat.mul_add, Nat.mul_one] at h3
  omega
theorem div_two (a T : Nat) : a / 2 ^ T = 2 * (a / 2 ^ (T + 1)) + a / 2 ^ T % 2 := by
  rw [Nat.pow_succ, ← Nat.div_div_eq_div_mul]
  omega
/-- One bit more: the rest is too small. -/
theorem div_no {H B c : Nat} (hlt : 2 * (H % B) + c < B) : (2 * H + c) / B = 2 * (H / B) ∧ (2 * H + c) % B = 2 * (H % B) + c := by
  have h := Nat.div_add_mod H B
  have e : 2 * H + c = B * (2 * (H / B)) + (2 * (H % B) + c) := by
    rw [Nat.mul_left_comm, ← Nat.add_assoc, ← Nat.mul_add]
    omega
  have hB : 0 < B := by omega
  constructor
  · rw [e, Nat.mul_add_div hB, Nat.div_eq_of_lt hlt, Nat.add_zero]
  · rw [e, Nat.mul_add_mod, Nat.mod_eq_of_lt hlt]
/-- One bit more: the rest is enough. -/
theorem div_yes {H B c : Nat} (hB : 0 < B) (hc : c ≤ 1) (hge : B ≤ 2 * (H % B) + c) : (2 * H + c) / B = 2 * (H / B) + 1 ∧ (2 * H + c) % B = 2 * (H % B) + c - B := by
  have h := Nat.div_add_mod H B
  have hm := Nat.mod_lt H hB
  have hlt : 2 * (H % B) + c - B < B := by omega
  have e : 2 * H + c = B * (2 * (H / B) + 1) + (2 * (H % B) + c - B) := by
    rw [Nat.mul_add, Nat.mul_one, Nat.mul_left_comm]
    omega
  constructor
  · rw [e, Nat.mul_add_div hB, Nat.div_eq_of_lt hlt, Nat.add_zero]
  · rw [e, Nat.mul_add_mod, Nat.mod_eq_of_lt hlt]
/-- The quotient's limbs behind a bit that is set. -/
theorem set_bit {l : List Nat} (hl : Limbs l) {p s Q : Nat} (hp : p < l.length) (hs : s < 32) (h : val l = 2 ^ (32 * p + s + 1) * Q) :
    Limbs (l.set p (l.getD p 0 ||| 2 ^ s)) ∧ val (l.set p (l.getD p 0 ||| 2 ^ s)) = 2 ^ (32 * p + s) * (2 * Q + 1) ∧ l.getD p 0 ||| 2 ^ s < 4294967296 := by
  obtain ⟨h1, h2⟩ := limb_low hl hs h
  rw [or_pow h1]
  refine ⟨hl.set _ h2, ?_, h2⟩
  have h3 := val_set l p (l.getD p 0 + 2 ^ s) hp
  rw [pow32, Nat.mul_add] at h3
  have e : 2 ^ (32 * p) * 2 ^ s = 2 ^ (32 * p + s) := by rw [← Nat.pow_add]
  have e2 : 2 ^ (32 * p + s + 1) * Q = 2 ^ (32 * p + s) * (2 * Q) := by rw [Nat.pow_succ, Nat.mul_assoc]
  rw [e, h, e2] at h3
  rw [Nat.mul_add, Nat.mul_one]
  omega
theorem val_two (m : Nat) : val [m % 4294967296, m / 4294967296] = m := by simp [val]; omega
theorem limbs_two {m : Nat} (h : m < 18446744073709551616) : Limbs [m % 4294967296, m / 4294967296] := Limbs.cons (by omega) (Limbs.cons (by omega) Limbs.nil)
/-- What a word is worth, with a sign or without. -/
def wordI (u : Nat) (s : Bool) : Int := if s && decide (9223372036854775808 ≤ u) then (u : Int) - 18446744073709551616 else u
theorem wordI_neg (u : Nat) (h : u < 18446744073709551616) (h2 : 9223372036854775808 ≤ u) : sgn true (18446744073709551616 - u) = wordI u true := by
  simp [sgn, wordI, h2]; omega
theorem wordI_pos (u : Nat) (s : Bool) (h2 : (s && decide (9223372036854775808 ≤ u)) = false) : sgn false u = wordI u s := by
  simp [sgn, wordI, h2]
theorem add_same {a b : Int} {d : Bool} (ha : d = decide (a < 0)) (hb : d = decide (b < 0)) : sgn d (a.natAbs + b.natAbs) = a + b := by
  cases d
  · have h1 : ¬ a < 0 := by simpa using ha.symm
    have h2 : ¬ b < 0 := by simpa using hb.symm
    simp [sgn]; omega
  · have h1 : a < 0 := by simpa using ha.symm
    have h2 : b < 0 := by simpa using hb.symm
    simp [sgn]; omega
theorem add_diff {a b : Int} {d d' : Bool} (ha : d = decide (a < 0)) (hb : d' = decide (b < 0)) (hne : d ≠ d') (hle : b.natAbs ≤ a.natAbs) : sgn d (a.natAbs - b.natAbs) = a + b := by
  cases d
  · have h1 : ¬ a < 0 := by simpa using ha.symm
    have h2 : b < 0 := by
      cases d'
      · exact absurd rfl hne
      · simpa using hb.symm
    simp [sgn]; omega
  · have h1 : a < 0 := by simpa using ha.symm
    have h2 : ¬ b < 0 := by
      cases d'
      · simpa using hb.symm
      · exact absurd rfl hne
    simp [sgn]; omega
def divZ (a b : Int) : Int := if b = 0 then 0 else a.tdiv b
def remZ (a b : Int) : Int := if b = 0 then 0 else a.tmod b
def zeroE (b : Int) : Int := if b = 0 then 4 else 0
theorem sgn_div {a b : Int} {d d' : Bool} (ha : d = decide (a < 0)) (hb : d' = decide (b < 0)) : sgn (d != d') (a.natAbs / b.natAbs) = a.tdiv b := by
  subst ha hb
  have key : ∀ m n : Nat, ((m : Int).tdiv (n : Int)) = ((m / n : Nat) : Int) := fun m n => by rw [Int.ofNat_tdiv]
  rcases Int.natAbs_eq a with h1 | h1 <;> rcases Int.natAbs_eq b with h2 | h2
  · have e1 : ¬ a < 0 := by omega
    have e2 : ¬ b < 0 := by omega
    rw [decide_eq_false e1, decide_eq_false e2]
    conv => rhs; rw [h1, h2, key]
    rfl
  · by_cases e2 : b < 0
    · have e1 : ¬ a < 0 := by omega
      rw [decide_eq_false e1, decide_eq_true e2]
      conv => rhs; rw [h1, h2, Int.tdiv_neg, key]
      rfl
    · have hb0 : b = 0 := by omega
      subst hb0
      simp [sgn]
  · by_cases e1 : a < 0
    · have e2 : ¬ b < 0 := by omega
      rw [decide_eq_true e1, decide_eq_false e2]
      conv => rhs; rw [h1, h2, Int.neg_tdiv, key]
      rfl
    · have ha0 : a = 0 := by omega
      subst ha0
      simp [sgn]
  · by_cases e1 : a < 0
    · by_cases e2 : b < 0
      · rw [decide_eq_true e1, decide_eq_true e2]
        conv => rhs; rw [h1, h2, Int.neg_tdiv, Int.tdiv_neg, Int.neg_neg, key]
        rfl
      · have hb0 : b = 0 := by omega
        subst hb0
        simp [sgn]
    · have ha0 : a = 0 := by omega
      subst ha0
      simp [sgn]
theorem sgn_rem {a b : Int} {d : Bool} (ha : d = decide (a < 0)) : sgn d (a.natAbs % b.natAbs) = a.tmod b := by
  subst ha
  have key : ∀ m : Nat, ((m : Int).tmod b) = ((m % b.natAbs : Nat) : Int) := fun m => by
    rcases Int.natAbs_eq b with h2 | h2
    · conv => lhs; rw [h2]
      rw [Int.ofNat_tmod]
    · conv => lhs; rw [h2, Int.tmod_neg]
      rw [Int.ofNat_tmod]
  rcases Int.natAbs_eq a with h1 | h1
  · have e1 : ¬ a < 0 := by omega
    rw [decide_eq_false e1]
    conv => rhs; rw [h1, key]
    rfl
  · by_cases e1 : a < 0
    · rw [decide_eq_true e1]
      conv => rhs; rw [h1, Int.neg_tmod, key]
      rfl
    · have ha0 : a = 0 := by omega
      subst ha0
      simp [sgn]
theorem limb_zero {l : List Nat} (hl : Limbs l) {p : Nat} (h : val l < 4294967296 ^ p) : l.getD p 0 = 0 := by
  rw [← limb_of hl p, ← pow32, Nat.div_eq_of_lt h]
theorem mul_lt {x y : List Nat} (hx : Limbs x) (hy : Limbs y) (k : Nat) : val (x.take k) * val y < 4294967296 ^ (k + y.length) := by
  rw [Nat.pow_add]
  have h1 := val_take_lt hx k
  have h2 := val_lt hy
  exact Nat.mul_lt_mul'' h1 h2
theorem sgn_mul {a b : Int} {d d' : Bool} (ha : d = decide (a < 0)) (hb : d' = decide (b < 0)) : sgn (d != d') (a.natAbs * b.natAbs) = a * b := by
  subst ha hb
  have key : ∀ m n : Nat, ((m : Int) * (n : Int)) = ((m * n : Nat) : Int) := fun m n => by simp
  rcases Int.natAbs_eq a with h1 | h1 <;> rcases Int.natAbs_eq b with h2 | h2
  · have e1 : ¬ a < 0 := by omega
    have e2 : ¬ b < 0 := by omega
    rw [decide_eq_false e1, decide_eq_false e2]
    conv => rhs; rw [h1, h2, key]
    rfl
  · by_cases e2 : b < 0
    · have e1 : ¬ a < 0 := by omega
      rw [decide_eq_false e1, decide_eq_true e2]
      conv => rhs; rw [h1, h2, Int.mul_neg, key]
      rfl
    · have hb0 : b = 0 := by omega
      subst hb0
      simp [sgn]
  · by_cases e1 : a < 0
    · have e2 : ¬ b < 0 := by omega
      rw [decide_eq_true e1, decide_eq_false e2]
      conv => rhs; rw [h1, h2, Int.neg_mul, key]
      rfl
    · have ha0 : a = 0 := by omega
      subst ha0
      simp [sgn]
  · by_cases e1 : a < 0
    · by_cases e2 : b < 0
      · rw [decide_eq_true e1, decide_eq_true e2]
        conv => rhs; rw [h1, h2, Int.neg_mul, Int.mul_neg, Int.neg_neg, key]
        rfl
      · have hb0 : b = 0 := by omega
        subst hb0
        simp [sgn]
    · have ha0 : a = 0 := by omega
      subst ha0
      simp [sgn]
theorem two_pow_val {m : List Nat} (hm : Limbs m) {k n : Nat} (h : 32 * k ≤ n) : val (m.take k) % 2 ^ n = val (m.take k) := by
  have h1 := val_take_lt hm k
  rw [pow32] at h1
  exact Nat.mod_eq_of_lt (Nat.lt_of_lt_of_le h1 (Nat.pow_le_pow_right (by omega) h))
theorem low_none {m : List Nat} {k n : Nat} (h : n ≤ 32 * k) : val (m.take (k + 1)) % 2 ^ n = val (m.take k) % 2 ^ n := by
  rw [val_take, pow32, show 32 * k = n + (32 * k - n) by omega, Nat.pow_add, Nat.mul_assoc, Nat.add_mul_mod_self_left]
theorem low_some {m : List Nat} (hm : Limbs m) {k n : Nat} (h : 32 * k ≤ n) : val (m.take (k + 1)) % 2 ^ n = val (m.take k) % 2 ^ n + 4294967296 ^ k * (m.getD k 0 % 2 ^ (n - 32 * k)) := by
  rw [two_pow_val hm h, val_take, pow32]
  have h1 := val_take_lt hm k
  rw [pow32] at h1
  have e : 2 ^ n = 2 ^ (32 * k) * 2 ^ (n - 32 * k) := by rw [← Nat.pow_add]; congr 1; omega
  rw [e, Nat.add_comm, Nat.mod_mul, Nat.mul_add_mod, Nat.mod_eq_of_lt h1, Nat.mul_add_div (Nat.two_pow_pos _), Nat.div_eq_of_lt h1, Nat.add_zero]
theorem low_all {m : List Nat} (hm : Limbs m) {k n : Nat} (h : 32 * k + 32 ≤ n) : m.getD k 0 % 2 ^ (n - 32 * k) = m.getD k 0 := by
  have h1 := hm.at k
  refine Nat.mod_eq_of_lt (Nat.lt_of_lt_of_le h1 ?_)
  rw [show 4294967296 = 2 ^ 32 by decide]
  exact Nat.pow_le_pow_right (by omega) (by omega)
def zs8 : List Nat := List.replicate 8 0
def rangeE (n : Int) : Int := if n < 0 ∨ 256 < n then 1 else 0
def asU (n : Int) (z : Int) : Int := if n < 0 ∨ 256 < n then 0 else z % 2 ^ n.toNat
theorem asU_nat {n : Nat} (h : n ≤ 256) (z : Int) : asU n z = z % 2 ^ n := by
  rw [asU, if_neg (by omega), Int.toNat_natCast]
theorem pow_cast (n : Nat) : (2 : Int) ^ n = ((2 ^ n : Nat) : Int) := by simp
theorem asU_pos {z : Int} {n : Nat} (h : ¬ z < 0) : ((z.natAbs % 2 ^ n : Nat) : Int) = z % 2 ^ n := by
  rw [pow_cast]
  conv => rhs; rw [show z = (z.natAbs : Int) by omega]
  rw [Int.natCast_emod]
theorem asU_neg {z : Int} {n : Nat} (h : z < 0) (h0 : z.natAbs % 2 ^ n ≠ 0) : ((2 ^ n - z.natAbs % 2 ^ n : Nat) : Int) = z % 2 ^ n := by
  rw [pow_cast]
  have hz : z = -(z.natAbs : Int) := by omega
  have hp : 0 < 2 ^ n := Nat.two_pow_pos n
  generalize hP : 2 ^ n = P at *
  generalize hm : z.natAbs = m at *
  subst hz
  have h1 := Nat.div_add_mod m P
  have h2 := Nat.mod_lt m hp
  have h3 : (-(m : Int)) = ((P - m % P : Nat) : Int) + (P : Int) * (-((m / P : Nat) : Int) - 1) := by
    have h4 : (m : Int) = (P : Int) * ((m / P : Nat) : Int) + ((m % P : Nat) : Int) := by exact_mod_cast h1.symm
    rw [h4, Int.mul_sub, Int.mul_neg]
    omega
  rw [h3, Int.add_mul_emod_self_left, Int.emod_eq_of_lt (by omega) (by omega)]
theorem asU_negz {z : Int} {n : Nat} (h0 : z.natAbs % 2 ^ n = 0) : (0 : Int) = z % 2 ^ n := by
  rw [pow_cast]
  have h1 : ((2 ^ n : Nat) : Int) ∣ z := by
    rw [Int.ofNat_dvd_left]
    exact Nat.dvd_of_mod_eq_zero h0
  exact (Int.emod_eq_zero_of_dvd h1).symm
theorem asU_bd (n z : Int) : 0 ≤ asU n z ∧ (asU n z).natAbs < 2 ^ 256 := by
  unfold asU
  split
  · exact ⟨Int.le_refl _, by decide⟩
  · have h1 : n.toNat ≤ 256 := by omega
    have h2 : 2 ^ n.toNat ≤ 2 ^ 256 := Nat.pow_le_pow_right (by omega) h1
    rw [pow_cast]
    have h3 : 0 < 2 ^ n.toNat := Nat.two_pow_pos _
    generalize 2 ^ n.toNat = P at *
    have h4 := Int.emod_nonneg z (show (P : Int) ≠ 0 by omega)
    have h5 := Int.emod_lt_of_pos z (show (0 : Int) < P by omega)
    omega
def asI (n : Int) (z : Int) : Int := if n < 0 ∨ 256 < n then 0 else if n = 0 ∨ asU n z < 2 ^ (n.toNat - 1) then asU n z else asU n z - 2 ^ n.toNat
theorem asI_lo {n : Int} {z : Int} (h : n < 0 ∨ 256 < n ∨ n = 0) : asI n z = asU n z := by
  unfold asI
  by_cases h1 : n < 0 ∨ 256 < n
  · rw [if_pos h1, asU, if_pos h1]
  · rw [if_neg h1, if_pos (.inl (by omega))]
theorem asI_small {k : Nat} {z : Int} (hk : k + 1 ≤ 256) (h : asU ((k + 1 : Nat) : Int) z < 2 ^ k) : asI ((k + 1 : Nat) : Int) z = asU ((k + 1 : Nat) : Int) z := by
  unfold asI
  rw [if_neg (by omega), if_pos (.inr (by rw [Int.toNat_natCast, Nat.add_sub_cancel]; exact h))]
theorem asI_big {k : Nat} {z : Int} (hk : k + 1 ≤ 256) (h : ¬ asU ((k + 1 : Nat) : Int) z < 2 ^ k) : asI ((k + 1 : Nat) : Int) z = asU ((k + 1 : Nat) : Int) z - 2 ^ (k + 1) := by
  unfold asI
  rw [if_neg (by omega), if_neg (by rw [Int.toNat_natCast, Nat.add_sub_cancel]; omega), Int.toNat_natCast]
theorem asU_lt (k : Nat) (h : k ≤ 256) (z : Int) : asU (k : Int) z < 2 ^ k := by
  rw [asU_nat h]
  exact Int.emod_lt_of_pos _ (by rw [pow_cast]; have := Nat.two_pow_pos k; omega)
/-- A number's word. -/
def wordN (z : Int) : Nat := (asU 64 z).toNat
theorem wordN_lt (z : Int) : wordN z < 18446744073709551616 := by
  have h := asU_lt 64 (by omega) z
  have h0 := (asU_bd 64 z).1
  unfold wordN
  have e : (2 : Int) ^ 64 = 18446744073709551616 := by decide
  have h' : asU 64 z < 2 ^ 64 := h
  omega
theorem or_limb {v x k : Nat} (hv : v < 2 ^ (32 * k)) : v ||| x * 2 ^ (32 * k) = v + 4294967296 ^ k * x := by
  have h := Nat.two_pow_add_eq_or_of_lt hv x
  rw [Nat.or_comm, Nat.mul_comm x, ← h, pow32]
  omega
/-- The digits of a number, the least first; nought has none. -/
def digs (n : Nat) : List Nat := if h : n = 0 then [] else n % 10 :: digs (n / 10)
termination_by n
decreasing_by omega
theorem digs_zero : digs 0 = [] := by unfold digs; simp
theorem digs_pos {n : Nat} (h : 0 < n) : digs n = n % 10 :: digs (n / 10) := by
  conv => lhs; unfold digs
  rw [dif_neg (by omega)]
theorem digs_len {n k : Nat} (h : n < 10 ^ k) : (digs n).length ≤ k := by
  induction k generalizing n with
  | zero =>
    have : n = 0 := by simpa using h
    rw [this, digs_zero]; simp
  | succ k ih =>
    rcases Nat.eq_zero_or_pos n with rfl | h0
    · rw [digs_zero]; simp
    · rw [digs_pos h0, List.length_cons]
      have : n / 10 < 10 ^ k := by
        rw [Nat.pow_succ] at h
        exact Nat.div_lt_of_lt_mul (by rw [Nat.mul_comm]; exact h)
      have := ih this
      omega
theorem digs_big {n : Nat} (h : n < 2 ^ 256) : (digs n).length ≤ 78 := digs_len (Nat.lt_trans h (by decide +kernel))
theorem digs_lt {n d : Nat} (h : d ∈ digs n) : d < 10 := by
  induction n using Nat.strongRecOn with
  | ind n ih =>
    rcases Nat.eq_zero_or_pos n with rfl | h0
    · rw [digs_zero] at h; cases h
    · rw [digs_pos h0] at h
      rcases List.mem_cons.1 h with rfl | h
      · omega
      · exact ih _ (by omega) h
/-- A digit's letter. -/
def letter (d : Nat) : Int := ((48 + d : Nat) : Int)
/-- The text of a number. -/
def textI (z : Int) : List Int := if z = 0 then [48] else (if z < 0 then [45] else []) ++ ((digs z.natAbs).map letter).reverse
theorem val_drop (l : List Nat) (k : Nat) : val (l.drop k) = l.getD k 0 + 4294967296 * val (l.drop (k + 1)) := by
  rcases Nat.lt_or_ge k l.length with h | h
  · rw [List.drop_eq_getElem_cons h]
    simp [val, List.getD, h]
  · rw [List.drop_eq_nil_of_le h, List.drop_eq_nil_of_le (by omega)]
    simp [val, List.getD, h]
theorem getD_set_self {l : List Nat} {k : Nat} (x : Nat) (h : k < l.length) : (l.set k x).getD k 0 = x := by simp [List.getD, h]
/-- A number divided by ten, limb by limb from the top. -/
structure TenAt (m m2 : List Nat) (k r : Nat) : Prop where
  limbs : Limbs m2
  len : m2.length = m.length
  same : ∀ j, j < k → m2.getD j 0 = m.getD j 0
  quot : val (m2.drop k) = val (m.drop k) / 10
  rest : r = val (m.drop k) % 10
theorem ten_start {m : List Nat} (h : Limbs m) : TenAt m m m.length 0 := by
  refine ⟨h, rfl, fun _ _ => rfl, ?_, ?_⟩ <;> simp [val]
theorem ten_step {m m2 : List Nat} {p r : Nat} (hm : Limbs m) (h : TenAt m m2 (p + 1) r) (hp : p < m.length) :
    TenAt m (m2.set p ((r * 4294967296 + m.getD p 0) / 10)) p ((r * 4294967296 + m.getD p 0) % 10) ∧ (r * 4294967296 + m.getD p 0) / 10 < 4294967296 ∧ r < 10 := by
  have hx := hm.at p
  have hr : r < 10 := by rw [h.rest]; exact Nat.mod_lt _ (by omega)
  have hq : (r * 4294967296 + m.getD p 0) / 10 < 4294967296 := by omega
  have hd := val_drop m p
  have hr' := h.rest
  have hq' := h.quot
  generalize hH : val (m.drop (p + 1)) = H at hd hr' hq'
  generalize hxx : m.getD p 0 = x at *
  have hdm : H = 10 * (H / 10) + r := by omega
  generalize hQ : H / 10 = Q at *
  have e : x + 4294967296 * H = 10 * (4294967296 * Q) + (r * 4294967296 + x) := by omega
  generalize hs : r * 4294967296 + x = s at *
  refine ⟨⟨h.limbs.set _ hq, by simp [h.len], fun j hj => ?_, ?_, ?_⟩, hq, hr⟩
  · rw [← h.same j (by omega)]
    simp [List.getD, show p ≠ j by omega]
  · have h1 := val_drop (m2.set p (s / 10)) p
    have h2 : (m2.set p (s / 10)).getD p 0 = s / 10 := getD_set_self _ (by rw [h.len]; exact hp)
    have h3 : (m2.set p (s / 10)).drop (p + 1) = m2.drop (p + 1) := by rw [List.drop_set_of_lt (by omega)]
    rw [h3, hq', h2] at h1
    rw [hd, e, h1]
    generalize 4294967296 * Q = y
    omega
  · rw [hd, e, Nat.mul_add_mod 10 (4294967296 * Q) s]
theorem ten_end {m m2 : List Nat} {r : Nat} (h : TenAt m m2 0 r) : val m2 = val m / 10 ∧ r = val m % 10 := by
  have h1 := h.quot
  have h2 := h.rest
  rw [List.drop_zero, List.drop_zero] at h1
  rw [List.drop_zero] at h2
  exact ⟨h1, h2⟩
/-- A list whose first i and last i are exchanged. -/
def turned (l : List Int) (i : Nat) : List Int := (List.range l.length).map fun t => if t < i ∨ l.length - 1 - t < i then l.getD (l.length - 1 - t) 0 else l.getD t 0
theorem length_turned (l : List Int) (i : Nat) : (turned l i).length = l.length := by simp [turned]
theorem get_turned (l : List Int) (i t : Nat) (h : t < l.length) : (turned l i).getD t 0 = if t < i ∨ l.length - 1 - t < i then l.getD (l.length - 1 - t) 0 else l.getD t 0 := by
  simp [turned, List.getD, h]
theorem ext_getD {a b : List Int} (hl : a.length = b.length) (h : ∀ t, t < a.length → a.getD t 0 = b.getD t 0) : a = b := by
  refine List.ext_getElem hl fun t h1 h2 => ?_
  have := h t h1
  simpa [List.getD, h1, h2] using this
theorem getD_set (l : List Int) (k t : Nat) (x : Int) (h : k < l.length) : (l.set k x).getD t 0 = if t = k then x else l.getD t 0 := by
  by_cases e : t = k
  · subst e; simp [List.getD, h]
  · rw [if_neg e]; simp [List.getD, Ne.symm e]
theorem turned_zero (l : List Int) : turned l 0 = l := by
  refine ext_getD (length_turned l 0) fun t ht => ?_
  rw [length_turned] at ht
  rw [get_turned l 0 t ht, if_neg (by omega)]
theorem turned_succ (l : List Int) (i : Nat) (h : i + i + 1 < l.length) : ((turned l i).set i ((turned l i).getD (l.length - 1 - i) 0)).set (l.length - 1 - i) ((turned l i).getD i 0) = turned l (i + 1) := by
  refine ext_getD (by simp [length_turned]) fun t ht => ?_
  have ht' : t < l.length := by simpa [length_turned] using ht
  rw [getD_set _ _ _ _ (by simp [length_turned]; omega), getD_set _ _ _ _ (by rw [length_turned]; omega), get_turned l i _ (by omega), get_turned l i _ (by omega), get_turned l i _ ht', get_turned l (i + 1) _ ht']
  have e1 : l.length - 1 - (l.length - 1 - i) = i := by omega
  rw [e1]
  by_cases h1 : t = l.length - 1 - i
  · subst h1
    rw [e1, if_pos rfl, if_neg (by omega), if_pos (by omega)]
  · rw [if_neg h1]
    by_cases h2 : t = i
    · subst h2
      rw [if_pos rfl, if_neg (by omega), if_pos (by omega)]
    · rw [if_neg h2]
      by_cases h3 : t < i ∨ l.length - 1 - t < i
      · rw [if_pos h3, if_pos (by omega)]
      · rw [if_neg h3, if_neg (by omega)]
theorem turned_end (l : List Int) (i : Nat) (h : l.length ≤ i + i + 1) : turned l i = l.reverse := by
  refine ext_getD (by simp [length_turned]) fun t ht => ?_
  rw [length_turned] at ht
  have hr : l.reverse.getD t 0 = l.getD (l.length - 1 - t) 0 := by
    rw [List.getD, List.getD, List.getElem?_reverse ht]
  rw [get_turned l i t ht, hr]
  by_cases h3 : t < i ∨ l.length - 1 - t < i
  · rw [if_pos h3]
  · rw [if_neg h3, show l.length - 1 - t = t by omega]
theorem or_word {r x : Nat} (hx : x < 4294967296) : (r * 4294967296) ||| x = r * 4294967296 + x := by
  have e : 4294967296 = 2 ^ 32 := by decide
  have hx' : x < 2 ^ 32 := by omega
  have h := Nat.two_pow_add_eq_or_of_lt hx' r
  rw [Nat.mul_comm, e, ← h]
theorem textI_pos {z : Int} (h : z ≠ 0) : textI z = ((digs z.natAbs).map letter ++ (if z < 0 then [45] else [])).reverse := by
  rw [textI, if_neg h]
  split <;> simp
def isDig (c : UInt8) : Bool := decide (48 ≤ c.toNat) && decide (c.toNat ≤ 57)
/-- Are these a number's digits, without noughts ahead? -/
def digB (l : List UInt8) : Bool := l.all isDig && (decide (l ≠ []) && (decide (l.head? ≠ some 48) || l == [48]))
theorem len_data (s : ByteArray) : s.data.toList.length = s.size := Array.length_toList
structure MulTen (m m2 : List Nat) (t cc dg : Nat) : Prop where
  limbs : Limbs m2
  len : m2.length = m.length
  same : ∀ j, t ≤ j → m2.getD j 0 = m.getD j 0
  sum : val (m2.take t) + 4294967296 ^ t * cc = 10 * val (m.take t) + dg
theorem mulTen_start {m : List Nat} (h : Limbs m) (dg : Nat) : MulTen m m 0 dg dg := ⟨h, rfl, fun _ _ => rfl, by simp [val]⟩
theorem take_set_self (l : List Nat) (k x : Nat) : (l.set k x).take k = l.take k := List.take_set_of_le (Nat.le_refl _)
theorem mulTen_step {m m2 : List Nat} {t cc dg : Nat} (hm : Limbs m) (h : MulTen m m2 t cc dg) (ht : t < m.length) (hc : cc ≤ 9) :
    MulTen m (m2.set t ((cc + 10 * m.getD t 0) % 4294967296)) (t + 1) ((cc + 10 * m.getD t 0) / 4294967296) dg ∧ (cc + 10 * m.getD t 0) / 4294967296 ≤ 9 := by
  have hx := hm.at t
  have h1 := val_take m t
  generalize m.getD t 0 = x at *
  refine ⟨⟨h.limbs.set _ (by omega), by simp [h.len], fun j hj => ?_, ?_⟩, by omega⟩
  · rw [← h.same j (by omega)]
    simp [List.getD, show t ≠ j by omega]
  · have h2 := val_take (m2.set t ((cc + 10 * x) % 4294967296)) t
    have h3 : (m2.set t ((cc + 10 * x) % 4294967296)).getD t 0 = (cc + 10 * x) % 4294967296 := getD_set_self _ (by rw [h.len]; exact ht)
    have h4 := h.sum
    have h5 := Nat.mod_add_div (cc + 10 * x) 4294967296
    rw [h3, take_set_self] at h2
    rw [h2, h1, Nat.pow_succ]
    generalize (cc + 10 * x) % 4294967296 = r at *
    generalize (cc + 10 * x) / 4294967296 = q at *
    generalize 4294967296 ^ t = p at *
    grind
theorem mulTen_end {m m2 : List Nat} {cc dg : Nat} (h : MulTen m m2 m.length cc dg) : val (m2 ++ [cc]) = 10 * val m + dg := by
  have h1 := h.sum
  rw [List.take_of_length_le (by rw [h.len]; exact Nat.le_refl _), List.take_of_length_le (Nat.le_refl _)] at h1
  rw [val_snoc, h.len]
  exact h1
/-- What digits are worth. -/
def decV (l : List UInt8) : Nat := l.foldl (fun v c => 10 * v + (c.toNat - 48)) 0
theorem decV_snoc (l : List UInt8) (c : UInt8) : decV (l ++ [c]) = 10 * decV l + (c.toNat - 48) := by simp [decV]
theorem decV_mono (l : List UInt8) (k : Nat) : decV (l.take k) ≤ decV l := by
  have : ∀ (a b : List UInt8), decV a ≤ decV (a ++ b) := by
    intro a b
    induction b generalizing a with
    | nil => simp
    | cons c b ih =>
      have h1 := ih (a ++ [c])
      rw [List.append_assoc, decV_snoc] at h1
      simp only [List.singleton_append] at h1
      omega
  have h := this (l.take k) (l.drop k)
  rwa [List.take_append_drop] at h
def parseD (neg : Bool) (d : List UInt8) : Int × Int := if digB d = true then (if 2 ^ 256 ≤ decV d then (0, 3) else (sgn neg (decV d), 0)) else (0, 2)
/-- What a text is read as, and the error. -/
def parseZ (l : List UInt8) : Int × Int := if l.head? = some 45 then (if l = [45, 48] then (0, 2) else parseD true l.tail) else parseD false l
theorem ext_tail (s : ByteArray) : (s.extract 1 s.size).data.toList = s.data.toList.tail := by
  rw [Go.Lib.extract_to_end]
  simp
theorem digs_one {d : Nat} (h0 : 0 < d) (h : d < 10) : digs d = [d] := by
  rw [digs_pos h0, Nat.mod_eq_of_lt h, Nat.div_eq_of_lt h, digs_zero]
theorem textI_m3 : textI (-3) = [45, 51] := by
  rw [textI, if_neg (by decide), if_pos (by decide), show (-3 : Int).natAbs = 3 from rfl, digs_one (by omega) (by omega)]; rfl
theorem textI_m1 : textI (-1) = [45, 49] := by
  rw [textI, if_neg (by decide), if_pos (by decide), show (-1 : Int).natAbs = 1 from rfl, digs_one (by omega) (by omega)]; rfl
theorem textI_m56 : textI (-56) = [45, 53, 54] := by
  rw [textI, if_neg (by decide), if_pos (by decide), show (-56 : Int).natAbs = 56 from rfl, digs_pos (by omega), show 56 / 10 = 5 from rfl, digs_one (by omega) (by omega)]; rfl
def lettersU (n : Nat) : List UInt8 := ((digs n).map fun d => UInt8.ofNat (48 + d)).reverse
theorem lettersU_zero : lettersU 0 = [] := by simp [lettersU, digs_zero]
theorem lettersU_pos {n : Nat} (h : 0 < n) : lettersU n = lettersU (n / 10) ++ [UInt8.ofNat (48 + n % 10)] := by
  simp [lettersU, digs_pos h]
theorem letter_nat {d : Nat} (h : d < 10) : (UInt8.ofNat (48 + d)).toNat = 48 + d := by
  rw [UInt8.toNat_ofNat', Nat.mod_eq_of_lt (by omega)]
theorem lettersU_val (n : Nat) : decV (lettersU n) = n := by
  induction n using Nat.strongRecOn with
  | ind n ih =>
    rcases Nat.eq_zero_or_pos n with rfl | h0
    · rw [lettersU_zero]; rfl
    · rw [lettersU_pos h0, decV_snoc, ih _ (by omega), letter_nat (Nat.mod_lt _ (by omega))]
      omega
theorem lettersU_dig (n : Nat) : (lettersU n).all isDig = true := by
  rw [List.all_eq_true]
  intro c hc
  simp only [lettersU, List.mem_reverse, List.mem_map] at hc
  obtain ⟨d, hd, rfl⟩ := hc
  have := digs_lt hd
  rw [isDig, letter_nat this]
  simp; omega
theorem lettersU_head {n : Nat} (h : 0 < n) : ∃ c, (lettersU n).head? = some c ∧ 48 < c.toNat := by
  induction n using Nat.strongRecOn with
  | ind n ih =>
    rw [lettersU_pos h]
    rcases Nat.eq_zero_or_pos (n / 10) with h1 | h1
    · rw [h1, lettersU_zero]
      refine ⟨UInt8.ofNat (48 + n % 10), rfl, ?_⟩
      rw [letter_nat (Nat.mod_lt _ (by omega))]
      omega
    · obtain ⟨c, hc, h2⟩ := ih _ (by omega) h1
      refine ⟨c, ?_, h2⟩
      rw [List.head?_append, hc]; rfl
theorem lettersU_digB {n : Nat} (h : 0 < n) : digB (lettersU n) = true := by
  obtain ⟨c, hc, h2⟩ := lettersU_head h
  have hne : lettersU n ≠ [] := by intro h0; rw [h0] at hc; cases hc
  have hh : (lettersU n).head? ≠ some 48 := by
    intro h0
    rw [hc] at h0
    have : c = 48 := by simpa using h0
    rw [this] at h2
    exact absurd h2 (by decide)
  rw [digB, lettersU_dig, decide_eq_true hne, decide_eq_true hh]
  rfl
theorem textU_eq (z : Int) : (strOfNums (textI z)).data.toList = if z = 0 then [48] else (if z < 0 then [45] else []) ++ lettersU z.natAbs := by
  have hl : ((digs z.natAbs).map letter).reverse.map (fun n => UInt8.ofNat n.toNat) = lettersU z.natAbs := by
    simp only [lettersU, List.map_reverse, List.map_map]
    congr 1
  unfold strOfNums textI
  simp only
  split
  · rfl
  · rw [List.map_append, hl]
    split <;> rfl
theorem parse_text {z : Int} (h : z.natAbs < 2 ^ 256) : parseZ (strOfNums (textI z)).data.toList = (z, 0) := by
  rw [textU_eq]
  have hd : ∀ b n, 0 < n → n < 2 ^ 256 → parseD b (lettersU n) = (sgn b n, 0) := by
    intro b n h0 h1
    rw [parseD, if_pos (lettersU_digB h0), lettersU_val, if_neg (by omega)]
  split
  · rename_i h0
    subst h0
    decide
  · rename_i h0
    obtain ⟨c, hc, h2⟩ := lettersU_head (n := z.natAbs) (by omega)
    split
    · have hne : ([45] ++ lettersU z.natAbs : List UInt8) ≠ [45, 48] := by
        intro h3
        have h4 : lettersU z.natAbs = [48] := by simpa using h3
        rw [h4] at hc
        have : c = 48 := by simpa using hc.symm
        rw [this] at h2
        exact absurd h2 (by decide)
      rw [parseZ, if_pos (show ([45] ++ lettersU z.natAbs : List UInt8).head? = some 45 from rfl), if_neg hne]
      show parseD true (lettersU z.natAbs) = _
      rw [hd _ _ (by omega) h]
      simp [sgn]; omega
    · have hn : (([] : List UInt8) ++ lettersU z.natAbs).head? ≠ some 45 := by
        rw [List.nil_append, hc]
        intro h3
        have : c = 45 := by simpa using h3
        rw [this] at h2
        exact absurd h2 (by decide)
      rw [parseZ, if_neg hn, List.nil_append, hd _ _ (by omega) h]
      simp [sgn]; omega
theorem text_size {z : Int} (h : z.natAbs < 2 ^ 256) : (strOfNums (textI z)).size ≤ 100000 := by
  have h1 := digs_big h
  rw [← len_data, textU_eq]
  split
  · simp
  · have h2 : (lettersU z.natAbs).length = (digs z.natAbs).length := by simp [lettersU]
    split <;> simp [h2] <;> omega
theorem wordI_abs {u : Nat} {s : Bool} (hu : u < 18446744073709551616) : (wordI u s).natAbs < 2 ^ 256 := by
  have h1 : (18446744073709551616 : Nat) < 2 ^ 256 := by decide +kernel
  generalize (2 : Nat) ^ 256 = Q at *
  unfold wordI
  split
  · rename_i h; simp at h; omega
  · omega
theorem u64_nat {n : Int} (h : (Lit.int .u64 n).wf = true) : ∃ u : Nat, n = (u : Int) ∧ u < 18446744073709551616 := by
  simp only [Lit.wf, Bool.and_eq_true, decide_eq_true_eq] at h
  have h1 : IntKind.u64.min = 0 := rfl
  have h2 : IntKind.u64.max = 18446744073709551615 := rfl
  rw [h1, h2] at h
  exact ⟨n.toNat, by omega, by omega⟩
theorem zero_abs : (0 : Int).natAbs < 2 ^ 256 := by decide +kernel
theorem zero_lo : (-9223372036854775808 : Int) ≤ 0 := by decide
theorem zero_hi : (0 : Int) ≤ 9223372036854775807 := by decide
theorem cmpZ_asU (n z : Int) : 0 ≤ cmpZ (asU n z) 0 := by
  have := (asU_bd n z).1
  unfold cmpZ
  repeat' split <;> omega
end Go.Proofs.Ytecgdgjlmlpcnaa
