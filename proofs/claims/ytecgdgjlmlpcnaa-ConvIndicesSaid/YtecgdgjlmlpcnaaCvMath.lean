/- Plain laws for the walks of conv: sizes from above, lists, values. -/
import Derived.Test.YtecgdgjlmlpcnaaCvSpec
import Derived.Lib.SliceRun
namespace Go.Proofs.Ytecgdgjlmlpcnaa
open Go.RowKit
set_option linter.unusedSimpArgs false
set_option linter.unusedVariables false
theorem trim_dn' {m : List Nat} {k : Nat} (h0 : 0 < k) (hk : k ≤ m.length) (h : decide ((((m.take k).getD (((m.take k).length : Int) - 1).toNat 0 : Nat) : Int) = 0) = true) (hv : val (m.take k) = val m) : val (m.take (k - 1)) = val m := by
  have h1 := of_decide_eq_true h
  have hl : (m.take k).length = k := by rw [List.length_take]; omega
  rw [hl, show ((k : Int) - 1).toNat = k - 1 by omega] at h1
  have h2 := trim_step (m.take k) (fun e => by rw [e] at hl; simp at hl; omega) (by rw [hl]; omega)
  rw [hl, List.take_take, show min (k - 1) k = k - 1 by omega] at h2
  rw [h2, hv]
theorem trim_nz' {m : List Nat} {k : Nat} (h0 : 0 < k) (hk : k ≤ m.length) (h : decide ((((m.take k).getD (((m.take k).length : Int) - 1).toNat 0 : Nat) : Int) = 0) = false) : 0 < (m.take k).getD (k - 1) 0 := by
  have h1 := of_decide_eq_false h
  have hl : (m.take k).length = k := by rw [List.length_take]; omega
  rw [hl, show ((k : Int) - 1).toNat = k - 1 by omega] at h1
  omega
theorem trim_end' {m : List Nat} {k : Nat} (hl : Limbs m) (hk : k ≤ m.length) (hv : val (m.take k) = val m) (h : k = 0 ∨ 0 < (m.take k).getD (k - 1) 0) : m.take k = canon (val m) := by
  rw [← hv]
  refine canon_val (hl.take k) ?_
  rcases h with rfl | h
  · exact .inl (by simp)
  · exact .inr (by rw [List.length_take, Nat.min_eq_left hk]; exact h)
def cmpI1 (n : Int) : Int := if decide (n < 0) then -1 else if !decide (n ≤ 0) then 1 else 0
theorem sign_eq (n : Int) : min (max n (-1)) 1 = cmpI1 n := by
  unfold cmpI1
  by_cases h1 : n < 0
  · rw [decide_eq_true h1, if_pos rfl]; omega
  · rw [decide_eq_false h1]
    by_cases h2 : n ≤ 0
    · rw [decide_eq_true h2]; simp; omega
    · rw [decide_eq_false h2]; simp; omega
theorem row_none {w : World} {k : IntKind} {A : Option Addr} {xs : List Nat} {c : Nat} (h : SRow w k A xs c) (hA : A.isNone = true) : xs = [] := by
  rcases h.2 with ⟨h0, _⟩ | ⟨b, off, c', hv, _⟩
  · exact List.eq_nil_of_length_eq_zero h0
  · injection hv with h1 _ _
    rw [h1] at hA; cases hA
theorem made_zero {d : Bool} {n : Nat} (h : decide (((canon n).length : Int) = 0) = true) : sgn d n = 0 := by
  have h1 := of_decide_eq_true h
  rw [canon_nil.1 (List.eq_nil_of_length_eq_zero (l := canon n) (by omega)), sgn_zero]
theorem made_nz {d : Bool} {n : Nat} (h : decide (((canon n).length : Int) = 0) = false) : decide (sgn d n < 0) = d := by
  have h1 := of_decide_eq_false h
  rcases Nat.eq_zero_or_pos n with h2 | h2
  · rw [h2, canon_zero] at h1; simp at h1
  · exact sgn_neg h2
theorem above_dn1 {a b : List Nat} {n : Nat} (h : Above a b n) (h0 : 0 < n) (h1 : decide (((a.getD ((n : Int) - 1).toNat 0 : Nat) : Int) = ((b.getD ((n : Int) - 1).toNat 0 : Nat) : Int)) = true) : Above a b (n - 1) := by
  have h3 := of_decide_eq_true h1
  rw [show ((n : Int) - 1).toNat = n - 1 by omega] at h3
  intro j hj
  rcases Nat.lt_or_ge j n with h5 | h5
  · obtain rfl : j = n - 1 := by omega
    omega
  · exact h j h5
theorem above_of_eqlen {a b : List Nat} (h : a.length = b.length) : Above a b a.length := fun j hj => by
  simp [List.getD, show a.length ≤ j by omega, show b.length ≤ j by omega]
theorem cmp_len {a b : List Nat} (ha : Limbs a) (hb : Limbs b) (hta : Trim a) (htb : Trim b) (h : a.length ≠ b.length) : cmpI1 ((a.length : Int) - (b.length : Int)) = cmpI (val a) (val b) := by
  unfold cmpI1 cmpI
  rcases Nat.lt_or_ge a.length b.length with h1 | h1
  · rw [decide_eq_true (by omega), if_pos rfl, if_pos (len_lt ha htb h1)]
  · have h2 := len_lt hb hta (show b.length < a.length by omega)
    rw [decide_eq_false (by omega), decide_eq_false (by omega)]
    simp [show ¬ val a < val b by omega, h2]
theorem cmp_same {a b : List Nat} {n : Nat} (h : Above a b n) (h0 : n = 0) : cmpI (val a) (val b) = 0 := by
  subst h0
  have := eq_of_above h
  unfold cmpI
  rw [if_neg (by omega), if_neg (by omega)]
theorem cmp_at {a b : List Nat} {n : Nat} (ha : Limbs a) (hb : Limbs b) (h : Above a b n) (h0 : 0 < n) (h1 : decide (((a.getD ((n : Int) - 1).toNat 0 : Nat) : Int) = ((b.getD ((n : Int) - 1).toNat 0 : Nat) : Int)) = false) :
    cmpI1 (((a.getD ((n : Int) - 1).toNat 0 : Nat) : Int) - ((b.getD ((n : Int) - 1).toNat 0 : Nat) : Int)) = cmpI (val a) (val b) := by
  have h3 := of_decide_eq_false h1
  rw [show ((n : Int) - 1).toNat = n - 1 by omega] at h3 ⊢
  have e : n - 1 + 1 = n := by omega
  unfold cmpI1 cmpI
  rcases Nat.lt_or_ge (a.getD (n - 1) 0) (b.getD (n - 1) 0) with h4 | h4
  · have := lt_of_diff ha (k := n - 1) (by rw [e]; exact h) h4
    rw [decide_eq_true (by omega), if_pos rfl, if_pos this]
  · have := lt_of_diff hb (k := n - 1) (a := b) (b := a) (by rw [e]; exact fun j hj => (h j hj).symm) (by omega)
    rw [decide_eq_false (by omega), decide_eq_false (by omega)]
    simp [show ¬ val a < val b by omega, this]
theorem same_cmp (x y : Int) : decide (cmpZ x y = 0) = decide (x = y) := by
  rw [decide_eq_decide]
  unfold cmpZ
  split
  · omega
  · split <;> omega
theorem two_limbs_m (u : Nat) : Limbs [u % 4294967296, u / 4294967296 % 4294967296] := Limbs.cons (by omega) (Limbs.cons (by omega) Limbs.nil)
theorem two_val_m {u : Nat} (hu : u < 18446744073709551616) : val [u % 4294967296, u / 4294967296 % 4294967296] = u := by simp [val]; omega
theorem of_conv (n : Int) : IntKind.u64.wrap n = (((n % 18446744073709551616).toNat : Nat) : Int) := by
  rw [Int.toNat_of_nonneg (by omega)]
  simp [IntKind.wrap, IntKind.bits, IntKind.signed]
theorem v_negU {P : Program} {o : Oper} {a : Act} {w : World} {t : TypeId} {x : Operand} {k : IntKind} {m r : Int} (ho : o.op = .unOp .neg t x) (hx : a.eval x = .int k m) (hr : k.wrap (-m) = r) : (execOp a.eval o).run P w = .ok (.value (.int k r)) w := by
  simp [execOp, ho, hx, Op.unary, Op.intArith, hr]
theorem of_neg {n : Int} (hlo : -9223372036854775808 ≤ n) (h : n < 0) : IntKind.u64.wrap (-(((n % 18446744073709551616).toNat : Nat) : Int)) = (((-n).toNat : Nat) : Int) := by
  rw [Int.toNat_of_nonneg (by omega), Int.toNat_of_nonneg (by omega)]
  simp [IntKind.wrap, IntKind.bits, IntKind.signed]
  omega
theorem of_yes {n : Int} (hlo : -9223372036854775808 ≤ n) (h : decide (n < 0) = true) : sgn true (val [(-n).toNat % 4294967296, (-n).toNat / 4294967296 % 4294967296]) = n := by
  have := of_decide_eq_true h
  rw [two_val_m (by omega)]
  show -(((-n).toNat : Nat) : Int) = n
  omega
theorem of_no {n : Int} (hhi : n ≤ 9223372036854775807) (h : decide (n < 0) = false) : sgn false (val [(n % 18446744073709551616).toNat % 4294967296, (n % 18446744073709551616).toNat / 4294967296 % 4294967296]) = n := by
  have := of_decide_eq_false h
  rw [two_val_m (by omega)]
  show (((n % 18446744073709551616).toNat : Nat) : Int) = n
  omega
theorem eq_up {a b : List Nat} {i : Nat} (h : ∀ j, j < i → a.getD j 0 = b.getD j 0) (hi : i < a.length) (h1 : decide (((a.getD i 0 : Nat) : Int) = ((b.getD i 0 : Nat) : Int)) = true) : ∀ j, j < i + 1 → a.getD j 0 = b.getD j 0 := by
  intro j hj
  rcases Nat.lt_or_ge j i with h2 | h2
  · exact h j h2
  · obtain rfl : j = i := by omega
    have := of_decide_eq_true h1
    omega
theorem eq_all {a b : List Nat} {i : Nat} (hl : a.length = b.length) (hi : i = a.length) (h : ∀ j, j < i → a.getD j 0 = b.getD j 0) : a = b := by
  refine List.ext_getElem hl fun j h1 h2 => ?_
  have := h j (by omega)
  simpa [List.getD, h1, h2] using this
def sameV (v u : Vl) : Bool := decide (v.k = u.k) && (decide (v.nk = u.nk) && decide (v.nn = u.nn)) && decide (v.neg = u.neg) && decide (v.mag = u.mag) && decide (v.s = u.s) && decide (v.ref = u.ref)
def countedV (v : Vl) : Vl := if decide (v.k = 2) then ⟨3, 0, v.ref, false, [], [], 0⟩ else v
def truthV (t : Bool) : Vl := if t then ⟨2, 0, 0, false, [], [], 1⟩ else ⟨2, 0, 0, false, [], [], 0⟩
def alikeB (b : Bool) (m : List Nat) (a : Nm) : Bool := if decide (a.k = 1) then (if decide ((m.length : Int) = 0) then true else false) else if decide (a.k = 0) then decide (goodI b m = a.n) else false
theorem good_canon {z : Int} (h : z.natAbs < 2 ^ 256) : goodI (decide (z < 0)) (canon z.natAbs) = z := by
  unfold goodI
  rw [if_pos (may_canon h), val_canon]
  unfold sgn
  split
  · rename_i h; simp at h; omega
  · rename_i h; simp at h; omega
theorem whole_bd (a : Nm) : -9007199254740991 ≤ (wholeM a).n ∧ (wholeM a).n ≤ 9007199254740991 := by
  have := as_bd a
  unfold wholeM
  split
  · exact ⟨by decide, by decide⟩
  · exact this
end Go.Proofs.Ytecgdgjlmlpcnaa
