/- The document's texts of numbers, as plain Lean. -/
import Derived.Test.YtecgdgjlmlpcnaaCvRefM
namespace Go.Proofs.Ytecgdgjlmlpcnaa
open Go.RowKit
set_option linter.unusedSimpArgs false
set_option linter.unusedVariables false
theorem tr_up {u : List Nat} {i : Nat} (h : i < u.length) (hb : blankN (u.getD i 0) = true) : (u.drop (i + 1)).dropWhile blankN = (u.drop i).dropWhile blankN := by
  rw [drop_at h, List.dropWhile_cons, if_pos (by simpa using hb)]
theorem tr_mid {u : List Nat} {i : Nat} (hcd : (u.drop i).dropWhile blankN = u.dropWhile blankN) (h : u.length ≤ i ∨ (i < u.length ∧ blankN (u.getD i 0) = false)) : rtrimN (u.drop i) = trimN u := by
  unfold trimN
  rw [← hcd]
  rcases h with h | ⟨h0, h⟩
  · rw [List.drop_eq_nil_of_le h]; rfl
  · rw [drop_at h0, List.dropWhile_cons, if_neg (by simpa using h)]
theorem tr_len {u : List Nat} {i j : Nat} (h2 : j ≤ u.length) : ((u.take j).drop i).length = j - i := by
  rw [List.length_drop, List.length_take, Nat.min_eq_left h2]
theorem tr_last {u : List Nat} {i j : Nat} (h : i < j) (h2 : j ≤ u.length) : ((u.take j).drop i).getD (((u.take j).drop i).length - 1) 0 = u.getD (j - 1) 0 := by
  rw [tr_len h2, List.getD_eq_getElem?_getD, List.getD_eq_getElem?_getD, List.getElem?_drop, List.getElem?_take, if_pos (by omega), show i + (j - i - 1) = j - 1 by omega]
theorem tr_dn {u : List Nat} {i j : Nat} (h : i < j) (h2 : j ≤ u.length) (hb : blankN (u.getD ((j : Int) - 1).toNat 0) = true) : rtrimN ((u.take (j - 1)).drop i) = rtrimN ((u.take j).drop i) := by
  rw [show ((j : Int) - 1).toNat = j - 1 by omega] at hb
  rw [← rt_step (l := (u.take j).drop i) (by rw [tr_len h2]; omega) (by rw [tr_last h h2]; exact hb), tr_len h2]
  congr 1
  rw [List.take_drop, List.take_take]
  congr 2
  omega
theorem tr_end {u : List Nat} {i j : Nat} (h2 : j ≤ u.length) (hc : rtrimN ((u.take j).drop i) = trimN u) (h : j ≤ i ∨ (i < j ∧ blankN (u.getD ((j : Int) - 1).toNat 0) = false)) : (u.take j).drop i = trimN u := by
  rw [← hc]
  refine (rt_end ?_).symm
  rcases h with h | ⟨h0, h⟩
  · exact .inl (by rw [tr_len h2]; omega)
  · rw [show ((j : Int) - 1).toNat = j - 1 by omega] at h
    exact .inr ⟨by rw [tr_len h2]; omega, by rw [tr_last h0 h2]; exact h⟩
theorem any_false {p : Nat → Bool} {l : List Nat} (h : ∀ j, j < l.length → p (l.getD j 0) = false) : l.any p = false := by
  rw [← idxF_any, idxF_none p l h]; rfl
theorem any_true {p : Nat → Bool} {l : List Nat} {i : Nat} (hi : i < l.length) (h : p (l.getD i 0) = true) : l.any p = true := by
  rw [List.getD_eq_getElem?_getD, List.getElem?_eq_getElem hi] at h
  exact List.any_eq_true.2 ⟨_, List.getElem_mem hi, h⟩
def digitsT (u : List Nat) : Bool := !decide ((u.length : Int) ≤ 0) && !(u.any fun y : Nat => !dgtN y)
theorem digs_of2 {u : List Nat} (h : digitsT u = true) : ∀ j, j < u.length → 48 ≤ u.getD j 0 ∧ u.getD j 0 ≤ 57 := by
  unfold digitsT at h
  simp only [Bool.and_eq_true, Bool.not_eq_true'] at h
  exact digs_of h.2
def wholeR : List Nat → Int → Int
  | [], n => n
  | x :: l, n => if decide (10 * n + ((x : Int) - 48) ≤ 9007199254740991) then wholeR l (10 * n + ((x : Int) - 48)) else -1
theorem whole_val : ∀ (l : List Nat) (n : Int), (∀ j, j < l.length → 48 ≤ l.getD j 0 ∧ l.getD j 0 ≤ 57) → 0 ≤ n → n ≤ 9007199254740991 →
    (decide (wholeR l n < 0) = !(valR l n).2) ∧ ((valR l n).2 = true → (valR l n).1 = wholeR l n)
  | [], n, _, h0, h1 => by
    refine ⟨?_, fun _ => rfl⟩
    show decide (n < 0) = !decide (n ≤ 9007199254740991)
    rw [decide_eq_false (by omega), decide_eq_true h1]; rfl
  | x :: l, n, hd, h0, h1 => by
    have hx := hd 0 (by simp)
    have hx' : 48 ≤ x ∧ x ≤ 57 := hx
    have hd2 : ∀ j, j < l.length → 48 ≤ l.getD j 0 ∧ l.getD j 0 ≤ 57 := fun j hj => by
      have := hd (j + 1) (by simp; omega)
      simpa using this
    rw [wholeR, valR]
    by_cases h2 : n ≤ 900719925474099
    · rw [if_pos (decide_eq_true h2)]
      by_cases h3 : 10 * n + ((x : Int) - 48) ≤ 9007199254740991
      · rw [if_pos (decide_eq_true h3)]
        exact whole_val l _ hd2 (by omega) h3
      · rw [if_neg (by simpa using h3)]
        have h4 : (valR l (10 * n + ((x : Int) - 48))).2 = false := by
          cases l with
          | nil => simp [valR]; omega
          | cons y l => rw [valR, if_neg (by simp; omega)]
        rw [h4]
        exact ⟨by decide, fun h => by cases h⟩
    · rw [if_neg (show ¬ (decide (n ≤ 900719925474099) = true) by simpa using h2), if_neg (show ¬ (decide (10 * n + ((x : Int) - 48) ≤ 9007199254740991) = true) by simp; omega)]
      exact ⟨by decide, fun h => by cases h⟩
def hasN (s : ByteArray) (j : Nat) (x : Nat) : Bool := (ascT s j).any fun y => decide ((x : Int) = (y : Int))
theorem has0 (s : ByteArray) (x : Nat) : hasN s 0 x = false := by unfold hasN; rw [asc0]; rfl
theorem has_up {s : ByteArray} {j x : Nat} (h : j < s.size) : hasN s (j + 1) x = (hasN s j x || decide ((x : Int) = ((bAt s j : Nat) : Int))) := by
  unfold hasN
  rw [← asc_up h, List.any_append]; simp
def okbN (x : Nat) : Bool := dgtN x || (!decide ((x : Int) < 97) && decide ((x : Int) ≤ 102)) || (!decide ((x : Int) < 65) && decide ((x : Int) ≤ 70))
def okS (s : ByteArray) (x : Nat) : Bool := okbN x || (asc s).any fun y => decide ((x : Int) = (y : Int))
theorem has_end {s : ByteArray} {j x : Nat} (h : s.size ≤ j) : (okbN x || hasN s j x) = okS s x := by unfold okS hasN; rw [asc_end h]
def numericN (s : ByteArray) (u : List Nat) : Bool := u.all (okS s) && u.any dgtN
theorem okS_eq (x : Nat) : okS ⟨#[120, 88, 111, 79, 46, 43, 45, 95]⟩ x = okcN x := by
  unfold okS okcN okbN
  cases dgtN x
  · cases (!decide ((x : Int) < 97) && decide ((x : Int) ≤ 102))
    · cases (!decide ((x : Int) < 65) && decide ((x : Int) ≤ 70)) <;> rfl
    · rfl
  · rfl
theorem numeric_eq (u : List Nat) : numericN ⟨#[120, 88, 111, 79, 46, 43, 45, 95]⟩ u = strangeN u := by
  unfold numericN strangeN
  rw [show okS ⟨#[120, 88, 111, 79, 46, 43, 45, 95]⟩ = okcN from funext okS_eq]
abbrev infT : List Nat := asc ⟨#[73, 110, 102, 105, 110, 105, 116, 121]⟩
def bodyR (t d : List Nat) (neg : Bool) : Nm × Bool :=
  if decide (d = infT) then (if neg then negM ⟨3, 0⟩ else ⟨3, 0⟩, true)
  else if digitsT d then (if decide (wholeR d 0 < 0) then (⟨2, 0⟩, false) else (if neg then negM ⟨0, wholeR d 0⟩ else ⟨0, wholeR d 0⟩, true))
  else (⟨2, 0⟩, !numericN ⟨#[120, 88, 111, 79, 46, 43, 45, 95]⟩ t)
def numR (u : List Nat) : Nm × Bool :=
  if decide (((trimN u).length : Int) = 0) then (⟨0, 0⟩, true)
  else if decide ((((trimN u).getD 0 0 : Nat) : Int) = 45) then bodyR (trimN u) ((trimN u).drop 1) true
  else if decide ((((trimN u).getD 0 0 : Nat) : Int) = 43) then bodyR (trimN u) ((trimN u).drop 1) false
  else bodyR (trimN u) (trimN u) false
theorem body_eq {t d : List Nat} {neg : Bool} (h : ∃ p, t = p ++ d) : bodyR t d neg = bodyT t d neg := by
  unfold bodyR bodyT
  by_cases h1 : d = infT
  · rw [if_pos (decide_eq_true h1), if_pos (decide_eq_true h1)]
    have h2 : strangeN t = false := by
      obtain ⟨p, rfl⟩ := h
      unfold strangeN
      rw [h1, List.all_append, show (infT.all okcN) = false by decide, Bool.and_false, Bool.false_and]
    rw [h2]; rfl
  · rw [if_neg (show ¬ (decide (d = infT) = true) by simpa using h1), if_neg (show ¬ (decide (d = infT) = true) by simpa using h1), show (!decide ((d.length : Int) ≤ 0) && !(d.any fun y : Nat => !dgtN y)) = digitsT d from rfl]
    by_cases h2 : digitsT d = true
    · rw [if_pos h2, if_pos h2]
      have h3 := whole_val d 0 (digs_of2 h2) (by decide) (by decide)
      rw [h3.1]
      cases h4 : (valR d 0).2 with
      | true => rw [if_neg (by decide), if_pos rfl, h3.2 h4]
      | false => rw [if_pos (by decide), if_neg (by decide)]
    · rw [if_neg h2, if_neg h2, numeric_eq]
      cases neg
      · rfl
      · rw [if_pos rfl, show negM ⟨2, 0⟩ = ⟨2, 0⟩ by decide]
theorem numR_eq (u : List Nat) : numR u = numT u := by
  unfold numR numT
  by_cases h0 : ((trimN u).length : Int) = 0
  · rw [if_pos (decide_eq_true h0), if_pos (decide_eq_true h0)]
  · have h1 := drop_at (l := trimN u) (i := 0) (by omega)
    rw [List.drop_zero] at h1
    have h2 : ∃ p, trimN u = p ++ (trimN u).drop 1 := ⟨(trimN u).take 1, (List.take_append_drop 1 _).symm⟩
    rw [body_eq h2, body_eq h2, body_eq (t := trimN u) (d := trimN u) ⟨[], rfl⟩]
end Go.Proofs.Ytecgdgjlmlpcnaa
