/- Indices: what a number's digits are as an index. -/
import Derived.Test.YtecgdgjlmlpcnaaCvText
namespace Go.Proofs.Ytecgdgjlmlpcnaa
open Go.RowKit
set_option linter.unusedSimpArgs false
set_option linter.unusedVariables false
theorem trim_none {u : List Nat} (h : ∀ x ∈ u, blankN x = false) : trimN u = u := by
  have h1 : ∀ l : List Nat, (∀ x ∈ l, blankN x = false) → l.dropWhile blankN = l := fun l hl => by
    cases l with
    | nil => rfl
    | cons a l => rw [List.dropWhile_cons, if_neg (by rw [hl a (by simp)]; simp)]
  unfold trimN rtrimN
  rw [h1 u h, h1 u.reverse (fun x hx => h x (by simpa using hx)), List.reverse_reverse]
def decN : List Nat → Int → Int
  | [], n => n
  | x :: l, n => decN l (10 * n + ((x : Int) - 48))
theorem decN_ge : ∀ (l : List Nat) (n : Int), (∀ x ∈ l, 48 ≤ x ∧ x ≤ 57) → 0 ≤ n → n ≤ decN l n
  | [], n, _, _ => Int.le_refl _
  | x :: l, n, h, h0 => by
    have h1 := h x (by simp)
    have h2 := decN_ge l (10 * n + ((x : Int) - 48)) (fun y hy => h y (by simp [hy])) (by omega)
    rw [decN]; omega
theorem valR_dec : ∀ (l : List Nat) (n : Int), (∀ x ∈ l, 48 ≤ x ∧ x ≤ 57) → 0 ≤ n → (valR l n).2 = decide (decN l n ≤ 9007199254740991) ∧ ((valR l n).2 = true → (valR l n).1 = decN l n)
  | [], n, _, _ => ⟨rfl, fun _ => rfl⟩
  | x :: l, n, h, h0 => by
    have h1 := h x (by simp)
    have hl : ∀ y ∈ l, 48 ≤ y ∧ y ≤ 57 := fun y hy => h y (by simp [hy])
    rw [valR, decN]
    by_cases h2 : n ≤ 900719925474099
    · rw [if_pos (decide_eq_true h2)]
      exact valR_dec l _ hl (by omega)
    · rw [if_neg (show ¬ (decide (n ≤ 900719925474099) = true) by simpa using h2)]
      have h3 := decN_ge l (10 * n + ((x : Int) - 48)) hl (by omega)
      exact ⟨(decide_eq_false (by omega)).symm, fun h => by cases h⟩
theorem decN_V : ∀ (l : List UInt8) (v : Nat), (∀ c ∈ l, 48 ≤ c.toNat) → decN (l.map fun c => c.toNat) (v : Int) = ((l.foldl (fun v c => 10 * v + (c.toNat - 48)) v : Nat) : Int)
  | [], v, _ => rfl
  | c :: l, v, h => by
    have h1 := h c (by simp)
    rw [List.map_cons, decN, List.foldl_cons, ← decN_V l _ (fun y hy => h y (by simp [hy]))]
    congr 1
    omega
theorem body_dig {t d : List Nat} {neg : Bool} (hd : ∀ x ∈ d, 48 ≤ x ∧ x ≤ 57) (h0 : d ≠ []) :
    bodyT t d neg = if decide (decN d 0 ≤ 9007199254740991) then (if neg then negM ⟨0, decN d 0⟩ else ⟨0, decN d 0⟩, true) else (⟨2, 0⟩, false) := by
  unfold bodyT
  have h1 : d ≠ asc ⟨#[73, 110, 102, 105, 110, 105, 116, 121]⟩ := fun e => by
    have := hd 73 (by rw [e]; decide)
    omega
  have h2 : d.any (fun y : Nat => !dgtN y) = false := by
    rw [List.any_eq_false]
    intro x hx
    have := hd x hx
    unfold dgtN
    simp; omega
  have h3 : 0 < d.length := List.length_pos_iff.2 h0
  have h4 := valR_dec d 0 hd (by decide)
  rw [if_neg (show ¬ (decide (d = asc ⟨#[73, 110, 102, 105, 110, 105, 116, 121]⟩) = true) by simpa using h1), h2, if_pos (by simp; omega), h4.1]
  by_cases h5 : decN d 0 ≤ 9007199254740991
  · have h6 : (valR d 0).2 = true := by rw [h4.1]; exact decide_eq_true h5
    rw [if_pos (decide_eq_true h5), if_pos (decide_eq_true h5), h4.2 h6]
  · rw [if_neg (show ¬ (decide (decN d 0 ≤ 9007199254740991) = true) by simpa using h5), if_neg (show ¬ (decide (decN d 0 ≤ 9007199254740991) = true) by simpa using h5)]
theorem dig_nb {x : Nat} (h : 48 ≤ x ∧ x ≤ 57) : blankN x = false := by unfold blankN; simp; omega
theorem lettersU_nat (m : Nat) : ∀ x ∈ (lettersU m).map (fun c => c.toNat), 48 ≤ x ∧ x ≤ 57 := fun x hx => by
  obtain ⟨c, hc, rfl⟩ := List.mem_map.1 hx
  have := List.all_eq_true.1 (lettersU_dig m) c hc
  unfold isDig at this
  simpa using this
theorem lettersU_dec (m : Nat) : decN ((lettersU m).map fun c => c.toNat) 0 = (m : Int) := by
  have h := decN_V (lettersU m) 0 (fun c hc => (lettersU_nat m _ (List.mem_map.2 ⟨c, hc, rfl⟩)).1)
  have h2 := lettersU_val m
  unfold decV at h2
  rw [h2] at h
  exact h
theorem dec_num (n : Int) : numT (asc (strOfNums (textI n))) = if -9007199254740991 ≤ n ∧ n ≤ 9007199254740991 then (⟨0, n⟩, true) else (⟨2, 0⟩, false) := by
  have ht := textU_eq n
  unfold asc
  rw [ht]
  by_cases h0 : n = 0
  · subst h0; rfl
  rw [if_neg h0, List.map_append]
  have hm : 0 < n.natAbs := by omega
  have hD := lettersU_nat n.natAbs
  have hv := lettersU_dec n.natAbs
  obtain ⟨c, hc, -⟩ := lettersU_head hm
  have hne : (lettersU n.natAbs).map (fun c => c.toNat) ≠ [] := by
    intro e
    rw [List.map_eq_nil_iff] at e
    rw [e] at hc; cases hc
  generalize (lettersU n.natAbs).map (fun c => c.toNat) = D at *
  have hb : ∀ x ∈ D, blankN x = false := fun x hx => dig_nb (hD x hx)
  have hg : 48 ≤ D.getD 0 0 ∧ D.getD 0 0 ≤ 57 := by
    cases D with
    | nil => exact absurd rfl hne
    | cons a l => exact hD a (by simp)
  by_cases hs : n < 0
  · rw [if_pos hs]
    have e1 : trimN ([45] ++ D) = [45] ++ D := trim_none (fun x hx => by
      rcases List.mem_cons.1 hx with rfl | hx
      · decide
      · exact hb x hx)
    show numT ([45] ++ D) = _
    unfold numT
    have e2 : (([45] : List Nat) ++ D).drop 1 = D := rfl
    rw [e1, if_neg (by simp; omega), if_pos (by rfl), e2, body_dig hD hne, hv]
    by_cases hr : -9007199254740991 ≤ n
    · rw [if_pos (decide_eq_true (show (n.natAbs : Int) ≤ 9007199254740991 by omega)), if_pos (show -9007199254740991 ≤ n ∧ n ≤ 9007199254740991 from ⟨hr, by omega⟩), if_pos rfl]
      have h5 : nmayB ⟨0, (n.natAbs : Int)⟩ = true := by unfold nmayB; simp; omega
      have h6 : negM ⟨0, (n.natAbs : Int)⟩ = ⟨0, n⟩ := by
        unfold negM asM
        rw [if_pos h5]
        have h7 : decide ((n.natAbs : Int) = 0) = false := decide_eq_false (by omega)
        unfold negA
        simp only [h7]
        show (⟨0, -(n.natAbs : Int)⟩ : Nm) = ⟨0, n⟩
        rw [show -(n.natAbs : Int) = n by omega]
      rw [h6]
    · rw [if_neg (show ¬ (decide ((n.natAbs : Int) ≤ 9007199254740991) = true) by simp only [decide_eq_true_eq]; omega), if_neg (show ¬ (-9007199254740991 ≤ n ∧ n ≤ 9007199254740991) from fun h => hr h.1)]
  · rw [if_neg hs]
    show numT D = _
    unfold numT
    rw [trim_none hb, if_neg (by
      have := List.length_pos_iff.2 hne
      simp; exact hne), if_neg (show ¬ (decide (((D.getD 0 0 : Nat) : Int) = 45) = true) by simp only [decide_eq_true_eq]; omega), if_neg (show ¬ (decide (((D.getD 0 0 : Nat) : Int) = 43) = true) by simp only [decide_eq_true_eq]; omega), body_dig hD hne, hv]
    by_cases hr : n ≤ 9007199254740991
    · rw [if_pos (decide_eq_true (show (n.natAbs : Int) ≤ 9007199254740991 by omega)), if_pos (show -9007199254740991 ≤ n ∧ n ≤ 9007199254740991 from ⟨by omega, hr⟩), show ((n.natAbs : Nat) : Int) = n by omega]; rfl
    · rw [if_neg (show ¬ (decide ((n.natAbs : Int) ≤ 9007199254740991) = true) by simp only [decide_eq_true_eq]; omega), if_neg (show ¬ (-9007199254740991 ≤ n ∧ n ≤ 9007199254740991) from fun h => hr h.2)]
theorem index_in {n : Int} (h1 : -9007199254740991 ≤ n) (h2 : n ≤ 9007199254740991) : indexM ⟨0, n⟩ = if n < 0 then (0, false) else (n, true) := by
  have h3 : nmayB ⟨0, n⟩ = true := by unfold nmayB; simp; omega
  have h4 : wholeM ⟨0, n⟩ = ⟨0, n⟩ := by
    unfold wholeM asM
    rw [if_pos h3]; rfl
  unfold indexM
  rw [h4]
  by_cases h : n < 0
  · rw [if_pos h, if_neg (by simp; omega)]
  · rw [if_neg h, if_pos (by simp; omega)]
theorem may_str {u : List Nat} (h : (u.length : Int) ≤ 4096) : mayV ⟨5, 0, 0, false, [], u, 0⟩ = true := by
  unfold mayV zeroV
  simp; omega
theorem num_str {u : List Nat} (h : (u.length : Int) ≤ 4096) : numberV ⟨5, 0, 0, false, [], u, 0⟩ = if (numT u).2 then ((numT u).1, 0) else (⟨0, 0⟩, 3) := by
  unfold numberV cleanV
  rw [if_pos (may_str h)]; rfl
theorem index_str {u : List Nat} (h : (u.length : Int) ≤ 4096) : indexV ⟨5, 0, 0, false, [], u, 0⟩ = if (numT u).2 then (if (indexM (numT u).1).2 then ((indexM (numT u).1).1, 0) else (0, 2)) else (0, 3) := by
  unfold indexV
  rw [show cleanV ⟨5, 0, 0, false, [], u, 0⟩ = ⟨5, 0, 0, false, [], u, 0⟩ by unfold cleanV; rw [if_pos (may_str h)], num_str h, if_neg (show ¬ (decide ((5 : Int) = 0) = true) by decide)]
  cases (numT u).2 <;> rfl
theorem index_wh {n : Int} (h1 : -9007199254740991 ≤ n) (h2 : n ≤ 9007199254740991) : indexV ⟨3, 0, n, false, [], [], 0⟩ = if n < 0 then (0, 2) else (n, 0) := by
  have h3 : mayV ⟨3, 0, n, false, [], [], 0⟩ = true := by
    have : nmayB ⟨0, n⟩ = true := by unfold nmayB; simp; omega
    unfold mayV
    simp [zeroV, Vl.num, this]
  have h4 : cleanV ⟨3, 0, n, false, [], [], 0⟩ = ⟨3, 0, n, false, [], [], 0⟩ := by unfold cleanV; rw [if_pos h3]
  unfold indexV numberV
  simp only [h4]
  show (if (indexM ⟨0, n⟩).2 then ((indexM ⟨0, n⟩).1, 0) else (0, 2)) = _
  rw [index_in h1 h2]
  by_cases h : n < 0
  · rw [if_pos h, if_pos h]; rfl
  · rw [if_neg h, if_neg h]; rfl
theorem idx_facts (n : Int) (hs : (strOfNums (textI n)).size ≤ 100) :
    ((n < -9007199254740991 ∨ 9007199254740991 < n) → (indexV ⟨5, 0, 0, false, [], asc (strOfNums (textI n)), 0⟩).2 = 3) ∧
    (-9007199254740991 ≤ n → n < 0 → (indexV ⟨5, 0, 0, false, [], asc (strOfNums (textI n)), 0⟩).2 = 2 ∧ (indexV ⟨3, 0, n, false, [], [], 0⟩).2 = 2) ∧
    (0 ≤ n → n ≤ 9007199254740991 → ((indexV ⟨5, 0, 0, false, [], asc (strOfNums (textI n)), 0⟩).1 = n ∧ (indexV ⟨5, 0, 0, false, [], asc (strOfNums (textI n)), 0⟩).2 = 0) ∧ ((indexV ⟨3, 0, n, false, [], [], 0⟩).1 = n ∧ (indexV ⟨3, 0, n, false, [], [], 0⟩).2 = 0)) := by
  have hl : ((asc (strOfNums (textI n))).length : Int) ≤ 4096 := by rw [asc_len]; omega
  have e := dec_num n
  refine ⟨fun h => ?_, fun h1 h2 => ?_, fun h1 h2 => ?_⟩
  · rw [if_neg (by omega)] at e
    rw [index_str hl, e]; rfl
  · have e2 := index_wh (n := n) h1 (by omega)
    have e3 := index_in (n := n) h1 (by omega)
    rw [if_pos h2] at e2 e3
    rw [if_pos ⟨h1, by omega⟩] at e
    rw [index_str hl, e, e2]
    show (if (indexM ⟨0, n⟩).2 then ((indexM ⟨0, n⟩).1, (0 : Int)) else (0, 2)).2 = 2 ∧ (2 : Int) = 2
    rw [e3]
    exact ⟨rfl, rfl⟩
  · have e2 := index_wh (n := n) (by omega) h2
    have e3 := index_in (n := n) (by omega) h2
    rw [if_neg (by omega)] at e2 e3
    rw [if_pos ⟨by omega, h2⟩] at e
    rw [index_str hl, e, e2]
    show ((if (indexM ⟨0, n⟩).2 then ((indexM ⟨0, n⟩).1, (0 : Int)) else (0, 2)).1 = n ∧ (if (indexM ⟨0, n⟩).2 then ((indexM ⟨0, n⟩).1, (0 : Int)) else (0, 2)).2 = 0) ∧ (n = n ∧ (0 : Int) = 0)
    rw [e3]
    exact ⟨⟨rfl, rfl⟩, rfl, rfl⟩
theorem num_s (v : Vl) : (numberV v).2 = 0 ∨ (numberV v).2 = 1 ∨ (numberV v).2 = 3 := by
  unfold numberV
  repeat' split
  all_goals simp
theorem index_bd (a : Nm) : 0 ≤ (indexM a).1 ∧ (indexM a).1 ≤ 9007199254740991 := by
  have := whole_bd a
  unfold indexM
  split
  · rename_i h
    simp at h
    exact ⟨h.2, this.2⟩
  · exact ⟨by decide, by decide⟩
theorem idx_bd (v : Vl) : 0 ≤ (indexV v).1 ∧ (indexV v).1 ≤ 9007199254740991 ∧ 0 ≤ (indexV v).2 ∧ (indexV v).2 ≤ 3 ∧ ((indexV v).2 ≠ 0 → (indexV v).1 = 0) := by
  have h1 := num_s (cleanV v)
  have h2 := index_bd (numberV (cleanV v)).1
  unfold indexV
  split
  · decide
  · split
    · split
      · exact ⟨h2.1, h2.2, Int.le_refl _, (show (0 : Int) ≤ 3 by decide), fun h => absurd rfl h⟩
      · decide
    · show 0 ≤ (0 : Int) ∧ (0 : Int) ≤ 9007199254740991 ∧ 0 ≤ (numberV (cleanV v)).2 ∧ (numberV (cleanV v)).2 ≤ 3 ∧ _
      refine ⟨by decide, by decide, by omega, by omega, fun _ => rfl⟩
end Go.Proofs.Ytecgdgjlmlpcnaa
