/- The document's values compared, as plain Lean. -/
import Derived.Test.YtecgdgjlmlpcnaaCvRefN
namespace Go.Proofs.Ytecgdgjlmlpcnaa
open Go.RowKit
set_option linter.unusedSimpArgs false
set_option linter.unusedVariables false
theorem may_clean (v : Vl) : mayV (cleanV v) = true := by
  unfold cleanV
  split
  · assumption
  · decide
theorem clean_may {v : Vl} (h : mayV v = true) : cleanV v = v := by unfold cleanV; rw [if_pos h]
theorem clean_clean (v : Vl) : cleanV (cleanV v) = cleanV v := clean_may (may_clean v)
theorem may_k {v : Vl} (h : mayV v = true) : 0 ≤ v.k ∧ v.k ≤ 6 := by
  unfold mayV at h
  repeat' split at h
  all_goals first | (simp_all; omega) | (simp_all)
theorem clean_k (v : Vl) : 0 ≤ (cleanV v).k ∧ (cleanV v).k ≤ 6 := may_k (may_clean v)
theorem may_1 {v : Vl} (h : mayV v = true) (hk : v.k = 1) : v.ref = 0 := by
  unfold mayV at h
  rw [if_pos (by simp [hk])] at h
  unfold zeroV at h
  simp_all
theorem may_2 {v : Vl} (h : mayV v = true) (hk : v.k = 2) : v.ref = 0 ∨ v.ref = 1 := by
  unfold mayV at h
  rw [if_neg (by simp [hk]), if_pos (by simp [hk])] at h
  simp at h
  exact h.2
theorem may_3 {v : Vl} (h : mayV v = true) (hk : v.k = 3) : nmayB v.num = true := by
  unfold mayV at h
  rw [if_neg (by simp [hk]), if_neg (by simp [hk]), if_pos (by simp [hk])] at h
  simp at h
  exact h.2
theorem may_4 {v : Vl} (h : mayV v = true) (hk : v.k = 4) : mayB v.neg v.mag = true := by
  unfold mayV at h
  rw [if_neg (by simp [hk]), if_neg (by simp [hk]), if_neg (by simp [hk]), if_pos (by simp [hk])] at h
  simp at h
  exact h.2
theorem may_cnt {v : Vl} (h : mayV v = true) : mayV (countedV v) = true := by
  unfold countedV
  by_cases hk : v.k = 2
  · rw [if_pos (decide_eq_true hk)]
    rcases may_2 h hk with h | h <;> rw [h] <;> decide
  · rw [if_neg (by simpa using hk)]; exact h
theorem VOk.cnt {v : Vl} (h : VOk v) : VOk ⟨3, 0, v.ref, false, [], [], 0⟩ := ⟨Limbs.nil, U16s.nil, Nat.zero_le _, Nat.zero_le _, h.rlo, h.rhi, (by decide : (-9223372036854775808 : Int) ≤ 0), (by decide : (0 : Int) ≤ 9223372036854775807)⟩
def numberR (v : Vl) : Nm × Int :=
  if decide ((cleanV v).k = 0) then (⟨2, 0⟩, 0)
  else if decide ((cleanV v).k = 1) then (⟨0, 0⟩, 0)
  else if decide ((cleanV v).k = 2) then (⟨0, (cleanV v).ref⟩, 0)
  else if decide ((cleanV v).k = 3) then ((cleanV v).num, 0)
  else if decide ((cleanV v).k = 4) then (⟨0, 0⟩, 1)
  else if decide ((cleanV v).k = 5) then (if (numT (cleanV v).s).2 then ((numT (cleanV v).s).1, 0) else (⟨0, 0⟩, 3))
  else (⟨0, 0⟩, 3)
theorem numberR_eq (v : Vl) : numberR v = numberV v := by
  unfold numberR numberV
  by_cases h1 : (cleanV v).k = 1
  · have h2 := may_1 (may_clean v) h1
    rw [h1, h2]; rfl
  · rw [decide_eq_false h1]
    simp
def ordC (b : Bool) (m : List Nat) (a : Nm) : Int := if decide (ordB b m a = 2) then 2 else -(ordB b m a)
def besideR (x y : Vl) : Bool × Int :=
  if (decide (x.k = 4) && decide (y.k = 5)) || (decide (x.k = 5) && decide (y.k = 4)) then (false, 3)
  else if decide (x.k = 4) then (decide (ordB x.neg x.mag y.num = 0), 0)
  else if decide (y.k = 4) then (decide (ordC y.neg y.mag x.num = 0), 0)
  else if decide ((numberV x).2 = 0) && decide ((numberV y).2 = 0) then (equalM (numberV x).1 (numberV y).1, 0) else (false, 3)
def loose3R (x y : Vl) : Bool × Int := if decide (x.k = y.k) then (strictV x y, 0) else if decide (x.k = 6) || decide (y.k = 6) then (false, 3) else besideR x y
def looseR (v u : Vl) : Bool × Int :=
  if decide ((cleanV v).k = (cleanV u).k) then (strictV (cleanV v) (cleanV u), 0)
  else if decide ((cleanV v).k ≤ 1) || decide ((cleanV u).k ≤ 1) then (decide ((cleanV v).k ≤ 1) && decide ((cleanV u).k ≤ 1), 0)
  else loose3R (countedV (cleanV v)) (countedV (cleanV u))
theorem num_3 {x : Vl} (h : mayV x = true) (hk : x.k = 3) : numberV x = (x.num, 0) := by
  unfold numberV
  rw [clean_may h, hk]; rfl
theorem num_5 (x : Vl) (h : mayV x = true) (hk : x.k = 5) : (numberV x).2 = 0 ∨ (numberV x).2 = 3 := by
  unfold numberV
  rw [clean_may h, hk]
  simp
  split <;> simp
theorem equal_comm (a b : Nm) : equalM a b = equalM b a := by
  unfold equalM equalA
  rw [show decide (rankM (asM a) = rankM (asM b)) = decide (rankM (asM b) = rankM (asM a)) from decide_eq_decide.2 eq_comm]
  cases decide ((asM a).k = 2) <;> cases decide ((asM b).k = 2) <;> rfl
theorem nmay_k {a : Nm} (h : nmayB a = true) : a.k = 0 ∨ (a.k = 1 ∧ a.n = 0) ∨ a.k = 2 ∨ a.k = 3 ∨ a.k = 4 := by
  unfold nmayB at h
  repeat' split at h
  all_goals simp_all
  all_goals omega
theorem ord_alike {b : Bool} {m : List Nat} {a : Nm} (hl : Limbs m) (hm : mayB b m = true) (ha : nmayB a = true) : decide (ordB b m a = 0) = alikeB b m a := by
  unfold ordB alikeB
  rcases nmay_k ha with h | ⟨h, hn⟩ | h | h | h <;> rw [h]
  · exact same_cmp _ _
  · rw [hn]
    show decide (cmpZ (goodI b m) 0 = 0) = if decide ((m.length : Int) = 0) then true else false
    rw [same_cmp]
    unfold goodI
    rw [if_pos hm]
    by_cases h0 : m = []
    · subst h0; cases b <;> rfl
    · have h1 := val_pos hl (may_trim hm).1 h0
      rw [if_neg (by simpa using h0)]
      exact decide_eq_false (by cases b <;> simp [sgn] <;> omega)
  all_goals rfl
theorem ordC_zero (b : Bool) (m : List Nat) (a : Nm) : decide (ordC b m a = 0) = decide (ordB b m a = 0) := by
  unfold ordC
  by_cases h : ordB b m a = 2
  · rw [if_pos (decide_eq_true h), h]
  · rw [if_neg (by simpa using h)]
    exact decide_eq_decide.2 (by omega)
theorem loose3_eq {x y : Vl} (hx : mayV x = true) (hy : mayV y = true) (lx : Limbs x.mag) (ly : Limbs y.mag) (kx : 3 ≤ x.k) (ky : 3 ≤ y.k) : loose3R x y = loose2 x y := by
  have h1 := may_k hx
  have h2 := may_k hy
  unfold loose3R loose2
  have cx : x.k = 3 ∨ x.k = 4 ∨ x.k = 5 ∨ x.k = 6 := by omega
  have cy : y.k = 3 ∨ y.k = 4 ∨ y.k = 5 ∨ y.k = 6 := by omega
  rcases cx with cx | cx | cx | cx <;> rcases cy with cy | cy | cy | cy
  all_goals unfold loose3 besideR
  all_goals simp only [cx, cy]
  all_goals try rfl
  · simp only [ordC_zero]
    rw [ord_alike ly (may_4 hy cy) (may_3 hx cx)]; rfl
  · rw [num_3 hx cx]
    rcases num_5 y hy cy with h | h <;> simp [h]
  · rw [ord_alike lx (may_4 hx cx) (may_3 hy cy)]; rfl
  · rw [num_3 hy cy]
    rcases num_5 x hx cx with h | h <;> simp [h, equal_comm]
theorem looseR_eq {v u : Vl} (hv : VOk v) (hu : VOk u) : looseR v u = looseV v u := by
  have h1 := clean_k v
  have h2 := clean_k u
  have h3 := may_clean v
  have h4 := may_clean u
  have l1 := hv.clean.counted.limbs
  have l2 := hu.clean.counted.limbs
  unfold looseR looseV loose1
  generalize cleanV v = x at *
  generalize cleanV u = y at *
  by_cases hk : x.k = y.k
  · rw [if_pos (decide_eq_true hk), if_pos (decide_eq_true hk)]
  · rw [if_neg (show ¬ (decide (x.k = y.k) = true) by simpa using hk), if_neg (show ¬ (decide (x.k = y.k) = true) by simpa using hk)]
    have e1 : decide (x.k ≤ 1) = noneV x := by unfold noneV; rw [← Bool.decide_or]; exact decide_eq_decide.2 (by omega)
    have e2 : decide (y.k ≤ 1) = noneV y := by unfold noneV; rw [← Bool.decide_or]; exact decide_eq_decide.2 (by omega)
    rw [e1, e2]
    by_cases hn : (noneV x || noneV y) = true
    · rw [if_pos hn, if_pos hn]
    · rw [if_neg hn, if_neg hn]
      rw [← e1, ← e2] at hn
      simp only [Bool.or_eq_true, decide_eq_true_eq] at hn
      refine loose3_eq (may_cnt h3) (may_cnt h4) l1 l2 ?_ ?_
      · unfold countedV; split
        · exact Int.le_refl _
        · rename_i h; simp at h; omega
      · unfold countedV; split
        · exact Int.le_refl _
        · rename_i h; simp at h; omega
end Go.Proofs.Ytecgdgjlmlpcnaa
