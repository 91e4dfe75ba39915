/- PostOnce: the plain part. -/
import Derived.Test.YtcjmapljcnmfaaaPostI
namespace Go.Proofs.Ytcjmapljcnmfaaa
open Go.RowKit

def stepS (s : Mails) (o : OpV) : Mails := if o.kind = 0 then sendS s o.by_ o.to ⟨o.bl, o.ln, o.by_, o.ev⟩ else s
def playS (s : Mails) (l : List OpV) : Mails := l.foldl stepS s
theorem playS_succ (s : Mails) (l : List OpV) (k : Nat) (h : k < l.length) : playS s (l.take (k + 1)) = stepS (playS s (l.take k)) l[k] := by
  unfold playS
  rw [List.take_succ_eq_append_getElem h, List.foldl_append]
  rfl
theorem length_stepS (s : Mails) (o : OpV) : (stepS s o).length = s.length := by
  unfold stepS; split
  · exact length_sendS _ _ _ _
  · rfl
theorem length_playS (l : List OpV) : ∀ s : Mails, (playS s l).length = s.length := by
  induction l with
  | nil => intro s; rfl
  | cons o l ih => intro s; show (playS (stepS s o) l).length = _; rw [ih, length_stepS]
theorem few_to {l : List OpV} (h : fewB l = true) : l.length ≤ 200 ∧ fewN l ≤ 20000 := by
  simp only [fewB, Bool.and_eq_true, decide_eq_true_eq] at h
  rw [List.take_of_length_le h.1] at h
  exact h
theorem wt_le {l : List OpV} (h : fewN l ≤ 20000) {o : OpV} (ho : o ∈ l) : wt o ≤ 20000 := by
  have : wt o ≤ fewN l := by
    clear h
    induction l with
    | nil => cases ho
    | cons x l ih =>
      unfold fewN at ih ⊢
      rw [List.map_cons, List.sum_cons]
      rcases List.mem_cons.1 ho with rfl | h1
      · omega
      · have := ih h1
        omega
  omega
theorem to_le {o : OpV} (h : wt o ≤ 20000) : o.to.length ≤ wt o ∧ o.text.length ≤ wt o := by unfold wt at *; omega
theorem fewN_mono (l : List OpV) (k : Nat) : fewN (l.take k) ≤ fewN l := by
  have : fewN l = fewN (l.take k) + fewN (l.drop k) := by
    unfold fewN
    rw [← List.sum_append, ← List.map_append, List.take_append_drop]
  omega
/-- How many mails may lie. -/
theorem fit_playS {l : List OpV} (h : fewN l ≤ 20000) {s : Mails} (hs : ∀ x ∈ s, x = []) : ∀ k, k ≤ l.length → ∀ x ∈ playS s (l.take k), x.length ≤ fewN (l.take k) := by
  intro k
  induction k with
  | zero => intro _ x hx; rw [List.take_zero] at hx; rw [hs x hx]; simp
  | succ k ih =>
    intro hk x hx
    rw [playS_succ s l k (by omega)] at hx
    rw [fewN_succ l k (by omega)]
    have hw := to_le (wt_le h (List.getElem_mem (l := l) (n := k) (by omega)))
    unfold stepS at hx
    split at hx
    · obtain ⟨l0, h0, h1⟩ := mem_sendS hx
      have := ih (by omega) l0 h0
      omega
    · have := ih (by omega) x hx
      omega
/-- The state behind the taking away of all that lies for those below a, and of i of a's. -/
def emp (s : Mails) (a i : Nat) : Mails := s.mapIdx fun j l => if j < a then [] else if j = a then l.drop i else l
theorem length_emp (s : Mails) (a i : Nat) : (emp s a i).length = s.length := by simp [emp]
theorem emp_zero (s : Mails) : emp s 0 0 = s := by
  unfold emp
  apply List.ext_getElem?
  intro j
  simp only [List.getElem?_mapIdx]
  cases h : s[j]? with
  | none => rfl
  | some l => simp
theorem emp_get (s : Mails) (a i j : Nat) : (emp s a i).getD j [] = if j < a then [] else if j = a then (s.getD j []).drop i else s.getD j [] := by
  unfold emp
  simp only [List.getD, List.getElem?_mapIdx]
  cases h : s[j]? with
  | none => simp
  | some l => simp
theorem take_emp (s : Mails) (a i : Nat) : takeS (emp s a i) a = emp s a (i + 1) := by
  unfold takeS emp
  rw [Int.toNat_natCast]
  apply List.ext_getElem?
  intro j
  simp only [List.getElem?_modify, List.getElem?_mapIdx]
  cases h : s[j]? with
  | none => simp
  | some l =>
    by_cases e : a = j
    · subst e; simp
    · have : j ≠ a := fun h => e h.symm
      simp [e, this]
theorem emp_next (s : Mails) (a i : Nat) (h : (s.getD a []).length ≤ i) : emp s a i = emp s (a + 1) 0 := by
  unfold emp
  apply List.ext_getElem?
  intro j
  simp only [List.getElem?_mapIdx]
  cases hs : s[j]? with
  | none => rfl
  | some l =>
    simp only [Option.map_some, Option.some.injEq]
    rcases Nat.lt_trichotomy j a with h1 | rfl | h1
    · simp [h1, show j < a + 1 by omega]
    · have : l.drop i = [] := List.drop_of_length_le (by simpa [List.getD, hs] using h)
      simp [this]
    · have h2 : ¬ j < a := by omega
      have h3 : j ≠ a := by omega
      have h4 : ¬ j < a + 1 := by omega
      simp only [h2, h3, h4, if_false]
      split <;> simp
theorem emp_all (s : Mails) : ∀ x ∈ emp s s.length 0, x = [] := by
  intro x hx
  obtain ⟨j, hj⟩ := List.mem_iff_getElem?.1 hx
  unfold emp at hj
  rw [List.getElem?_mapIdx] at hj
  cases hs : s[j]? with
  | none => simp [hs] at hj
  | some l =>
    have := (List.getElem?_eq_some_iff.1 hs).1
    rw [hs] at hj
    simp [this] at hj
    exact hj
theorem open_emp (s : Mails) (b : Int) : openB (emp s s.length 0) b = false := by
  unfold openB
  rw [List.any_eq_false]
  intro x hx
  rw [emp_all s x hx]
  simp
theorem fit_emp {s : Mails} {n : Nat} (h : ∀ x ∈ s, x.length ≤ n) (a i : Nat) : ∀ x ∈ emp s a i, x.length ≤ n := by
  intro x hx
  obtain ⟨j, hj⟩ := List.mem_iff_getElem?.1 hx
  unfold emp at hj
  rw [List.getElem?_mapIdx] at hj
  cases hs : s[j]? with
  | none => simp [hs] at hj
  | some l =>
    have := h l (List.mem_of_getElem? hs)
    simp [hs] at hj
    subst hj
    split
    · simp
    · split
      · simp; omega
      · exact this
end Go.Proofs.Ytcjmapljcnmfaaa
