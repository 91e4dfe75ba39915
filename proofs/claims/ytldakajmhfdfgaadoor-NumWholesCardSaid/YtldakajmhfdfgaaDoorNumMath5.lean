/- Plain laws of the numbers of chapter 1: whole ones, indices. -/
import Derived.Test.YtldakajmhfdfgaaDoorNumMath2
import Derived.Test.YtldakajmhfdfgaaDoorNumMath1
namespace Go.Proofs.YtldakajmhfdfgaaDoor
theorem whole_cases (a : Nm) : (∃ n, wholeM a = ⟨0, n⟩ ∧ InS n) ∨ wholeM a = ⟨3, 0⟩ ∨ wholeM a = ⟨4, 0⟩ := by
  unfold wholeM
  rcases as_cases a with ⟨n, h, h1, h2⟩ | h | h | h | h <;> rw [h] <;> simp [InS] <;> omega
theorem whole_may (a : Nm) : mayB (wholeM a) = true := by
  rcases whole_cases a with ⟨n, h, hs⟩ | h | h <;> rw [h]
  · unfold InS at hs; simp [mayB]; omega
  all_goals rfl
theorem whole_k (a : Nm) : decide ((wholeM a).k = 2) = false ∧ decide ((wholeM a).k = 1) = false := by
  rcases whole_cases a with ⟨n, h, -⟩ | h | h <;> rw [h] <;> simp
theorem wholeM_def (a : Nm) : wholeM a = if decide ((asM a).k = 2) || decide ((asM a).k = 1) then ⟨0, 0⟩ else asM a := rfl
theorem whole_whole (a : Nm) : sameM (wholeM (wholeM a)) (wholeM a) = true := by
  have h : wholeM (wholeM a) = wholeM a := by
    have h1 := as_of_may (whole_may a)
    have h2 := whole_k a
    rw [wholeM_def (wholeM a), h1, h2.1, h2.2]; rfl
  rw [h]; exact sameM_refl _
theorem index_yes {a : Nm} (h : (indexM a).2 = true) : decide ((indexM a).1 < 0) = false ∧ decide ((wholeM a).k = 0) = true ∧ decide ((wholeM a).n = (indexM a).1) = true := by
  unfold indexM at h ⊢
  split at h
  · rename_i hc
    rw [if_pos hc]
    simp only [Bool.and_eq_true, Bool.not_eq_true'] at hc
    exact ⟨hc.2, hc.1, by simp⟩
  · cases h
theorem index_no {a : Nm} (h : (indexM a).2 = false) : decide ((indexM a).1 = 0) = true ∧ (lessM (wholeM a) (Nm.mk 0 0) = true ∨ decide ((wholeM a).k = 3) = true) := by
  unfold indexM at h ⊢
  split at h
  · cases h
  · rename_i hc
    rw [if_neg hc]
    refine ⟨rfl, ?_⟩
    unfold lessM
    rw [as_of_may (whole_may a)]
    rcases whole_cases a with ⟨n, hw, hs⟩ | hw | hw <;> rw [hw] at hc ⊢
    · simp at hc
      left
      show lessA ⟨0, n⟩ ⟨0, 0⟩ = true
      simp [lessA, rankM, hc]
    · right; rfl
    · left; decide
end Go.Proofs.YtldakajmhfdfgaaDoor
