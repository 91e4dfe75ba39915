/- Plain laws of the numbers of chapter 1: how two are compared. -/
import Derived.Test.YtldakajmhfdfgaaDoorNumPlain
namespace Go.Proofs.YtldakajmhfdfgaaDoor
theorem sameM_refl (a : Nm) : sameM a a = true := by simp [sameM]
theorem sameM_comm (a b : Nm) : sameM a b = sameM b a := by
  unfold sameM
  rw [Bool.eq_iff_iff]
  simp
  constructor <;> rintro ⟨h1, h2⟩ <;> exact ⟨h1.symm, h2.symm⟩
theorem nan_all {a : Nm} (h : equalM a a = false) (b : Nm) : lessM a b = false ∧ lessM b a = false ∧ equalM a b = false ∧ equalM b a = false := by
  have hk : (asM a).k = 2 := by simpa [equalM, equalA] using h
  simp [lessM, lessA, equalM, equalA, hk]
theorem less_asymm {a b : Nm} (h : lessM a b = true) : lessM b a = false := by
  simp only [lessM, lessA, Bool.and_eq_true, Bool.not_eq_true', decide_eq_true_eq, decide_eq_false_iff_not] at h
  simp [lessM, lessA]
  intro _ _; omega
theorem less_ne {a b : Nm} (h : lessM a b = true) : equalM a b = false := by
  simp only [lessM, lessA, Bool.and_eq_true, Bool.not_eq_true', decide_eq_true_eq, decide_eq_false_iff_not] at h
  simp [equalM, equalA]
  intro _ _; omega
theorem less_ne' {a b : Nm} (h : lessM b a = true) : equalM a b = false := by
  simp only [lessM, lessA, Bool.and_eq_true, Bool.not_eq_true', decide_eq_true_eq, decide_eq_false_iff_not] at h
  simp [equalM, equalA]
  intro _ _; omega
theorem tri {a b : Nm} (ha : equalM a a = true) (hb : equalM b b = true) (h1 : lessM a b = false) (h2 : lessM b a = false) : equalM a b = true := by
  have ka : (asM a).k ≠ 2 := by simpa [equalM, equalA] using ha
  have kb : (asM b).k ≠ 2 := by simpa [equalM, equalA] using hb
  simp [lessM, lessA, ka, kb] at h1 h2
  simp [equalM, equalA, ka, kb]
  omega
theorem rank_of {a : Nm} : (asM a).k = 0 ∨ (asM a).k = 1 → rankM (asM a) = (asM a).n := by
  intro h; unfold rankM; rcases h with h | h <;> simp [h]
theorem same_eq {a b : Nm} (ha : equalM a a = true) (h : equalM a b = false) : sameM a b = false := by
  have ka : (asM a).k ≠ 2 := by simpa [equalM, equalA] using ha
  cases hs : sameM a b with
  | false => rfl
  | true =>
    simp [sameM] at hs
    have : asM a = asM b := by
      have := hs.1; have := hs.2
      cases h1 : asM a; cases h2 : asM b; simp_all
    rw [equalM, ← this] at h
    simp [equalA, ka] at h
theorem eq_not_same {a b : Nm} (h : equalM a b = true) (hs : sameM a b = false) : equalM a (Nm.mk 0 0) = true := by
  have h0 : asM ⟨0, 0⟩ = ⟨0, 0⟩ := rfl
  simp only [equalM, h0]
  simp only [equalM] at h
  simp only [sameM] at hs
  rcases as_cases a with ⟨n, ha, ha1, ha2⟩ | ha | ha | ha | ha <;> rcases as_cases b with ⟨m, hb, hb1, hb2⟩ | hb | hb | hb | hb <;> rw [ha, hb] at h hs <;> rw [ha] <;> simp [equalA, rankM] at h hs ⊢ <;> omega
end Go.Proofs.YtldakajmhfdfgaaDoor
