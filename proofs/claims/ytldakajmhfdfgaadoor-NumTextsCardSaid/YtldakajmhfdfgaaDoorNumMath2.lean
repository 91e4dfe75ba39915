/- Plain laws of the numbers of chapter 1: sums, products, signs. -/
import Derived.Test.YtldakajmhfdfgaaDoorNumPlain
namespace Go.Proofs.YtldakajmhfdfgaaDoor
set_option linter.unusedSimpArgs false
theorem as_as (a : Nm) : asM (asM a) = asM a := by
  rcases as_cases a with ⟨n, h, h1, h2⟩ | h | h | h | h <;> rw [h] <;> simp [asM, mayB]
  omega
theorem as_may (a : Nm) : mayB (asM a) = true := by
  rcases as_cases a with ⟨n, h, h1, h2⟩ | h | h | h | h <;> rw [h] <;> simp [mayB] <;> omega
theorem as_of_may {a : Nm} (h : mayB a = true) : asM a = a := by simp [asM, h]
theorem may_iff {a : Nm} : mayB a = true ↔ asM a = a := ⟨as_of_may, fun h => by rw [← h]; exact as_may a⟩
/-- a whole number of the set -/
def InS (n : Int) : Prop := -9007199254740991 ≤ n ∧ n ≤ 9007199254740991
theorem as_whole {n : Int} (h : InS n) : asM ⟨0, n⟩ = ⟨0, n⟩ := by
  unfold InS at h
  simp [asM, mayB]
  omega
theorem ofM_in {n : Int} (h : InS n) : ofM n = (⟨0, n⟩, true) := by
  unfold InS at h
  have h1 : ¬ n < -9007199254740991 := by omega
  have h2 : n ≤ 9007199254740991 := by omega
  simp [ofM, h1, h2]
theorem ofM_out {n : Int} (h : ¬ InS n) : ofM n = (⟨2, 0⟩, false) := by
  unfold InS at h
  unfold ofM
  by_cases h1 : n < -9007199254740991
  · simp [h1]
  · have h2 : ¬ n ≤ 9007199254740991 := by omega
    simp [h2]
theorem addM_comm (a b : Nm) : addM a b = addM b a := by
  unfold addM
  rcases as_cases a with ⟨n, ha, -⟩ | ha | ha | ha | ha <;> rcases as_cases b with ⟨m, hb, -⟩ | hb | hb | hb | hb <;> rw [ha, hb] <;> simp [addA, infB, Int.add_comm]
theorem negM_cases (a : Nm) : (∃ n, asM a = ⟨0, n⟩ ∧ InS n ∧ n ≠ 0 ∧ negM a = ⟨0, -n⟩) ∨ (asM a = ⟨0, 0⟩ ∧ negM a = ⟨1, 0⟩) ∨ (asM a = ⟨1, 0⟩ ∧ negM a = ⟨0, 0⟩) ∨ (asM a = ⟨2, 0⟩ ∧ negM a = ⟨2, 0⟩) ∨ (asM a = ⟨3, 0⟩ ∧ negM a = ⟨4, 0⟩) ∨ (asM a = ⟨4, 0⟩ ∧ negM a = ⟨3, 0⟩) := by
  unfold negM
  rcases as_cases a with ⟨n, h, h1, h2⟩ | h | h | h | h <;> rw [h] <;> simp [negA, infM]
  by_cases hn : n = 0
  · simp [hn]
  · simp [hn, InS, h1, h2]
theorem as_neg (a : Nm) : asM (negM a) = negM a := by
  rcases negM_cases a with ⟨n, -, hs, -, h⟩ | ⟨-, h⟩ | ⟨-, h⟩ | ⟨-, h⟩ | ⟨-, h⟩ | ⟨-, h⟩ <;> rw [h]
  · exact as_whole (by unfold InS at *; omega)
  all_goals rfl
theorem neg_neg_same (a : Nm) : sameM (negM (negM a)) a = true := by
  have h1 := as_neg (negM a)
  unfold sameM
  rw [h1]
  have h2 : negM (negM a) = negA (negM a) := by rw [negM, as_neg]
  rw [h2]
  rcases negM_cases a with ⟨n, ha, hs, hn, h⟩ | ⟨ha, h⟩ | ⟨ha, h⟩ | ⟨ha, h⟩ | ⟨ha, h⟩ | ⟨ha, h⟩ <;> rw [h, ha] <;> simp [negA, infM]
  simp [hn]
end Go.Proofs.YtldakajmhfdfgaaDoor
