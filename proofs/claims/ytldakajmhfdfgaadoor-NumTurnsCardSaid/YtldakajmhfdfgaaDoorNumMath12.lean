/- Plain laws of the numbers of chapter 1: sides changed, taken back, read back. -/
import Derived.Test.YtldakajmhfdfgaaDoorNumMath4
import Derived.Test.YtldakajmhfdfgaaDoorNumMath8
import Derived.Test.YtldakajmhfdfgaaDoorNumMath11
namespace Go.Proofs.YtldakajmhfdfgaaDoor
set_option linter.unusedSimpArgs false
set_option linter.unusedVariables false
theorem eqN_self (a : Nm) (x : Bool) : (eqN a a && x == x) = true := by simp [eqN]
theorem add_turn (a b : Nm) : (eqN ((addM a b).1) ((addM b a).1) && ((addM a b).2) == ((addM b a).2)) = true := by
  rw [addM_comm b a]; exact eqN_self _ _
theorem mul_turn (a b : Nm) : (eqN ((mulM a b).1) ((mulM b a).1) && ((mulM a b).2) == ((mulM b a).2)) = true := by
  rw [mulM_comm b a]; exact eqN_self _ _
theorem may_add (a b : Nm) : mayB (addM a b).1 = true := may_iff.2 (add_canon a b)
theorem may_mul (a b : Nm) : mayB (mulM a b).1 = true := by
  obtain ⟨s, x, hx, ha⟩ := as_cls a
  obtain ⟨t, y, hy, hb⟩ := as_cls b
  rw [may_iff, mulM, ha, hb, mul_cls s t hx hy]
  cases h : mulC x y with
  | none => rfl
  | some z => exact as_enc _ (mulC_ok hx hy h)
theorem may_rem (a b : Nm) : mayB (remM a b) = true := by
  have ha := size_bd a
  have hb := size_bd b
  have hm := tmod_le0 ha.1 hb.1
  have hd := as_as a
  rw [may_iff]
  unfold remM remA
  split
  · rfl
  · split
    · exact hd
    · split
      · unfold noughtM; split <;> rfl
      · unfold signedM; split
        · exact as_whole (by unfold InS; omega)
        · exact as_whole (by unfold InS; omega)
theorem k0_form {a : Nm} (h : mayB a = true) (hk : decide (a.k = 0) = true) : ∃ n, a = ⟨0, n⟩ ∧ InS n := by
  have e := as_of_may h
  rcases as_cases a with ⟨n, h, h2⟩ | h | h | h | h <;> rw [e] at h
  · exact ⟨n, h, h2⟩
  all_goals rw [h] at hk; cases hk
theorem sub_back {a b : Nm} (ha : mayB a = true) (hb : mayB b = true) (ka : decide (a.k = 0) = true) (kb : decide (b.k = 0) = true) (h : (addM a b).2 = true) :
    (addM ((addM a b).1) (negM b)).2 = true ∧ equalM ((addM ((addM a b).1) (negM b)).1) a = true := by
  obtain ⟨n, rfl, hn⟩ := k0_form ha ka
  obtain ⟨m, rfl, hm⟩ := k0_form hb kb
  have e0 : addM ⟨0, n⟩ ⟨0, m⟩ = ofM (n + m) := by
    rw [addM, as_whole hn, as_whole hm]; simp [addA, infB]
  rw [e0] at h ⊢
  obtain ⟨hs, es⟩ := ofM_flag h
  rw [es]
  have en : negM ⟨0, m⟩ = if m = 0 then ⟨1, 0⟩ else ⟨0, -m⟩ := by
    rw [negM, as_whole hm]; simp [negA]
  have e1 : addM ⟨0, n + m⟩ (negM ⟨0, m⟩) = (⟨0, n⟩, true) := by
    rw [en]
    by_cases hz : m = 0
    · subst hz
      rw [if_pos rfl, addM, as_whole hs, show asM ⟨1, 0⟩ = ⟨1, 0⟩ from rfl]
      simp [addA, infB]
      exact ofM_in hn
    · rw [if_neg hz, addM, as_whole hs, as_whole (n := -m) (by unfold InS at *; omega)]
      simp only [addA, infB]
      rw [show n + m + -m = n by omega, ofM_in hn]; rfl
  rw [e1]
  refine ⟨rfl, ?_⟩
  show equalM ⟨0, n⟩ ⟨0, n⟩ = true
  unfold equalM
  rw [as_whole hn]; simp [equalA]
theorem read_same {a : Nm} (h : sameM (readM a) a = false) : decide (a.k = 1) = true ∧ equalM (readM a) a = true := by
  have hw : asM a = if mayB a then a else ⟨2, 0⟩ := by unfold asM; rfl
  rcases as_cases a with ⟨n, e, h2⟩ | e | e | e | e
  · exfalso
    have hr : readM a = ⟨0, n⟩ := by unfold readM; rw [e]; rfl
    rw [hr, sameM, e, as_whole h2] at h; simp at h
  · have hr : readM a = ⟨0, 0⟩ := by unfold readM; rw [e]; rfl
    have ha : a = ⟨1, 0⟩ := by
      rw [hw] at e
      split at e
      · exact e
      · cases e
    subst ha
    exact ⟨rfl, by decide⟩
  all_goals
    exfalso
    have hr : readM a = asM a := by unfold readM; rw [e]; rfl
    rw [hr, sameM, as_as] at h
    simp at h
end Go.Proofs.YtldakajmhfdfgaaDoor
