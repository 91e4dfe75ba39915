/- Plain laws of the numbers of chapter 1: sums. -/
import Derived.Test.YtldakajmhfdfgaaDoorNumMath3
namespace Go.Proofs.YtldakajmhfdfgaaDoor
set_option linter.unusedSimpArgs false
set_option linter.unusedVariables false
theorem ofM_flag {n : Int} (h : (ofM n).2 = true) : InS n ∧ ofM n = (⟨0, n⟩, true) := by
  by_cases hs : InS n
  · exact ⟨hs, ofM_in hs⟩
  · rw [ofM_out hs] at h; cases h
theorem ofM_as (n : Int) : asM (ofM n).1 = (ofM n).1 := by
  by_cases hs : InS n
  · rw [ofM_in hs]; exact as_whole hs
  · rw [ofM_out hs]; rfl
/-- a number that is whole, or a nought with a sign -/
def FinN (a : Nm) : Prop := (a.k = 0 ∧ InS a.n) ∨ (a.k = 1 ∧ a.n = 0)
theorem as_fin (a : Nm) : FinN (asM a) ∨ asM a = ⟨2, 0⟩ ∨ asM a = ⟨3, 0⟩ ∨ asM a = ⟨4, 0⟩ := by
  rcases as_cases a with ⟨n, h, h1, h2⟩ | h | h | h | h
  · left; rw [h]; exact .inl ⟨rfl, h1, h2⟩
  · left; rw [h]; exact .inr ⟨rfl, rfl⟩
  all_goals simp [h]
theorem add_fin {a b : Nm} (ha : FinN a) (hb : FinN b) : addA a b = if a.k = 1 ∧ b.k = 1 then (a, true) else ofM (a.n + b.n) := by
  unfold addA
  rcases ha with ⟨ka, -⟩ | ⟨ka, -⟩ <;> rcases hb with ⟨kb, -⟩ | ⟨kb, -⟩ <;> simp [ka, kb, infB]
theorem fin_k {a : Nm} (ha : FinN a) : decide (a.k = 2) = false ∧ infB a.k = false := by
  rcases ha with ⟨ka, -⟩ | ⟨ka, -⟩ <;> simp [ka, infB]
theorem add_inf_l {x : Nm} (hx : x = ⟨3, 0⟩ ∨ x = ⟨4, 0⟩) {b : Nm} (hb : FinN b) : addA x b = (x, true) ∧ addA b x = (x, true) := by
  rcases hx with rfl | rfl <;> rcases hb with ⟨kb, -⟩ | ⟨kb, -⟩ <;> simp [addA, infB, kb]
theorem add_nan (b : Nm) : addA ⟨2, 0⟩ b = (⟨2, 0⟩, true) ∧ addA b ⟨2, 0⟩ = (⟨2, 0⟩, true) := by simp [addA]
theorem add_ii {x y : Nm} (hx : x = ⟨3, 0⟩ ∨ x = ⟨4, 0⟩) (hy : y = ⟨3, 0⟩ ∨ y = ⟨4, 0⟩) : addA x y = (if x = y then x else ⟨2, 0⟩, true) := by
  rcases hx with rfl | rfl <;> rcases hy with rfl | rfl <;> decide
theorem as_inf {x : Nm} (hx : x = ⟨3, 0⟩ ∨ x = ⟨4, 0⟩) : asM x = x := by rcases hx with rfl | rfl <;> rfl
theorem add_canon (a b : Nm) : asM (addM a b).1 = (addM a b).1 := by
  unfold addM
  rcases as_fin a with ha | ha | ha
  · rcases as_fin b with hb | hb | hb
    · rw [add_fin ha hb]
      split
      · exact as_as a
      · exact ofM_as _
    · rw [hb, (add_nan _).2]; rfl
    · rw [(add_inf_l hb ha).2]; exact as_inf hb
  · rw [ha, (add_nan _).1]; rfl
  · rcases as_fin b with hb | hb | hb
    · rw [(add_inf_l ha hb).1]; exact as_inf ha
    · rw [hb, (add_nan _).2]; rfl
    · rw [add_ii ha hb]; split
      · exact as_inf ha
      · rfl
theorem fin_sum {A B : Nm} (hA : FinN A) (hB : FinN B) (h : (addA A B).2 = true) : FinN (addA A B).1 ∧ (addA A B).1.n = A.n + B.n ∧ ((addA A B).1.k = 1 ↔ A.k = 1 ∧ B.k = 1) := by
  rw [add_fin hA hB] at h ⊢
  split
  · rename_i hk
    refine ⟨hA, ?_, by simp [hk]⟩
    rcases hA with ⟨k, -⟩ | ⟨-, n⟩
    · rw [hk.1] at k; cases k
    · rcases hB with ⟨k, -⟩ | ⟨-, m⟩
      · rw [hk.2] at k; cases k
      · simp [n, m]
  · rename_i hk
    rw [if_neg hk] at h
    obtain ⟨h1, h2⟩ := ofM_flag h
    rw [h2]
    exact ⟨.inl ⟨rfl, h1⟩, rfl, by simp [hk]⟩
theorem add_assocA {A B C : Nm} (hA : FinN A ∨ A = ⟨2, 0⟩ ∨ (A = ⟨3, 0⟩ ∨ A = ⟨4, 0⟩)) (hB : FinN B ∨ B = ⟨2, 0⟩ ∨ (B = ⟨3, 0⟩ ∨ B = ⟨4, 0⟩)) (hC : FinN C ∨ C = ⟨2, 0⟩ ∨ (C = ⟨3, 0⟩ ∨ C = ⟨4, 0⟩))
    (h1 : (addA A B).2 = true) (h2 : (addA B C).2 = true) (h3 : (addA (addA A B).1 C).2 = true) (h4 : (addA A (addA B C).1).2 = true) : (addA (addA A B).1 C).1 = (addA A (addA B C).1).1 := by
  rcases hA with hA | rfl | hA
  · rcases hB with hB | rfl | hB
    · obtain ⟨f1, n1, k1⟩ := fin_sum hA hB h1
      rcases hC with hC | rfl | hC
      · obtain ⟨f2, n2, k2⟩ := fin_sum hB hC h2
        obtain ⟨f3, n3, k3⟩ := fin_sum f1 hC h3
        obtain ⟨f4, n4, k4⟩ := fin_sum hA f2 h4
        have hn : (addA (addA A B).1 C).1.n = (addA A (addA B C).1).1.n := by omega
        have hk : (addA (addA A B).1 C).1.k = 1 ↔ (addA A (addA B C).1).1.k = 1 := by
          rw [k3, k4, k1, k2]
          constructor
          · rintro ⟨⟨x, y⟩, z⟩; exact ⟨x, y, z⟩
          · rintro ⟨x, y, z⟩; exact ⟨⟨x, y⟩, z⟩
        generalize (addA (addA A B).1 C).1 = X at *
        generalize (addA A (addA B C).1).1 = Y at *
        cases X; cases Y
        rcases f3 with ⟨kx, -⟩ | ⟨kx, -⟩ <;> rcases f4 with ⟨ky, -⟩ | ⟨ky, -⟩ <;> simp_all
      · rw [(add_nan _).2, (add_nan _).2, (add_nan _).2]
      · rw [(add_inf_l hC f1).2, (add_inf_l hC hB).2, (add_inf_l hC hA).2]
    · rw [(add_nan _).2, (add_nan _).1, (add_nan _).2]
    · rcases hC with hC | rfl | hC
      · rw [(add_inf_l hB hA).2, (add_inf_l hB hC).1, (add_inf_l hB hA).2]
      · rw [(add_nan _).2, (add_nan _).2, (add_nan _).2]
      · rw [(add_inf_l hB hA).2, add_ii hB hC]
        split
        · rw [(add_inf_l hB hA).2]
        · rw [(add_nan _).2]
  · rw [(add_nan _).1, (add_nan _).1, (add_nan _).1]
  · rcases hB with hB | rfl | hB
    · rcases hC with hC | rfl | hC
      · obtain ⟨f2, -, -⟩ := fin_sum hB hC h2
        rw [(add_inf_l hA hB).1, (add_inf_l hA hC).1, (add_inf_l hA f2).1]
      · rw [(add_nan _).2, (add_nan _).2, (add_nan _).2]
      · rw [(add_inf_l hA hB).1, (add_inf_l hC hB).2]
    · rw [(add_nan _).2, (add_nan _).1, (add_nan _).2]
    · rcases hC with hC | rfl | hC
      · rw [(add_inf_l hB hC).1, add_ii hA hB]
        split
        · rw [(add_inf_l hA hC).1]
        · rw [(add_nan _).1]
      · rw [(add_nan _).2, (add_nan _).2, (add_nan _).2]
      · rcases hA with rfl | rfl <;> rcases hB with rfl | rfl <;> rcases hC with rfl | rfl <;> decide
theorem add_assoc {a b c : Nm} (h1 : (addM a b).2 = true) (h2 : (addM b c).2 = true) (h3 : (addM ((addM a b).1) c).2 = true) (h4 : (addM a ((addM b c).1)).2 = true) : sameM ((addM ((addM a b).1) c).1) ((addM a ((addM b c).1)).1) = true := by
  have key : (addM ((addM a b).1) c).1 = (addM a ((addM b c).1)).1 := by
    have e3 : addM ((addM a b).1) c = addA (addA (asM a) (asM b)).1 (asM c) := by rw [addM, add_canon]; rfl
    have e4 : addM a ((addM b c).1) = addA (asM a) (addA (asM b) (asM c)).1 := by rw [addM, add_canon]; rfl
    rw [e3] at h3 ⊢
    rw [e4] at h4 ⊢
    unfold addM at h1 h2
    exact add_assocA (as_fin a) (as_fin b) (as_fin c) h1 h2 h3 h4
  rw [key]
  exact sameM_refl _
theorem zero_sub (a : Nm) : (addM (Nm.mk 0 0) (negM a)).2 = true ∧ equalM ((addM (Nm.mk 0 0) (negM a)).1) (negM a) = !decide ((addM (Nm.mk 0 0) (negM a)).1.k = 2) := by
  have h0 : asM ⟨0, 0⟩ = ⟨0, 0⟩ := rfl
  have e : addM (Nm.mk 0 0) (negM a) = addA ⟨0, 0⟩ (negM a) := by rw [addM, as_neg, h0]
  have ec : asM (addM (Nm.mk 0 0) (negM a)).1 = (addM (Nm.mk 0 0) (negM a)).1 := add_canon _ _
  unfold equalM
  rw [ec, as_neg, e]
  rcases negM_cases a with ⟨n, -, hs, hn, h⟩ | ⟨-, h⟩ | ⟨-, h⟩ | ⟨-, h⟩ | ⟨-, h⟩ | ⟨-, h⟩ <;> rw [h]
  · have hi : InS (0 + -n) := by unfold InS at *; omega
    have : addA ⟨0, 0⟩ ⟨0, -n⟩ = ofM (0 + -n) := by simp [addA, infB]
    rw [this, ofM_in hi]
    simp [equalA, rankM]
  all_goals decide
theorem add_neg (a b : Nm) : (addM (negM a) (negM b)).2 = (addM a b).2 ∧ (sameM ((addM (negM a) (negM b)).1) (negM ((addM a b).1)) = true ∨ equalM ((addM a b).1) (Nm.mk 0 0) = true) := by
  have e : addM (negM a) (negM b) = addA (negM a) (negM b) := by rw [addM, as_neg, as_neg]
  have hsum : ∀ n m : Int, InS n → InS m → (ofM (-n + -m)).2 = (ofM (n + m)).2 ∧ (sameM ((ofM (-n + -m)).1) (negM ((ofM (n + m)).1)) = true ∨ equalM ((ofM (n + m)).1) (Nm.mk 0 0) = true) := by
    intro n m hn hm
    by_cases hs : InS (n + m)
    · have hs' : InS (-n + -m) := by unfold InS at *; omega
      rw [ofM_in hs, ofM_in hs']
      refine ⟨rfl, ?_⟩
      by_cases hz : n + m = 0
      · right; rw [hz]; decide
      · left
        have : negM ⟨0, n + m⟩ = ⟨0, -n + -m⟩ := by rw [negM, as_whole hs]; simp [negA, hz]; omega
        rw [this]; exact sameM_refl _
    · have hs' : ¬ InS (-n + -m) := by unfold InS at *; omega
      rw [ofM_out hs, ofM_out hs']
      exact ⟨rfl, .inl rfl⟩
  have h00 : InS 0 := by unfold InS; omega
  rw [e]
  unfold addM
  rcases negM_cases a with ⟨n, ha, hs, hn, h⟩ | ⟨ha, h⟩ | ⟨ha, h⟩ | ⟨ha, h⟩ | ⟨ha, h⟩ | ⟨ha, h⟩ <;> rcases negM_cases b with ⟨m, hb, hs', hm, h'⟩ | ⟨hb, h'⟩ | ⟨hb, h'⟩ | ⟨hb, h'⟩ | ⟨hb, h'⟩ | ⟨hb, h'⟩ <;> rw [ha, hb, h, h']
  all_goals first
    | decide
    | (have g := hsum n m hs hs'; simpa [addA, infB] using g)
    | (have g := hsum n 0 hs h00; simpa [addA, infB] using g)
    | (have g := hsum 0 m h00 hs'; simpa [addA, infB] using g)
    | (simp [addA, infB]; decide)
end Go.Proofs.YtldakajmhfdfgaaDoor
