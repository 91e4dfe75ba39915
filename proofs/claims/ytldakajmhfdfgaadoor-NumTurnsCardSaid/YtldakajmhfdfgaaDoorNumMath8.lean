/- Plain laws of the numbers of chapter 1: quotients and rests; the order. -/
import Derived.Test.YtldakajmhfdfgaaDoorNumMath6
namespace Go.Proofs.YtldakajmhfdfgaaDoor
set_option linter.unusedSimpArgs false
set_option linter.unusedVariables false
theorem less_trans {a b c : Nm} (h1 : lessM a b = true) (h2 : lessM b c = true) : lessM a c = true := by
  simp only [lessM, lessA, Bool.and_eq_true, Bool.not_eq_true', decide_eq_true_eq] at *
  exact ⟨⟨h1.1.1, h2.1.2⟩, by omega⟩
theorem eq_zero_nought (s : Bool) : equalM (noughtM s) ⟨0, 0⟩ = true := by cases s <;> decide
theorem nought_n (s : Bool) : (noughtM s).n = 0 := by cases s <;> rfl
theorem equal_refl_fin (s : Bool) {p : Nat} (h : (Cls.fin p).ok) : equalM (encN s (.fin p)) (encN s (.fin p)) = true := by
  unfold equalM
  rw [as_enc s h, equalA, k2]; simp
theorem whole_cls {a : Nm} (h : mayB a = true) (hk : decide (a.k = 0) = true) : a = ⟨0, 0⟩ ∨ ∃ s p, (Cls.fin p).ok ∧ a = encN s (.fin p) := by
  have e := as_of_may h
  obtain ⟨s, c, hc, hs⟩ := as_cls a
  rw [e] at hs
  cases c with
  | zero =>
    cases s
    · left; exact hs
    · rw [hs] at hk; cases hk
  | fin p => right; exact ⟨s, p, hc, hs⟩
  | nan => rw [hs] at hk; cases hk
  | inf => rw [hs] at hk; cases s <;> cases hk
theorem rests {a b : Nm} (ha : mayB a = true) (hb : mayB b = true) (ka : decide (a.k = 0) = true) (kb : decide (b.k = 0) = true) (nb : decide (b.n = 0) = false) :
    equalM (remM a b) (Nm.mk 0 0) = (divM a b).2 ∧ decide (max (remM a b).n (-(remM a b).n) < max b.n (-b.n)) = true ∧ ((divM a b).2 = true → (mulM (divM a b).1 b).2 = true ∧ equalM (mulM (divM a b).1 b).1 a = true) := by
  rcases whole_cls hb kb with rfl | ⟨t, q, hq, rfl⟩
  · cases nb
  have hbn : max (encN t (.fin q)).n (-(encN t (.fin q)).n) = q := sg_max t q
  rw [hbn]
  rcases whole_cls ha ka with rfl | ⟨s, p, hp, rfl⟩
  · have e0 : (⟨0, 0⟩ : Nm) = encN false .zero := rfl
    have er : remM ⟨0, 0⟩ (encN t (.fin q)) = ⟨0, 0⟩ := by
      rw [remM, as_enc t hq, show asM ⟨0, 0⟩ = encN false .zero from rfl, remA, k2, k2, kinf, kinf, knz false (x := .zero) trivial, knz t hq]; rfl
    have ed : divM ⟨0, 0⟩ (encN t (.fin q)) = (noughtM (false != t), true) := by
      rw [divM, as_enc t hq, show asM ⟨0, 0⟩ = encN false .zero from rfl, div_cls false t (x := .zero) trivial hq]; rfl
    rw [er, ed]
    refine ⟨(show equalM ⟨0, 0⟩ ⟨0, 0⟩ = true by decide), by simp; exact hq.1, fun _ => ?_⟩
    have em : mulM (noughtM (false != t)) (encN t (.fin q)) = (noughtM ((false != t) != t), true) := by
      rw [mulM, as_enc t hq, show asM (noughtM (false != t)) = encN (false != t) .zero by cases t <;> rfl, mul_cls (false != t) t (x := .zero) trivial hq]; rfl
    show (mulM (noughtM (false != t)) (encN t (.fin q))).2 = true ∧ equalM (mulM (noughtM (false != t)) (encN t (.fin q))).1 ⟨0, 0⟩ = true
    rw [em]
    exact ⟨rfl, eq_zero_nought _⟩
  · have er : remM (encN s (.fin p)) (encN t (.fin q)) = if p % q = 0 then noughtM s else ⟨0, sg s (p % q)⟩ := by
      rw [remM, as_enc s hp, as_enc t hq]; exact rem_fin s t hp hq
    have ed : divM (encN s (.fin p)) (encN t (.fin q)) = outC (s != t) (if p % q = 0 then some (.fin (p / q)) else none) := by
      rw [divM, as_enc s hp, as_enc t hq, div_cls s t hp hq]; rfl
    rw [er, ed]
    have hp2 := hp.1
    have hp3 := hp.2
    have hq2 := hq.1
    by_cases h : p % q = 0
    · rw [if_pos h, if_pos h]
      have hmul : p / q * q = p := Nat.div_mul_cancel (Nat.dvd_of_mod_eq_zero h)
      have hpos : 0 < p / q := by
        rcases Nat.eq_zero_or_pos (p / q) with h0 | h0
        · rw [h0] at hmul; omega
        · exact h0
      have hok : (Cls.fin (p / q)).ok := ⟨hpos, Nat.le_trans (Nat.div_le_self p q) hp3⟩
      refine ⟨eq_zero_nought s, by rw [nought_n]; simp; exact hq2, fun _ => ?_⟩
      have em : mulM (encN (s != t) (.fin (p / q))) (encN t (.fin q)) = (encN s (.fin p), true) := by
        rw [mulM, as_enc _ hok, as_enc t hq, mul_cls _ t hok hq]
        show outC ((s != t) != t) (if p / q * q ≤ 9007199254740991 then some (.fin (p / q * q)) else none) = _
        rw [hmul, if_pos hp3, show ((s != t) != t) = s by cases s <;> cases t <;> rfl]; rfl
      show (mulM (encN (s != t) (.fin (p / q))) (encN t (.fin q))).2 = true ∧ equalM (mulM (encN (s != t) (.fin (p / q))) (encN t (.fin q))).1 (encN s (.fin p)) = true
      rw [em]
      exact ⟨rfl, equal_refl_fin s hp⟩
    · rw [if_neg h, if_neg h]
      have hlt : p % q < q := Nat.mod_lt _ hq2
      refine ⟨?_, ?_, fun hf => by cases hf⟩
      · have hok : (Cls.fin (p % q)).ok := ⟨by omega, by have := Nat.mod_le p q; omega⟩
        show equalM (encN s (.fin (p % q))) ⟨0, 0⟩ = false
        unfold equalM
        rw [as_enc s hok, show asM ⟨0, 0⟩ = ⟨0, 0⟩ from rfl, equalA, k2]
        have : ¬ sg s (p % q) = 0 := fun h2 => h (sg_zero.1 h2)
        simp [rankM, encN]
        exact this
      · show decide (max (sg s (p % q)) (-(sg s (p % q))) < (q : Int)) = true
        rw [sg_max]; simp; omega
theorem may_n_bd {a : Nm} (h : mayB a = true) (_hk : decide (a.k = 0) = true) : -9007199254740991 ≤ a.n ∧ a.n ≤ 9007199254740991 := by
  have e := as_of_may h
  rcases as_cases a with ⟨n, h, h2⟩ | h | h | h | h <;> rw [e] at h <;> rw [h] <;> first | exact h2 | exact ⟨by decide, by decide⟩
theorem tmod_le0 {x y : Int} (hx : 0 ≤ x) (hy : 0 ≤ y) : 0 ≤ x.tmod y ∧ x.tmod y ≤ x := by
  obtain ⟨n, rfl⟩ := Int.eq_ofNat_of_zero_le hx
  obtain ⟨m, rfl⟩ := Int.eq_ofNat_of_zero_le hy
  rw [← Int.ofNat_tmod]
  have := Nat.mod_le n m
  omega
theorem rem_n_bd (a b : Nm) : -9007199254740991 ≤ (remM a b).n ∧ (remM a b).n ≤ 9007199254740991 := by
  have ha := size_bd a
  have hb := size_bd b
  have hm := tmod_le0 ha.1 hb.1
  have hd := as_bd a
  unfold remM remA
  split
  · exact ⟨by decide, by decide⟩
  · split
    · omega
    · split
      · rw [nought_n]; omega
      · unfold signedM; split <;> simp <;> omega
end Go.Proofs.YtldakajmhfdfgaaDoor
