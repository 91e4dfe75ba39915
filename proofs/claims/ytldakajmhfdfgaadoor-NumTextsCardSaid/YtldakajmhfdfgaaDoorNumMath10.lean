/- Plain laws of the numbers of chapter 1: bits moved up and down. -/
import Derived.Test.YtldakajmhfdfgaaDoorNumMath9
namespace Go.Proofs.YtldakajmhfdfgaaDoor
set_option linter.unusedSimpArgs false
set_option linter.unusedVariables false
theorem pow20 {s : Int} (h0 : ¬ s < 0) (h1 : s ≤ 20) : 1 ≤ 1 * (2 : Int) ^ s.toNat ∧ 1 * (2 : Int) ^ s.toNat ≤ 1048576 := by
  have h : ∀ n ≤ 20, 1 ≤ 1 * (2 : Int) ^ n ∧ 1 * (2 : Int) ^ n ≤ 1048576 := by decide
  exact h s.toNat (by omega)
theorem sh_small {s : Int} (h0 : ¬ s < 0) (h1 : s ≤ 20) : shM ⟨0, s⟩ = s ∧ shM ⟨0, s + 32⟩ = s := by
  unfold shM u32M
  rw [as_whole (by unfold InS; omega), as_whole (by unfold InS; omega)]
  have e1 : s % 4294967296 = s := by omega
  have e2 : (s + 32) % 4294967296 = s + 32 := by omega
  have e3 : s.tmod 32 = s := by rw [Int.tmod_eq_emod_of_nonneg (by omega)]; omega
  have e4 : (s + 32).tmod 32 = s := by rw [Int.tmod_eq_emod_of_nonneg (by omega)]; omega
  constructor
  · show (s % 4294967296).tmod 32 = s
    rw [e1, e3]
  · show ((s + 32) % 4294967296).tmod 32 = s
    rw [e2, e4]
theorem bit4_n {a : Nm} {s : Int} (h0 : ¬ s < 0) (h1 : s ≤ 20) : bitM 4 a ⟨0, s⟩ = ⟨0, i32of (i32M a * 2 ^ s.toNat)⟩ := by
  show (⟨0, i32of (i32M a % 4294967296 * 2 ^ (shM ⟨0, s⟩).toNat % 4294967296)⟩ : Nm) = _
  rw [(sh_small h0 h1).1, i32of_mod]
  have e : i32of (i32M a % 4294967296 * 2 ^ s.toNat) = i32of (i32M a * 2 ^ s.toNat) := by
    rw [← i32of_mod (i32M a % 4294967296 * 2 ^ s.toNat), ← i32of_mod (i32M a * 2 ^ s.toNat), Int.mul_emod, Int.emod_emod_of_dvd _ (Int.dvd_refl _), ← Int.mul_emod]
  rw [e]
theorem bit5_n {a : Nm} {s : Int} (h0 : ¬ s < 0) (h1 : s ≤ 20) : bitM 5 a ⟨0, s⟩ = ⟨0, i32M a / (1 * 2 ^ s.toNat)⟩ := by
  show (⟨0, i32M a / 2 ^ (shM ⟨0, s⟩).toNat⟩ : Nm) = _
  rw [(sh_small h0 h1).1, Int.one_mul]
theorem bit6_n {a : Nm} {s : Int} (h0 : ¬ s < 0) (h1 : s ≤ 20) : bitM 6 a ⟨0, s⟩ = ⟨0, u32M a / (1 * 2 ^ s.toNat)⟩ := by
  show (⟨0, u32M a / 2 ^ (shM ⟨0, s⟩).toNat⟩ : Nm) = _
  rw [(sh_small h0 h1).1, Int.one_mul]
theorem bit_32 (a : Nm) {s : Int} (h0 : ¬ s < 0) (h1 : s ≤ 20) : bitM 4 a ⟨0, s + 32⟩ = bitM 4 a ⟨0, s⟩ ∧ bitM 5 a ⟨0, s + 32⟩ = bitM 5 a ⟨0, s⟩ := by
  constructor
  · show (⟨0, i32of (i32M a % 4294967296 * 2 ^ (shM ⟨0, s + 32⟩).toNat % 4294967296)⟩ : Nm) = ⟨0, i32of (i32M a % 4294967296 * 2 ^ (shM ⟨0, s⟩).toNat % 4294967296)⟩
    rw [(sh_small h0 h1).1, (sh_small h0 h1).2]
  · show (⟨0, i32M a / 2 ^ (shM ⟨0, s + 32⟩).toNat⟩ : Nm) = ⟨0, i32M a / 2 ^ (shM ⟨0, s⟩).toNat⟩
    rw [(sh_small h0 h1).1, (sh_small h0 h1).2]
theorem mul_whole {x y : Int} (hx : InS x) (hy0 : 0 < y) (hy : InS y) (h : InS (x * y)) : mulM ⟨0, x⟩ ⟨0, y⟩ = (⟨0, x * y⟩, true) := by
  obtain ⟨q, rfl⟩ := Int.eq_ofNat_of_zero_le (Int.le_of_lt hy0)
  have hq : (Cls.fin q).ok := ⟨by omega, by unfold InS at hy; omega⟩
  have ey : (⟨0, (q : Int)⟩ : Nm) = encN false (.fin q) := rfl
  by_cases hz : x = 0
  · subst hz
    have e0 : (⟨0, 0⟩ : Nm) = encN false .zero := rfl
    rw [mulM, ey, as_enc false hq, show asM ⟨0, 0⟩ = encN false .zero from rfl, mul_cls false false (x := .zero) trivial hq, Int.zero_mul]; rfl
  · obtain ⟨s, p, hp, ex⟩ : ∃ s p, (Cls.fin p).ok ∧ x = sg s p := by
      refine ⟨decide (x < 0), x.natAbs, ⟨by omega, by unfold InS at hx; omega⟩, ?_⟩
      unfold sg; by_cases hn : x < 0
      · rw [if_pos (by simpa using hn)]; omega
      · rw [if_neg (by simpa using hn)]; omega
    subst ex
    have hm : sg s p * (q : Int) = sg s (p * q) := by
      have := sg_mul s false p q
      rw [show (s != false) = s by cases s <;> rfl] at this
      exact this
    have hle : p * q ≤ 9007199254740991 := by
      rw [hm] at h; unfold InS sg at h; split at h <;> omega
    rw [hm, mulM, ey, ← enc_fin, as_enc s hp, as_enc false hq, mul_cls s false hp hq]
    show outC (s != false) (if p * q ≤ 9007199254740991 then some (.fin (p * q)) else none) = _
    rw [if_pos hle, show (s != false) = s by cases s <;> rfl]; rfl
theorem prod_sh {x p : Int} (hx : -2147483648 ≤ x ∧ x ≤ 2147483648) (hp : 1 ≤ p ∧ p ≤ 1048576) : -2251799813685248 ≤ x * p ∧ x * p ≤ 2251799813685248 := by
  have h1 : x * p ≤ 2147483648 * p := Int.mul_le_mul_of_nonneg_right hx.2 (by omega)
  have h2 : -2147483648 * p ≤ x * p := Int.mul_le_mul_of_nonneg_right hx.1 (by omega)
  omega
theorem div_sh {x p : Int} (hx : -2147483648 ≤ x ∧ x ≤ 2147483647) (hp : 1 ≤ p) : -2147483648 ≤ x / p ∧ x / p ≤ 2147483647 := by
  constructor
  · have h := Int.le_ediv_of_mul_le (a := -2147483648) (b := x) (c := p) (by omega)
    refine h ?_
    have : -2147483648 * p ≤ -2147483648 * 1 := by omega
    omega
  · rcases Int.lt_or_le x 0 with h | h
    · have := Int.ediv_neg_of_neg_of_pos h (by omega : 0 < p); omega
    · have := Int.ediv_le_self p h; omega
theorem shifts (a : Nm) {s : Int} (h0 : ¬ s < 0) (h1 : s ≤ 20) :
    mulM ⟨0, i32M a⟩ ⟨0, 1 * 2 ^ s.toNat⟩ = (⟨0, i32M a * (1 * 2 ^ s.toNat)⟩, true) ∧
    (bitM 4 a ⟨0, s⟩).n = i32M ⟨0, i32M a * (1 * 2 ^ s.toNat)⟩ ∧
    (bitM 5 a ⟨0, s⟩).n * (1 * 2 ^ s.toNat) ≤ i32M a ∧
    i32M a < ((bitM 5 a ⟨0, s⟩).n + 1) * (1 * 2 ^ s.toNat) ∧
    (bitM 6 a ⟨0, s⟩).n = (u32M a).tdiv (1 * 2 ^ s.toNat) := by
  have hp := pow20 h0 h1
  have hi := i32_bd (u32M a)
  have hi2 : -2147483648 ≤ i32M a ∧ i32M a ≤ 2147483647 := hi
  have hm := prod_sh (x := i32M a) (by omega) hp
  refine ⟨mul_whole (by unfold InS; omega) (by omega) (by unfold InS; omega) (by unfold InS; omega), ?_, ?_, ?_, ?_⟩
  · rw [bit4_n h0 h1, Int.one_mul]
    rw [Int.one_mul] at hm
    show i32of (i32M a * 2 ^ s.toNat) = i32of (u32M ⟨0, i32M a * 2 ^ s.toNat⟩)
    unfold u32M
    rw [as_whole (by unfold InS; omega)]
    show _ = i32of (i32M a * 2 ^ s.toNat % 4294967296)
    rw [i32of_mod]
  · rw [bit5_n h0 h1]; exact Int.ediv_mul_le _ (by omega)
  · rw [bit5_n h0 h1]; exact Int.lt_ediv_add_one_mul_self _ (by omega)
  · rw [bit6_n h0 h1, Int.tdiv_eq_ediv_of_nonneg (u32_bd a).1]
theorem shifts_bd (a : Nm) {s : Int} (h0 : ¬ s < 0) (h1 : s ≤ 20) :
    (1 ≤ 1 * (2 : Int) ^ s.toNat ∧ 1 * (2 : Int) ^ s.toNat ≤ 1048576) ∧
    (-2147483648 ≤ (bitM 5 a ⟨0, s⟩).n ∧ (bitM 5 a ⟨0, s⟩).n ≤ 2147483647) ∧
    (-2251799813685248 ≤ (bitM 5 a ⟨0, s⟩).n * (1 * 2 ^ s.toNat) ∧ (bitM 5 a ⟨0, s⟩).n * (1 * 2 ^ s.toNat) ≤ 2251799813685248) ∧
    (-2251799813685248 ≤ ((bitM 5 a ⟨0, s⟩).n + 1) * (1 * 2 ^ s.toNat) ∧ ((bitM 5 a ⟨0, s⟩).n + 1) * (1 * 2 ^ s.toNat) ≤ 2251799813685248) ∧
    (0 ≤ (u32M a).tdiv (1 * 2 ^ s.toNat) ∧ (u32M a).tdiv (1 * 2 ^ s.toNat) ≤ 4294967296) := by
  have hp := pow20 h0 h1
  have hi := i32_bd (u32M a)
  have hi2 : -2147483648 ≤ i32M a ∧ i32M a ≤ 2147483647 := hi
  have hu := u32_bd a
  have hd : -2147483648 ≤ (bitM 5 a ⟨0, s⟩).n ∧ (bitM 5 a ⟨0, s⟩).n ≤ 2147483647 := by
    rw [bit5_n h0 h1]; exact div_sh hi2 hp.1
  have ht := tdiv_bd (x := u32M a) (y := 1 * 2 ^ s.toNat) hu.1 (by omega)
  exact ⟨hp, hd, prod_sh (by omega) hp, prod_sh (by omega) hp, by omega⟩
end Go.Proofs.YtldakajmhfdfgaaDoor
