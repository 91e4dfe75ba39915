/- Plain laws of the numbers of chapter 1: 32 bits told as one. -/
import Derived.Test.YtldakajmhfdfgaaDoorNumMath7
namespace Go.Proofs.YtldakajmhfdfgaaDoor
set_option linter.unusedSimpArgs false
set_option linter.unusedVariables false
theorem nat_and_or (u v : Nat) : (u &&& v) + (u ||| v) = u + v := by
  induction u using Nat.strongRecOn generalizing v with
  | ind u ih =>
    by_cases h : u = 0
    · subst h; simp
    · have hi := ih (u / 2) (by omega) (v / 2)
      have e1 : (u &&& v) / 2 = u / 2 &&& v / 2 := Nat.and_div_two
      have e2 : (u ||| v) / 2 = u / 2 ||| v / 2 := Nat.or_div_two
      have m1 : (u &&& v) % 2 = u % 2 &&& v % 2 := Nat.and_mod_two_pow (n := 1)
      have m2 : (u ||| v) % 2 = u % 2 ||| v % 2 := Nat.or_mod_two_pow (n := 1)
      rw [← e1, ← e2] at hi
      clear e1 e2
      have ka : ∀ x < 2, ∀ y < 2, (x &&& y) = (if x = 1 ∧ y = 1 then 1 else 0) ∧ (x ||| y) = (if x = 1 ∨ y = 1 then 1 else 0) := by decide
      have kk := ka (u % 2) (Nat.mod_lt _ (by omega)) (v % 2) (Nat.mod_lt _ (by omega))
      rw [kk.1] at m1
      rw [kk.2] at m2
      clear kk ka
      split at m1 <;> split at m2 <;> omega
theorem top_and (u v : Nat) : (u &&& v) / 2147483648 = u / 2147483648 &&& v / 2147483648 := Nat.and_div_two_pow (n := 31)
theorem top_or (u v : Nat) : (u ||| v) / 2147483648 = u / 2147483648 ||| v / 2147483648 := Nat.or_div_two_pow (n := 31)
theorem i32of_top {u : Nat} (h : u < 4294967296) : i32of (u : Int) = (u : Int) - 4294967296 * ((u / 2147483648 : Nat) : Int) := by
  unfold i32of
  by_cases h2 : (u : Int) % 4294967296 < 2147483648
  · rw [if_pos (by simpa using h2)]
    have : u / 2147483648 = 0 := by omega
    rw [this]; omega
  · rw [if_neg (by simpa using h2)]
    have : u / 2147483648 = 1 := by omega
    rw [this]; omega
theorem sum_words {u v : Nat} (hu : u < 4294967296) (hv : v < 4294967296) : i32of ((u &&& v : Nat) : Int) + i32of ((u ||| v : Nat) : Int) = i32of (u : Int) + i32of (v : Int) := by
  have h1 : u &&& v < 2 ^ 32 := Nat.and_lt_two_pow _ (by omega)
  have h2 : u ||| v < 2 ^ 32 := Nat.or_lt_two_pow (by omega) (by omega)
  rw [i32of_top hu, i32of_top hv, i32of_top (by omega), i32of_top (by omega), top_and, top_or]
  have e := nat_and_or u v
  have e3 := nat_and_or (u / 2147483648) (v / 2147483648)
  omega
theorem i32_of (n : Int) : i32M ⟨0, i32of n⟩ = i32of n := by
  have hb := i32_bd n
  unfold i32M u32M
  rw [as_whole (by unfold InS; omega)]
  show i32of (i32of n % 4294967296) = i32of n
  unfold i32of; simp only [decide_eq_true_eq]; split <;> split <;> omega
theorem add_whole {x y : Int} (hx : InS x) (hy : InS y) (h : InS (x + y)) : addM ⟨0, x⟩ ⟨0, y⟩ = (⟨0, x + y⟩, true) := by
  rw [addM, as_whole hx, as_whole hy]
  simp [addA, infB, ofM_in h]
theorem words (a b : Nm) :
    bitM 3 (bitM 3 a b) b = ⟨0, i32M a⟩ ∧ addM (bitM 1 a b) (bitM 2 a b) = (⟨0, i32M a + i32M b⟩, true) ∧ addM ⟨0, i32M a⟩ ⟨0, i32M b⟩ = (⟨0, i32M a + i32M b⟩, true) := by
  obtain ⟨u, hu, hu2⟩ := u32_nat a
  obtain ⟨v, hv, hv2⟩ := u32_nat b
  have hb1 := i32_bd (u32M a)
  have hb2 := i32_bd (u32M b)
  have hb3 := i32_bd ((u &&& v : Nat) : Int)
  have hb4 := i32_bd ((u ||| v : Nat) : Int)
  have es := sum_words hu2 hv2
  have hx : u ^^^ v < 2 ^ 32 := Nat.xor_lt_two_pow (by omega) (by omega)
  refine ⟨?_, ?_, ?_⟩
  · show (⟨0, bxorM (i32M ⟨0, bxorM (i32M a) (i32M b)⟩) (i32M b)⟩ : Nm) = _
    rw [i32_u a, i32_u b, hu, hv, bxor_i32 hu2 hv2, i32_of, bxor_i32 (by omega) hv2, Nat.xor_assoc, Nat.xor_self, Nat.xor_zero]
  · show addM ⟨0, bandM (i32M a) (i32M b)⟩ ⟨0, borM (i32M a) (i32M b)⟩ = _
    rw [hu] at hb1; rw [hv] at hb2
    rw [i32_u a, i32_u b, hu, hv, band_i32 hu2 hv2, bor_i32 hu2 hv2, add_whole (by unfold InS; omega) (by unfold InS; omega) (by unfold InS; omega), es]
  · rw [i32_u a, i32_u b]
    exact add_whole (by unfold InS; omega) (by unfold InS; omega) (by unfold InS; omega)
theorem i32_diff (a : Nm) : decide ((u32M a - i32M a).tmod 4294967296 = 0) = true := by
  have hb := u32_bd a
  have e : u32M a - i32M a = 0 ∨ u32M a - i32M a = 4294967296 := by
    unfold i32M i32of; split <;> omega
  rcases e with e | e <;> rw [e] <;> decide
theorem i32M_bd (a : Nm) : decide (i32M a < -2147483648) = false ∧ decide (i32M a < 2147483648) = true := by
  have := i32_bd (u32M a)
  unfold i32M; simp; omega
theorem u32M_bd (a : Nm) : decide (u32M a < 0) = false ∧ decide (u32M a < 4294967296) = true := by
  have := u32_bd a
  simp; omega
theorem bit5_0 (a : Nm) : bitM 5 a ⟨0, 0⟩ = ⟨0, i32M a⟩ := by
  have e : shM ⟨0, 0⟩ = 0 := by decide
  show (⟨0, i32M a / 2 ^ (shM ⟨0, 0⟩).toNat⟩ : Nm) = _
  rw [e]; simp
theorem bit6_0 (a : Nm) : bitM 6 a ⟨0, 0⟩ = ⟨0, u32M a⟩ := by
  have e : shM ⟨0, 0⟩ = 0 := by decide
  show (⟨0, u32M a / 2 ^ (shM ⟨0, 0⟩).toNat⟩ : Nm) = _
  rw [e]; simp
end Go.Proofs.YtldakajmhfdfgaaDoor
