/- Plain laws of the numbers of chapter 1: 32 bits. -/
import Derived.Test.YtldakajmhfdfgaaDoorNumMath6
namespace Go.Proofs.YtldakajmhfdfgaaDoor
set_option linter.unusedSimpArgs false
set_option linter.unusedVariables false
theorem i32of_nat (n : Nat) (h : n < 4294967296) : i32of (n : Int) = (BitVec.ofNat 32 n).toInt := by
  rw [BitVec.toInt_eq_toNat_cond, BitVec.toNat_ofNat]
  unfold i32of
  have e : (n : Int) % 4294967296 = n := by omega
  have e2 : n % 2 ^ 32 = n := by omega
  rw [e, e2]
  by_cases hl : n < 2147483648
  · rw [if_pos (by simpa using (by omega : (n : Int) < 2147483648)), if_pos (by omega)]
  · rw [if_neg (by simp; omega), if_neg (by omega)]; rfl
theorem ofInt_ext (v : BitVec 32) : BitVec.ofInt 64 v.toInt = v.signExtend 64 := rfl
theorem ofInt_nat64 (n : Nat) : BitVec.ofInt 64 (n : Int) = BitVec.ofNat 64 n := by rw [BitVec.ofInt_natCast]
theorem toInt_small {v : BitVec 64} (h : v.toNat < 9223372036854775808) : v.toInt = v.toNat := by
  rw [BitVec.toInt_eq_toNat_cond, if_pos (by omega)]
section
variable {u v : Nat} (hu : u < 4294967296) (hv : v < 4294967296)
include hu hv
theorem band_nat : bandM (u : Int) (v : Int) = ((u &&& v : Nat) : Int) := by
  have h : u &&& v < 2 ^ 32 := Nat.and_lt_two_pow _ (by omega)
  have e : (BitVec.ofNat 64 u &&& BitVec.ofNat 64 v).toNat = u &&& v := by
    rw [BitVec.toNat_and, BitVec.toNat_ofNat, BitVec.toNat_ofNat, Nat.mod_eq_of_lt (by omega), Nat.mod_eq_of_lt (by omega)]
  unfold bandM
  rw [ofInt_nat64, ofInt_nat64, toInt_small (by omega), e]
theorem bor_nat : borM (u : Int) (v : Int) = ((u ||| v : Nat) : Int) := by
  have h : u ||| v < 2 ^ 32 := Nat.or_lt_two_pow (by omega) (by omega)
  have e : (BitVec.ofNat 64 u ||| BitVec.ofNat 64 v).toNat = u ||| v := by
    rw [BitVec.toNat_or, BitVec.toNat_ofNat, BitVec.toNat_ofNat, Nat.mod_eq_of_lt (by omega), Nat.mod_eq_of_lt (by omega)]
  unfold borM
  rw [ofInt_nat64, ofInt_nat64, toInt_small (by omega), e]
theorem bxor_nat : bxorM (u : Int) (v : Int) = ((u ^^^ v : Nat) : Int) := by
  have h : u ^^^ v < 2 ^ 32 := Nat.xor_lt_two_pow (by omega) (by omega)
  have e : (BitVec.ofNat 64 u ^^^ BitVec.ofNat 64 v).toNat = u ^^^ v := by
    rw [BitVec.toNat_xor, BitVec.toNat_ofNat, BitVec.toNat_ofNat, Nat.mod_eq_of_lt (by omega), Nat.mod_eq_of_lt (by omega)]
  unfold bxorM
  rw [ofInt_nat64, ofInt_nat64, toInt_small (by omega), e]
theorem band_i32 : bandM (i32of u) (i32of v) = i32of ((u &&& v : Nat) : Int) := by
  have h : u &&& v < 2 ^ 32 := Nat.and_lt_two_pow _ (by omega)
  rw [i32of_nat u hu, i32of_nat v hv, i32of_nat _ (by omega)]
  unfold bandM
  rw [ofInt_ext, ofInt_ext, ← BitVec.signExtend_and, BitVec.toInt_signExtend_of_le (by omega)]
  congr 1
  apply BitVec.eq_of_toNat_eq
  rw [BitVec.toNat_and]
  simp only [BitVec.toNat_ofNat]
  rw [Nat.mod_eq_of_lt (by omega), Nat.mod_eq_of_lt (by omega), Nat.mod_eq_of_lt (by omega)]
theorem bor_i32 : borM (i32of u) (i32of v) = i32of ((u ||| v : Nat) : Int) := by
  have h : u ||| v < 2 ^ 32 := Nat.or_lt_two_pow (by omega) (by omega)
  rw [i32of_nat u hu, i32of_nat v hv, i32of_nat _ (by omega)]
  unfold borM
  rw [ofInt_ext, ofInt_ext, ← BitVec.signExtend_or, BitVec.toInt_signExtend_of_le (by omega)]
  congr 1
  apply BitVec.eq_of_toNat_eq
  rw [BitVec.toNat_or]
  simp only [BitVec.toNat_ofNat]
  rw [Nat.mod_eq_of_lt (by omega), Nat.mod_eq_of_lt (by omega), Nat.mod_eq_of_lt (by omega)]
theorem bxor_i32 : bxorM (i32of u) (i32of v) = i32of ((u ^^^ v : Nat) : Int) := by
  have h : u ^^^ v < 2 ^ 32 := Nat.xor_lt_two_pow (by omega) (by omega)
  rw [i32of_nat u hu, i32of_nat v hv, i32of_nat _ (by omega)]
  unfold bxorM
  rw [ofInt_ext, ofInt_ext, ← BitVec.signExtend_xor, BitVec.toInt_signExtend_of_le (by omega)]
  congr 1
  apply BitVec.eq_of_toNat_eq
  rw [BitVec.toNat_xor]
  simp only [BitVec.toNat_ofNat]
  rw [Nat.mod_eq_of_lt (by omega), Nat.mod_eq_of_lt (by omega), Nat.mod_eq_of_lt (by omega)]
end
theorem u32_nat (a : Nm) : ∃ u : Nat, u32M a = u ∧ u < 4294967296 := ⟨(u32M a).toNat, by have := u32_bd a; omega, by have := u32_bd a; omega⟩
theorem i32_whole {n : Int} (h : 0 ≤ n ∧ n < 4294967296) : i32M ⟨0, n⟩ = i32of n := by
  unfold i32M u32M
  rw [as_whole (by unfold InS; omega)]
  simp [i32of]
theorem i32_u (a : Nm) : i32M a = i32of (u32M a) := rfl
theorem i32of_mod (n : Int) : i32of (n % 4294967296) = i32of n := by simp [i32of]
theorem i32of_mod2 {u : Nat} (h : u < 4294967296) : i32of (u : Int) % 4294967296 = u := by
  unfold i32of; split <;> omega
theorem rBit_eq (op : Int) (a b : Nm) : rBitM op a b = bitM op a b := by
  obtain ⟨u, hu, hu2⟩ := u32_nat a
  obtain ⟨v, hv, hv2⟩ := u32_nat b
  unfold rBitM bitM shM
  rw [i32_u a, i32_u b, hu, hv]
  unfold rBitN
  rw [hu, hv]
  by_cases h1 : op = 1
  · subst h1
    have hlt : u &&& v < 2 ^ 32 := Nat.and_lt_two_pow _ (by omega)
    have e := i32_whole (n := ((u &&& v : Nat) : Int)) (by omega)
    simp [band_nat hu2 hv2, band_i32 hu2 hv2, e]
  · by_cases h2 : op = 2
    · subst h2
      have hlt : u ||| v < 2 ^ 32 := Nat.or_lt_two_pow (by omega) (by omega)
      have e := i32_whole (n := ((u ||| v : Nat) : Int)) (by omega)
      simp [bor_nat hu2 hv2, bor_i32 hu2 hv2, e]
    · by_cases h3 : op = 3
      · subst h3
        have hlt : u ^^^ v < 2 ^ 32 := Nat.xor_lt_two_pow (by omega) (by omega)
        have e := i32_whole (n := ((u ^^^ v : Nat) : Int)) (by omega)
        simp [bxor_nat hu2 hv2, bxor_i32 hu2 hv2, e]
      · by_cases h4 : op = 4
        · subst h4
          have hm : ((u : Int) * 2 ^ ((v : Int).tmod 32).toNat).tmod 4294967296 = (u : Int) * 2 ^ ((v : Int).tmod 32).toNat % 4294967296 := by
            refine Int.tmod_eq_emod_of_nonneg (Int.mul_nonneg (by omega) ?_)
            have e : ((2 ^ ((v : Int).tmod 32).toNat : Nat) : Int) = (2 : Int) ^ ((v : Int).tmod 32).toNat := by rw [Int.natCast_pow]; rfl
            rw [← e]; exact Int.natCast_nonneg _
          simp [i32of_mod2 hu2, hm]
          rw [i32_whole (by omega)]
        · simp [h1, h2, h3, h4]
end Go.Proofs.YtldakajmhfdfgaaDoor
