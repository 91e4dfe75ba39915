/- Plain laws of the numbers of chapter 1: two readers of texts. -/
import Derived.Test.YtldakajmhfdfgaaDoorNumTx
import Derived.Test.YtldakajmhfdfgaaDoorNumTe
import Derived.Test.YtldakajmhfdfgaaDoorNumMath4
namespace Go.Proofs.YtldakajmhfdfgaaDoor
open Go.Lib
set_option linter.unusedSimpArgs false
set_option linter.unusedVariables false
def stepA (a : Int) (c : UInt8) : Int := if decide ((c.toNat : Int) < 48) then a else if decide ((c.toNat : Int) ≤ 57) then 10 * a + ((c.toNat : Int) - 48) else a
theorem accB_fold (s : ByteArray) : ∀ j : Nat, j ≤ s.data.toList.length → accB s j = (s.data.toList.take j).foldl stepA 0
  | 0, _ => rfl
  | j + 1, h => by
    have ih := accB_fold s j (by omega)
    have hl : j < s.data.toList.length := by omega
    rw [List.take_succ_eq_append_getElem hl, List.foldl_append, ← ih]
    have e : byteI s (j : Int) = ((s.data.toList[j]).toNat : Int) := by
      unfold byteI
      rw [Int.toNat_natCast, List.getD_eq_getElem?_getD, List.getElem?_eq_getElem hl]; rfl
    show accB s (j + 1) = stepA (accB s j) s.data.toList[j]
    unfold stepA
    rw [← e]; rfl
theorem fold_digits (u : Nat) : (decDigits u).foldl stepA 0 = u := by
  induction u using Nat.strongRecOn with
  | ind u ih =>
    rw [decDigits]
    by_cases h : u < 10
    · rw [dif_pos h]
      show stepA 0 (UInt8.ofNat (48 + u)) = _
      unfold stepA
      rw [digit_toNat h, decide_eq_false (by omega : ¬ ((48 + u : Nat) : Int) < 48), decide_eq_true (by omega : ((48 + u : Nat) : Int) ≤ 57)]
      simp; omega
    · rw [dif_neg h, List.foldl_append, ih (u / 10) (by omega)]
      show stepA ((u / 10 : Nat) : Int) (UInt8.ofNat (48 + u % 10)) = _
      unfold stepA
      rw [digit_toNat (by omega : u % 10 < 10), decide_eq_false (by omega : ¬ ((48 + u % 10 : Nat) : Int) < 48), decide_eq_true (by omega : ((48 + u % 10 : Nat) : Int) ≤ 57)]
      simp; omega
theorem digits_short {k : Nat} : ∀ {u : Nat}, u < 10 ^ (k + 1) → (decDigits u).length ≤ k + 1 := by
  induction k with
  | zero => intro u h; rw [decDigits, dif_pos (by omega)]; simp
  | succ k ih =>
    intro u h
    rw [decDigits]
    by_cases h10 : u < 10
    · rw [dif_pos h10]; simp
    · rw [dif_neg h10, List.length_append]
      have := ih (u := u / 10) (by rw [Nat.pow_succ] at h; exact Nat.div_lt_of_lt_mul (by rw [Nat.mul_comm]; exact h))
      simp; omega
theorem itoa_list (v : Int) : (itoaS v).data.toList = itoa v := by simp [itoaS]
theorem itoa_size (v : Int) : (itoaS v).size = (itoa v).length := by simp [itoaS, ByteArray.size]
theorem itoa_short {v : Int} (h : InS v) : (itoa v).length < 18 := by
  unfold InS at h
  have hd := digits_short (k := 15) (u := v.natAbs) (by omega)
  unfold itoa
  split
  · simp; omega
  · rw [show v.toNat = v.natAbs by omega]; omega
theorem accN_itoa {v : Int} (h : InS v) : accN (itoaS v) = v.natAbs := by
  unfold accN
  have hs := itoa_short h
  rw [if_pos (by rw [itoa_size]; exact hs), accB_fold _ _ (by rw [itoa_list, itoa_size]; exact Nat.le_refl _), itoa_list, itoa_size, List.take_length]
  unfold itoa
  split
  · rw [List.foldl_cons]
    have e : stepA 0 45 = 0 := by decide
    rw [e, fold_digits]
  · rw [fold_digits]; omega
theorem sgnN_itoa {v : Int} (h : InS v) : sgnN (itoaS v) = v := by
  unfold sgnN
  rw [accN_itoa h]
  have hb : byteI (itoaS v) 0 = (((itoa v).getD 0 0).toNat : Int) := by unfold byteI; rw [itoa_list]; rfl
  have hz : decide (((itoaS v).size : Int) ≤ 0) = false := by
    rw [itoa_size]
    refine decide_eq_false ?_
    rcases itoa_first v with ⟨c, r, e, -⟩ | ⟨c, r, e, -⟩ <;> rw [e] <;> simp <;> omega
  rw [hz, hb]
  rcases Int.lt_or_le v 0 with hn | hn
  · have e : (itoa v).getD 0 0 = 45 := by unfold itoa; rw [if_pos hn]; rfl
    rw [e, decide_eq_true (by decide : (((45 : UInt8).toNat : Nat) : Int) = 45)]
    simp; omega
  · have e : ∃ c r, itoa v = c :: r ∧ 48 ≤ c.toNat := by
      unfold itoa
      rw [if_neg (by omega)]
      obtain ⟨c, r, e, h48, -⟩ := digits_head v.toNat
      exact ⟨c, r, e, h48⟩
    obtain ⟨c, r, e, h48⟩ := e
    rw [e]
    show (if (!false && decide ((c.toNat : Int) = 45)) = true then _ else _) = _
    rw [decide_eq_false (by omega : ¬ (c.toNat : Int) = 45)]
    simp; omega
theorem strEq_iff {a b : ByteArray} : strEq a b = true ↔ a = b := by
  constructor
  · intro h
    unfold strEq at h
    rw [ByteArray.toList_eq, ByteArray.toList_eq] at h
    exact ByteArray.ext (Array.toList_inj.mp (by simpa using h))
  · intro h; rw [h]; exact strEq_refl b
theorem read_back {s : ByteArray} {n : Int} (h : (ofM n).2 = true) (hs : strEq (itoaS n) s = true) : atoiAll s.data.toList = .ok n := by
  rw [← strEq_iff.1 hs, itoa_list]
  exact atoi_itoa (ofM_flag h).1
theorem rest_none {s : ByteArray} (h : ∀ n, (ofM n).2 = true → strEq (itoaS n) s = true → False) : (if (ofM (sgnN s)).2 then (if strEq (itoaS (sgnN s)) s then ((ofM (sgnN s)).1, true) else ((⟨2, 0⟩ : Nm), false)) else (⟨2, 0⟩, false)) = (⟨2, 0⟩, false) := by
  split
  · rename_i h1
    split
    · rename_i h2; exact (h _ h1 h2).elim
    · rfl
  · rfl
theorem strEq_comm (a b : ByteArray) : strEq a b = strEq b a := by
  unfold strEq; exact Bool.beq_comm ..
theorem infs : infM false = ⟨3, 0⟩ ∧ infM true = ⟨4, 0⟩ := ⟨rfl, rfl⟩
theorem readers_ok {s : ByteArray} {v : Int} (h : atoiAll s.data.toList = .ok v) : parseOkM s v = rParseM s := by
  unfold parseOkM rParseM
  rw [strEq_comm s, strEq_comm s, strEq_comm s, infs.1, infs.2]
  congr 1; congr 1; congr 1
  by_cases hv : strEq (itoaS v) s = true
  · rw [if_pos hv]
    by_cases hi : InS v
    · have es : sgnN s = v := by rw [← strEq_iff.1 hv]; exact sgnN_itoa hi
      rw [es, ofM_in hi, if_pos rfl, if_pos hv]
    · rw [ofM_out hi, rest_none]
      intro n h1 h2
      have := read_back h1 h2
      rw [h] at this
      injection this with this
      subst this
      exact hi (ofM_flag h1).1
  · rw [if_neg hv, rest_none]
    intro n h1 h2
    have := read_back h1 h2
    rw [h] at this
    injection this with this
    subst this
    exact hv h2
theorem readers_err {s : ByteArray} (h : ∀ n, atoiAll s.data.toList ≠ .ok n) : parseErrM s = rParseM s := by
  unfold parseErrM rParseM
  rw [strEq_comm s, strEq_comm s, strEq_comm s, infs.1, infs.2, rest_none]
  intro n h1 h2
  exact h n (read_back h1 h2)
end Go.Proofs.YtldakajmhfdfgaaDoor
