/- Plain laws of the numbers of chapter 1: texts read back. -/
import Derived.Test.YtldakajmhfdfgaaDoorNumMath10
import Derived.Test.YtldakajmhfdfgaaDoorNumC
namespace Go.Proofs.YtldakajmhfdfgaaDoor
open Go.Lib
set_option linter.unusedSimpArgs false
set_option linter.unusedVariables false
theorem digit_toNat {u : Nat} (h : u < 10) : (UInt8.ofNat (48 + u)).toNat = 48 + u := by
  rw [UInt8.toNat_ofNat']; omega
theorem digits_head (u : Nat) : ∃ c r, decDigits u = c :: r ∧ 48 ≤ c.toNat ∧ c.toNat ≤ 57 := by
  induction u using Nat.strongRecOn with
  | ind u ih =>
    rw [decDigits]
    by_cases h : u < 10
    · rw [dif_pos h]; exact ⟨_, [], rfl, by rw [digit_toNat h]; omega, by rw [digit_toNat h]; omega⟩
    · rw [dif_neg h]
      obtain ⟨c, r, e, h2⟩ := ih (u / 10) (by omega)
      exact ⟨c, r ++ [UInt8.ofNat (48 + u % 10)], by rw [e]; rfl, h2⟩
theorem parse_digits (u : Nat) (hu : u ≤ 9007199254740991) (r : List UInt8) : parseUint10 0 (decDigits u ++ r) = parseUint10 u r := by
  induction u using Nat.strongRecOn generalizing r with
  | ind u ih =>
    rw [decDigits]
    by_cases h : u < 10
    · rw [dif_pos h]
      show parseUint10 0 (UInt8.ofNat (48 + u) :: r) = _
      rw [parseUint10, digit_toNat h, if_pos (by omega), if_neg (by omega), if_neg (by omega)]
      congr 1; omega
    · rw [dif_neg h, List.append_assoc, ih (u / 10) (by omega) (by omega)]
      show parseUint10 (u / 10) (UInt8.ofNat (48 + u % 10) :: r) = _
      rw [parseUint10, digit_toNat (by omega : u % 10 < 10), if_pos (by omega), if_neg (by omega), if_neg (by omega)]
      congr 1; omega
theorem mag_digits {u : Nat} (hu : u ≤ 9007199254740991) : parseMag (decDigits u) = .ok u := by
  obtain ⟨c, r, e, -⟩ := digits_head u
  unfold parseMag
  rw [if_neg (by rw [e]; simp)]
  have := parse_digits u hu []
  rw [List.append_nil] at this
  rw [this, parseUint10]
theorem atoi_itoa {n : Int} (h : InS n) : atoiAll (itoa n) = .ok n := by
  unfold InS at h
  rcases Int.lt_or_le n 0 with hn | hn
  · obtain ⟨u, rfl⟩ : ∃ u : Nat, n = -(u : Int) := ⟨n.natAbs, by omega⟩
    rw [itoa_neg u (by omega), atoiAll_minus, mag_digits (by omega)]
    simp only [signed]
    rw [if_neg (by omega)]
  · obtain ⟨u, rfl⟩ : ∃ u : Nat, n = (u : Int) := ⟨n.natAbs, by omega⟩
    rw [itoa_nonneg u]
    obtain ⟨c, r, e, h48, h57⟩ := digits_head u
    have hm := mag_digits (u := u) (by omega)
    rw [e] at hm ⊢
    rw [atoiAll_plain c r (by omega) (by omega), hm]
    simp only [signless]
    rw [if_neg (by omega)]
theorem itoa_first (n : Int) : (∃ c r, itoa n = c :: r ∧ 48 ≤ c.toNat ∧ c.toNat ≤ 57) ∨ ∃ c r, itoa n = 45 :: c :: r ∧ 48 ≤ c.toNat ∧ c.toNat ≤ 57 := by
  unfold itoa
  split
  · right
    obtain ⟨c, r, e, h⟩ := digits_head n.natAbs
    exact ⟨c, r, by rw [e], h⟩
  · left; exact digits_head _
theorem bytes_toList (l : List UInt8) : (ByteArray.mk l.toArray).toList = l := by
  rw [ByteArray.toList_eq]
theorem itoa_words (n : Int) : strEq (itoaS n) ⟨#[78, 97, 78]⟩ = false ∧ strEq (itoaS n) ⟨#[73, 110, 102, 105, 110, 105, 116, 121]⟩ = false ∧ strEq (itoaS n) ⟨#[45, 73, 110, 102, 105, 110, 105, 116, 121]⟩ = false := by
  have key : ∀ l : List UInt8, (l = [78, 97, 78] ∨ l = [73, 110, 102, 105, 110, 105, 116, 121] ∨ l = [45, 73, 110, 102, 105, 110, 105, 116, 121]) → itoa n ≠ l := by
    intro l hl he
    rcases itoa_first n with ⟨c, r, e, h1, h2⟩ | ⟨c, r, e, h1, h2⟩ <;> rw [he] at e <;> rcases hl with rfl | rfl | rfl <;> simp only [List.cons.injEq] at e
    · obtain ⟨rfl, -⟩ := e; exact absurd h2 (by decide)
    · obtain ⟨rfl, -⟩ := e; exact absurd h2 (by decide)
    · obtain ⟨rfl, -⟩ := e; exact absurd h1 (by decide)
    · exact absurd e.1 (by decide)
    · exact absurd e.1 (by decide)
    · obtain ⟨-, rfl, -⟩ := e; exact absurd h2 (by decide)
  have k2 : ∀ l : List UInt8, itoa n ≠ l → strEq (itoaS n) ⟨l.toArray⟩ = false := by
    intro l hl
    have e : strEq (itoaS n) ⟨l.toArray⟩ = (itoa n == l) := by
      unfold strEq itoaS
      rw [bytes_toList, bytes_toList]
    rw [e]
    simpa using hl
  exact ⟨k2 _ (key _ (.inl rfl)), k2 _ (key _ (.inr (.inl rfl))), k2 _ (key _ (.inr (.inr rfl)))⟩
theorem strEq_lists (l m : List UInt8) : strEq ⟨l.toArray⟩ ⟨m.toArray⟩ = (l == m) := by unfold strEq; rw [bytes_toList, bytes_toList]
theorem words_apart : strEq ⟨#[73, 110, 102, 105, 110, 105, 116, 121]⟩ ⟨#[78, 97, 78]⟩ = false ∧ strEq ⟨#[45, 73, 110, 102, 105, 110, 105, 116, 121]⟩ ⟨#[78, 97, 78]⟩ = false ∧ strEq ⟨#[45, 73, 110, 102, 105, 110, 105, 116, 121]⟩ ⟨#[73, 110, 102, 105, 110, 105, 116, 121]⟩ = false :=
  ⟨(strEq_lists [73, 110, 102, 105, 110, 105, 116, 121] [78, 97, 78]).trans (by decide), (strEq_lists [45, 73, 110, 102, 105, 110, 105, 116, 121] [78, 97, 78]).trans (by decide), (strEq_lists [45, 73, 110, 102, 105, 110, 105, 116, 121] [73, 110, 102, 105, 110, 105, 116, 121]).trans (by decide)⟩
theorem strEq_refl (s : ByteArray) : strEq s s = true := by unfold strEq; simp
def readM (a : Nm) : Nm := if decide ((asM a).k = 1) then ⟨0, 0⟩ else asM a
theorem read_text (a : Nm) : parseOkM (textM a) (asM a).n = (readM a, true) := by
  rcases as_cases a with ⟨n, h, h2⟩ | h | h | h | h
  · have hw := itoa_words n
    have ht : textM a = itoaS n := by unfold textM; rw [h]; rfl
    unfold readM parseOkM
    rw [ht, h]
    simp only []
    rw [hw.1, hw.2.1, hw.2.2, strEq_refl, ofM_in h2]; rfl
  · have hw := itoa_words 0
    have ht : textM a = itoaS 0 := by unfold textM; rw [h]; rfl
    unfold readM parseOkM
    rw [ht, h]
    simp only []
    rw [hw.1, hw.2.1, hw.2.2, strEq_refl, ofM_in (by unfold InS; omega)]; rfl
  · have ht : textM a = ⟨#[78, 97, 78]⟩ := by unfold textM; rw [h]; rfl
    unfold readM parseOkM
    rw [ht, h]
    simp only []
    rw [strEq_refl]; rfl
  · have ht : textM a = ⟨#[73, 110, 102, 105, 110, 105, 116, 121]⟩ := by unfold textM; rw [h]; rfl
    unfold readM parseOkM
    rw [ht, h]
    simp only []
    rw [words_apart.1, strEq_refl]; rfl
  · have ht : textM a = ⟨#[45, 73, 110, 102, 105, 110, 105, 116, 121]⟩ := by unfold textM; rw [h]; rfl
    unfold readM parseOkM
    rw [ht, h]
    simp only []
    rw [words_apart.2.1, words_apart.2.2, strEq_refl]; rfl
theorem text_whole {a : Nm} (h1 : strEq (textM a) ⟨#[78, 97, 78]⟩ = false) (h2 : strEq (textM a) ⟨#[73, 110, 102, 105, 110, 105, 116, 121]⟩ = false) (h3 : strEq (textM a) ⟨#[45, 73, 110, 102, 105, 110, 105, 116, 121]⟩ = false) : textM a = itoaS (asM a).n := by
  rcases as_cases a with ⟨n, h, -⟩ | h | h | h | h
  · unfold textM; rw [h]; rfl
  · unfold textM; rw [h]; rfl
  · have ht : textM a = ⟨#[78, 97, 78]⟩ := (by unfold textM; rw [h]; rfl)
    rw [ht, strEq_refl] at h1; cases h1
  · have ht : textM a = ⟨#[73, 110, 102, 105, 110, 105, 116, 121]⟩ := (by unfold textM; rw [h]; rfl)
    rw [ht, strEq_refl] at h2; cases h2
  · have ht : textM a = ⟨#[45, 73, 110, 102, 105, 110, 105, 116, 121]⟩ := (by unfold textM; rw [h]; rfl)
    rw [ht, strEq_refl] at h3; cases h3
end Go.Proofs.YtldakajmhfdfgaaDoor
