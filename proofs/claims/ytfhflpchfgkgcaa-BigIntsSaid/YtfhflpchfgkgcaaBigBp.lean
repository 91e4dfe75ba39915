/- Texts and words, back and forth: the plain law. -/
import Derived.Test.YtfhflpchfgkgcaaBigZ
namespace Go.Proofs.Ytfhflpchfgkgcaa
open Go.RowKit
def lettersU (n : Nat) : List UInt8 := ((digs n).map fun d => UInt8.ofNat (48 + d)).reverse
theorem lettersU_zero : lettersU 0 = [] := by simp [lettersU, digs_zero]
theorem lettersU_pos {n : Nat} (h : 0 < n) : lettersU n = lettersU (n / 10) ++ [UInt8.ofNat (48 + n % 10)] := by
  simp [lettersU, digs_pos h]
theorem letter_nat {d : Nat} (h : d < 10) : (UInt8.ofNat (48 + d)).toNat = 48 + d := by
  rw [UInt8.toNat_ofNat', Nat.mod_eq_of_lt (by omega)]
theorem lettersU_val (n : Nat) : decV (lettersU n) = n := by
  induction n using Nat.strongRecOn with
  | ind n ih =>
    rcases Nat.eq_zero_or_pos n with rfl | h0
    · rw [lettersU_zero]; rfl
    · rw [lettersU_pos h0, decV_snoc, ih _ (by omega), letter_nat (Nat.mod_lt _ (by omega))]
      omega
theorem lettersU_dig (n : Nat) : (lettersU n).all isDig = true := by
  rw [List.all_eq_true]
  intro c hc
  simp only [lettersU, List.mem_reverse, List.mem_map] at hc
  obtain ⟨d, hd, rfl⟩ := hc
  have := digs_lt hd
  rw [isDig, letter_nat this]
  simp; omega
theorem lettersU_head {n : Nat} (h : 0 < n) : ∃ c, (lettersU n).head? = some c ∧ 48 < c.toNat := by
  induction n using Nat.strongRecOn with
  | ind n ih =>
    rw [lettersU_pos h]
    rcases Nat.eq_zero_or_pos (n / 10) with h1 | h1
    · rw [h1, lettersU_zero]
      refine ⟨UInt8.ofNat (48 + n % 10), rfl, ?_⟩
      rw [letter_nat (Nat.mod_lt _ (by omega))]
      omega
    · obtain ⟨c, hc, h2⟩ := ih _ (by omega) h1
      refine ⟨c, ?_, h2⟩
      rw [List.head?_append, hc]; rfl
theorem lettersU_digB {n : Nat} (h : 0 < n) : digB (lettersU n) = true := by
  obtain ⟨c, hc, h2⟩ := lettersU_head h
  have hne : lettersU n ≠ [] := by intro h0; rw [h0] at hc; cases hc
  have hh : (lettersU n).head? ≠ some 48 := by
    intro h0
    rw [hc] at h0
    have : c = 48 := by simpa using h0
    rw [this] at h2
    exact absurd h2 (by decide)
  rw [digB, lettersU_dig, decide_eq_true hne, decide_eq_true hh]
  rfl
theorem textU_eq (z : Int) : (strOfNums (textI z)).data.toList = if z = 0 then [48] else (if z < 0 then [45] else []) ++ lettersU z.natAbs := by
  have hl : ((digs z.natAbs).map letter).reverse.map (fun n => UInt8.ofNat n.toNat) = lettersU z.natAbs := by
    simp only [lettersU, List.map_reverse, List.map_map]
    congr 1
  unfold strOfNums textI
  simp only
  split
  · rfl
  · rw [List.map_append, hl]
    split <;> rfl
theorem parse_text {z : Int} (h : z.natAbs < 2 ^ 256) : parseZ (strOfNums (textI z)).data.toList = (z, 0) := by
  rw [textU_eq]
  have hd : ∀ b n, 0 < n → n < 2 ^ 256 → parseD b (lettersU n) = (sgn b n, 0) := by
    intro b n h0 h1
    rw [parseD, if_pos (lettersU_digB h0), lettersU_val, if_neg (by omega)]
  split
  · rename_i h0
    subst h0
    decide
  · rename_i h0
    obtain ⟨c, hc, h2⟩ := lettersU_head (n := z.natAbs) (by omega)
    split
    · have hne : ([45] ++ lettersU z.natAbs : List UInt8) ≠ [45, 48] := by
        intro h3
        have h4 : lettersU z.natAbs = [48] := by simpa using h3
        rw [h4] at hc
        have : c = 48 := by simpa using hc.symm
        rw [this] at h2
        exact absurd h2 (by decide)
      rw [parseZ, if_pos (show ([45] ++ lettersU z.natAbs : List UInt8).head? = some 45 from rfl), if_neg hne]
      show parseD true (lettersU z.natAbs) = _
      rw [hd _ _ (by omega) h]
      simp [sgn]; omega
    · have hn : (([] : List UInt8) ++ lettersU z.natAbs).head? ≠ some 45 := by
        rw [List.nil_append, hc]
        intro h3
        have : c = 45 := by simpa using h3
        rw [this] at h2
        exact absurd h2 (by decide)
      rw [parseZ, if_neg hn, List.nil_append, hd _ _ (by omega) h]
      simp [sgn]; omega
theorem text_size {z : Int} (h : z.natAbs < 2 ^ 256) : (strOfNums (textI z)).size ≤ 100000 := by
  have h1 := digs_big h
  rw [← len_data, textU_eq]
  split
  · simp
  · have h2 : (lettersU z.natAbs).length = (digs z.natAbs).length := by simp [lettersU]
    split <;> simp [h2] <;> omega
theorem word_back {u : Nat} {s : Bool} (hu : u < 18446744073709551616) : wordN (wordI u s) = u := by
  have h := wordN_cast (wordI u s)
  unfold wordI at h ⊢
  split at h
  · rename_i h1
    rw [if_pos h1]
    omega
  · rename_i h1
    rw [if_neg h1]
    omega
theorem wordI_abs {u : Nat} {s : Bool} (hu : u < 18446744073709551616) : (wordI u s).natAbs < 2 ^ 256 := by
  have h1 : (18446744073709551616 : Nat) < 2 ^ 256 := by decide +kernel
  generalize (2 : Nat) ^ 256 = Q at *
  unfold wordI
  split
  · rename_i h; simp at h; omega
  · omega
theorem u64_nat {n : Int} (h : (Lit.int .u64 n).wf = true) : ∃ u : Nat, n = (u : Int) ∧ u < 18446744073709551616 := by
  simp only [Lit.wf, Bool.and_eq_true, decide_eq_true_eq] at h
  have h1 : IntKind.u64.min = 0 := rfl
  have h2 : IntKind.u64.max = 18446744073709551615 := rfl
  rw [h1, h2] at h
  exact ⟨n.toNat, by omega, by omega⟩
theorem zero_abs : (0 : Int).natAbs < 2 ^ 256 := by decide +kernel
theorem zero_lo : (-9223372036854775808 : Int) ≤ 0 := by decide
theorem zero_hi : (0 : Int) ≤ 9223372036854775807 := by decide
theorem cmpZ_asU (n z : Int) : 0 ≤ cmpZ (asU n z) 0 := by
  have := (asU_bd n z).1
  unfold cmpZ
  repeat' split <;> omega
theorem r_geq {t : TypeId} {q : Int} (h : 0 ≤ q) : ∀ w, (binOp .geq t (.int .i64 q) (.int .i64 0)).run Try.prog w = .ok (.bool true) w := by
  intro w; simp [binOp, go_sem]; exact h
end Go.Proofs.Ytfhflpchfgkgcaa
