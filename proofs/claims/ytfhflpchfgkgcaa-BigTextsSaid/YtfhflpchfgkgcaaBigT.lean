/- digits. -/
import Derived.Test.YtfhflpchfgkgcaaBigS
namespace Go.Proofs.Ytfhflpchfgkgcaa
open Go.RowKit
def isDig (c : UInt8) : Bool := decide (48 ≤ c.toNat) && decide (c.toNat ≤ 57)
/-- Are these a number's digits, without noughts ahead? -/
def digB (l : List UInt8) : Bool := l.all isDig && (decide (l ≠ []) && (decide (l.head? ≠ some 48) || l == [48]))
theorem len_data (s : ByteArray) : s.data.toList.length = s.size := Array.length_toList
set_option maxHeartbeats 1600000 in
theorem digits_any (s : ByteArray) (w : World) (hs : s.size ≤ 100000) : Calls Try.prog 51 #[.string s] w fun e w' => e = .returned (.bool (digB s.data.toList)) ∧ w = w' := by
  go_enter Try.func51, Try.ntmps51
  go_wp2
  go_loop [6] (fun i => ∃ k : Nat, k ≤ s.size ∧ i = .int .i64 k ∧ Hid ((s.data.toList.take k).all isDig = true)) (fun i => s.size - (intOf i).toNat)
  case atStart => exact ⟨0, by omega, rfl, by show _ = _; simp⟩
  case round =>
    obtain ⟨k, hk, rfl, hno⟩ := hrel
    by_cases hlt : k < s.size
    · have hgk : s.data.toList[k]? = some s[k] := by
        have h : k < s.data.toList.length := by rw [len_data]; exact hlt
        rw [List.getElem?_eq_getElem h]
        rfl
      have hbad : isDig s[k] = false → digB s.data.toList = false := by
        intro h
        have : s.data.toList.all isDig = false := by
          rw [List.all_eq_false]
          exact ⟨s[k], List.mem_of_getElem? hgk, by rw [h]; simp⟩
        simp [digB, this]
      have hnext : isDig s[k] = true → (s.data.toList.take (k + 1)).all isDig = true := by
        intro h
        rw [List.take_add_one, hgk, List.all_append, (show (s.data.toList.take k).all isDig = true from hno)]
        simpa using h
      have Hb := hide (And.intro hbad hnext)
      clear hgk hbad hnext hno
      by_cases h1 : s[k].toNat < 48
      · have hb := Hb.out.1 (by simp [isDig]; omega)
        have HB := hide hb
        clear hb
        go_wp2
        go_ret
        exact ⟨by rw [HB.out]; rfl, rfl⟩
      · by_cases h2 : 57 < s[k].toNat
        · have hb := Hb.out.1 (by simp [isDig]; omega)
          have HB := hide hb
          clear hb
          go_wp2
          go_ret
          exact ⟨by rw [HB.out]; rfl, rfl⟩
        · have hb := Hb.out.2 (by simp [isDig]; omega)
          have HB := hide hb
          clear hb
          go_wp2
          go_round
          case rel => exact ⟨k + 1, by omega, by go_num, HB.out⟩
          case measure => simp [intOf] <;> omega
    · obtain rfl : k = s.size := by omega
      have hall : s.data.toList.all isDig = true := by
        have h : (s.data.toList.take s.size).all isDig = true := hno
        rwa [List.take_of_length_le (by rw [len_data]; exact Nat.le_refl _)] at h
      have Ha := hide hall
      clear hall hno hlt
      by_cases hl : s.toList = []
      · have hl2 : (!s.toList.isEmpty) = false := by rw [hl]; rfl
        have Hl := hide hl
        go_wp2
        go_ret
        refine ⟨?_, rfl⟩
        have := Hl.out
        rw [ByteArray.toList_eq] at this
        have hd : digB s.data.toList = false := by rw [this]; rfl
        rw [hd]; rfl
      · have hl2 : (!s.toList.isEmpty) = true := by
          cases h : s.toList
          · exact absurd h hl
          · rfl
        have hsz : 0 < s.size := by
          rcases Nat.eq_zero_or_pos s.size with h | h
          · exfalso
            apply hl
            rw [ByteArray.toList_eq]
            exact List.eq_nil_of_length_eq_zero (by rw [len_data]; exact h)
          · exact h
        have hhd : s.data.toList.head? = some s[0] := by
          have h : 0 < s.data.toList.length := by rw [len_data]; exact hsz
          rw [List.head?_eq_getElem?, List.getElem?_eq_getElem h]
          rfl
        have hne : s.data.toList ≠ [] := by rw [← ByteArray.toList_eq]; exact hl
        have HH := hide (And.intro hhd hne)
        clear hhd hne
        by_cases h0 : s[0].toNat = 48
        · have h0b : (((s[0].toNat : Nat) : Int) != 48) = false := by simp [h0]
          have H0 := hide h0
          clear h0
          go_wp2
          go_ret
          refine ⟨?_, rfl⟩
          have h48 : s[0] = 48 := UInt8.toNat_inj.1 H0.out
          have hd : digB s.data.toList = (s.toList == [48]) := by
            rw [ByteArray.toList_eq]
            simp only [digB, Ha.out, HH.out.1, h48]
            simp [HH.out.2]
          rw [hd]
          rfl
        · have h0b : (((s[0].toNat : Nat) : Int) != 48) = true := by simp; omega
          have H0 := hide h0
          clear h0
          go_wp2
          go_ret
          refine ⟨?_, rfl⟩
          have h48 : s[0] ≠ 48 := fun h => H0.out (by rw [h]; rfl)
          have hd : digB s.data.toList = true := by
            simp only [digB, Ha.out, HH.out.1]
            simp [HH.out.2, h48]
          rw [hd]
          rfl
end Go.Proofs.Ytfhflpchfgkgcaa
