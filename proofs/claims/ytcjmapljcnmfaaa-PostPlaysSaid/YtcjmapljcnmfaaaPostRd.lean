/- Lists of numbers held against one another, copied; a mail for the document; the document's Open. Printed by wip/mkRb.py. -/
import Derived.Test.YtcjmapljcnmfaaaPostRa
namespace Go.Proofs.Ytcjmapljcnmfaaa.R
open Go.RowKit Go.Deep
set_option linter.unusedVariables false
set_option maxHeartbeats 1600000 in
theorem open_any (g : Nat) (F : Nat → Prop) (s : Mails) (rs : List (List Int × Int)) (now : Int) (b : Int) (w : World) (hp : PostAt w g F s rs now) :
    Calls Try.prog 43 #[.pointer (some ⟨g, 0, none⟩), .int .i64 b] w (IsOpen s b w) := by
  obtain ⟨⟨gm, cap, iv, rest, sv, hin⟩, hlt⟩ := hp
  have h0 : w.cell? ⟨g, 0, none⟩ = some (.slice (some ⟨gm, 0, none⟩) s.length cap) := hin.blk.cell 0
  have hcm : (s.length : Int) ≤ 9223372036854775807 := by have := hin.caps; have := hin.capm; unfold maxLen at this; omega
  go_enter Try.func43, Try.ntmps43
  go_wp2
  go_loop [5] (fun i => ∃ k : Nat, k ≤ s.length ∧ i = .int .i64 k ∧ openB (s.take k) b = false) (fun i => s.length - (intOf i).toNat)
  case atStart => exact ⟨0, by omega, rfl, by simp [openB]⟩
  case round =>
    obtain ⟨k, hk, rfl, hno⟩ := hrel
    have Hno := hide hno
    clear hno
    by_cases hlt2 : k < s.length
    · obtain ⟨v, hv, hown, hcell⟩ := hin.at_ (List.getElem?_eq_getElem hlt2)
      have hrow := hown.row
      obtain ⟨A, c, rfl⟩ := hrow.form
      obtain ⟨l, hl⟩ : ∃ l, l = s[k] := ⟨_, rfl⟩
      rw [← hl] at hrow hown hcell
      have hml : (l.length : Int) ≤ 9223372036854775807 := by
        rcases hrow.2 with ⟨h0, _⟩ | ⟨_, _, c', _, hc, hm, _⟩
        · omega
        · unfold maxLen at hm; omega
      have Hl := hide hl
      have Hv := hide hv
      have Hown := hide hown
      have hkl : (k : Int) < (s.length : Int) := by omega
      have hk0 : (0 : Int) ≤ (k : Int) := by omega
      have Hrow := hide hrow
      clear hv hown hl hrow
      go_wp2
      go_loop [6] (fun i => ∃ j : Nat, j ≤ l.length ∧ i = .int .i64 j ∧ ((l.take j).any fun m => m.by_ == b) = false) (fun i => l.length - (intOf i).toNat)
      case atStart => exact ⟨0, by omega, rfl, by simp⟩
      case round =>
        obtain ⟨j, hj, rfl, hno2⟩ := hrel
        have Hno2 := hide hno2
        clear hno2
        by_cases hlt3 : j < l.length
        · obtain ⟨m, hm⟩ : ∃ m, l[j]? = some m := ⟨l[j], List.getElem?_eq_getElem hlt3⟩
          obtain ⟨bk, off, c', hv, hcc, hmx, hbk, hx⟩ : ∃ bk off c', Value.slice A l.length c = .slice (some ⟨bk, off, none⟩) l.length c' ∧ l.length ≤ c' ∧ c' ≤ maxLen ∧ bk < w.heap.size ∧ ∀ j u, (encL l)[j]? = some u → w.cell? ⟨bk, off + j, none⟩ = some u := by
            rcases Hrow.out.2 with ⟨h0, _⟩ | h
            · omega
            · exact h
          injection hv with hA _ hc'
          subst hA hc'
          obtain ⟨c0, c1, c2, c3⟩ := cellsM (w := w) hx hm
          have hjl : (j : Int) < (l.length : Int) := by omega
          have hj0 : (0 : Int) ≤ (j : Int) := by omega
          have Hm := hide hm
          clear hm hx hcc hmx c0 c1 c3
          by_cases hp : (m.by_ == b) = true
          · go_wp2
            go_ret
            refine ⟨?_, Upd.refl _ _⟩
            have : openB s b = true := List.any_eq_true.2 ⟨s[k], List.getElem_mem _, by rw [← Hl.out]; exact List.any_eq_true.2 ⟨m, List.mem_of_getElem? Hm.out, hp⟩⟩
            rw [this]
            rfl
          · have hp' : (m.by_ == b) = false := by simpa using hp
            clear hp
            go_wp2
            go_round
            case rel =>
              refine ⟨j + 1, by omega, by go_num, ?_⟩
              rw [List.take_add_one, Hm.out, List.any_append, Hno2.out]
              simpa using hp'
            case measure => simp [intOf]; omega
        · have hj' : j = l.length := by omega
          subst hj'
          clear hlt3
          go_wp2
          go_round
          case rel =>
            refine ⟨k + 1, by omega, by go_num, ?_⟩
            have hno := Hno.out
            have h2 := Hno2.out
            rw [List.take_of_length_le (Nat.le_refl _), Hl.out] at h2
            unfold openB at hno ⊢
            rw [List.take_add_one, List.getElem?_eq_getElem hlt2, List.any_append, hno]
            simpa using h2
          case measure => simp [intOf]; omega
    · have hk' : k = s.length := by omega
      subst hk'
      clear hlt2
      go_wp2
      go_ret
      refine ⟨?_, Upd.refl _ _⟩
      have := Hno.out
      rw [List.take_of_length_le (Nat.le_refl _)] at this
      rw [this]
      rfl
end Go.Proofs.Ytcjmapljcnmfaaa.R
