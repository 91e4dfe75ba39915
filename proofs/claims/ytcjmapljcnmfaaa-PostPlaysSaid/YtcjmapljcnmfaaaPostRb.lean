/- Lists of numbers held against one another, copied; a mail for the document; Ints. Printed by wip/mkRb.py. -/
import Derived.Test.YtcjmapljcnmfaaaPostRa
import Derived.Deep.QuietTactic
import Derived.BigQuiet
namespace Go.Proofs.Ytcjmapljcnmfaaa
open Go.RowKit Go.Deep
set_option linter.unusedVariables false
def IsInts (a b : List Int) (w : World) (e : Ending) (w' : World) : Prop := e = .returned (.bool (a == b)) ∧ ∃ m, w' = w.drewN m
set_option maxHeartbeats 1600000 in
theorem ints_any (v1 v2 : Value) (a b : List Int) (w : World) (h1 : RowAt w 1 v1 a.length (encI a)) (h2 : RowAt w 1 v2 b.length (encI b)) :
    Calls Try.prog 34 #[v1, v2] w (IsInts a b w) := by
  obtain ⟨A1, c1, rfl⟩ := h1.form
  obtain ⟨A2, c2, rfl⟩ := h2.form
  by_cases hl : a.length = b.length
  · have hmax : (a.length : Int) ≤ 9223372036854775807 := by
      rcases h1.2 with ⟨h0, _⟩ | ⟨_, _, c', _, hc, hm, _⟩
      · omega
      · unfold maxLen at hm; omega
    have h2' : RowAt w 1 (.slice A2 a.length c2) a.length (encI b) := by rw [hl]; exact h2
    have Hl := hide hl
    rw [← hl]
    clear hl h2
    go_enter Try.func34, Try.ntmps34
    go_wp2
    go_loopw [5] (fun i wr => ∃ k m : Nat, k ≤ a.length ∧ i = .int .i64 k ∧ a.take k = b.take k ∧ wr = w.drewN m) (fun i _ => a.length - (intOf i).toNat)
    case atStart => exact ⟨0, 0, by omega, rfl, by simp, rfl⟩
    case round =>
      obtain ⟨k, m, hk, rfl, hno, rfl⟩ := hrel
      have Hno := hide hno
      clear hno
      by_cases hlt : k < a.length
      · obtain ⟨b1, o1, rfl, hc1, hm1, hb1, hx1⟩ := rowI h1 hlt
        obtain ⟨b2, o2, rfl, hc2, hm2, hb2, hx2⟩ := rowI h2' hlt
        obtain ⟨x, hx⟩ : ∃ x, x = a.getD k 0 := ⟨_, rfl⟩
        obtain ⟨y, hy⟩ : ∃ y, y = b.getD k 0 := ⟨_, rfl⟩
        rw [← hx] at hx1
        rw [← hy] at hx2
        have Hx := hide hx
        have Hy := hide hy
        have hlti : (k : Int) < (a.length : Int) := by omega
        have hk0 : (0 : Int) ≤ (k : Int) := by omega
        have Hr := hide (And.intro h1 h2')
        clear hm1 hm2 hx hy h1 h2'
        by_cases he : (x != y) = true
        · go_wp2
          go_quiet (fail)
          go_wp2
          go_ret
          refine ⟨?_, _, World.drewN_drewN _ _ _⟩
          have hne : a ≠ b := by
            rintro rfl
            rw [Hx.out, Hy.out] at he
            simp at he
          have : (a == b) = false := by simpa using hne
          rw [this]
          rfl
        · have he' : (x != y) = false := by simpa using he
          clear he
          go_wp2
          go_quiet (fail)
          go_wp2
          go_roundw
          case rel =>
            refine ⟨k + 1, _, by omega, by go_num, ?_, rfl⟩
            exact take_eq_succ Hl.out hlt Hno.out (by rw [← Hx.out, ← Hy.out]; simpa using he')
          case measure => simp [intOf]; omega
      · obtain rfl : k = a.length := by omega
        clear hlt
        go_wp2
        go_ret
        refine ⟨?_, _, rfl⟩
        have h := Hno.out
        have hl := Hl.out
        rw [List.take_of_length_le (Nat.le_refl _), List.take_of_length_le (by omega)] at h
        rw [h]; simp
  · have hne : (((a.length : Int)) != ((b.length : Int))) = true := by simp; omega
    have hab : (a == b) = false := by
      have : a ≠ b := fun h => hl (by rw [h])
      simpa using this
    have Hab := hide hab
    clear hl hab h1 h2
    go_enter Try.func34, Try.ntmps34
    go_wp2
    go_ret
    exact ⟨by rw [Hab.out]; rfl, 0, rfl⟩
theorem elInts : ElemT Try.prog 23 3 (.int .i64 0) 1 8 := ⟨Try.underlying23, by kernel_rfl, rfl, by omega⟩
theorem copyInts (v : Value) (n : Nat) (xs : List Value) (w : World) (hr : RowAt w 1 v n xs) (h1 : ∀ u ∈ xs, u.oneCell' = true) (hb : n ≤ 1000000) :
    Calls Try.prog 32 #[v] w fun e w' => ∃ v', e = .returned v' ∧ Own w' w.heap.size 3 1 v' n xs ∧ New w w' := by
  have hm : n ≤ maxLen := by unfold maxLen; omega
  obtain ⟨A, c, rfl⟩ := hr.form
  have hr1 : RowAt (w.alloc (.cells #[] 3)) 1 (.slice A n c) n xs := hr.new_ ((Upd.refl _ _).alloc _)
  have ho : Own (w.alloc (.cells #[] 3)) w.heap.size 3 1 (.slice (some ⟨w.heap.size, 0, none⟩) 0 0) 0 [] := .inr ⟨rfl, rfl, _, rfl⟩
  go_enter Try.func32, Try.ntmps32
  go_wp2_with (at_builtin; refine wpList_append_row _ rfl (.tmp 3) (.tmp 4) elInts rfl w.heap.size (.slice (some ⟨w.heap.size, 0, none⟩) 0 0) 0 [] rfl ho _ n xs rfl hr1 h1 (by rw [Nat.zero_add]; omega) (by rw [Nat.zero_add]; exact hm) (by simp) ?_; intro v' w' hown hg hat)
  go_ret
  refine ⟨v', rfl, by simpa using hown, (((Upd.refl _ _).alloc _).grown hg (fun k hk => by simp [ownB] at hk))⟩
theorem elUnits : ElemT Try.prog 30 71 (.int .u16 0) 1 2 := ⟨Try.underlying30, by kernel_rfl, rfl, by omega⟩
theorem copyUnits (v : Value) (n : Nat) (xs : List Value) (w : World) (hr : RowAt w 1 v n xs) (h1 : ∀ u ∈ xs, u.oneCell' = true) (hb : n ≤ 1000000) :
    Calls Try.prog 38 #[v] w fun e w' => ∃ v', e = .returned v' ∧ Own w' w.heap.size 71 1 v' n xs ∧ New w w' := by
  have hm : n ≤ maxLen := by unfold maxLen; omega
  obtain ⟨A, c, rfl⟩ := hr.form
  have hr1 : RowAt (w.alloc (.cells #[] 71)) 1 (.slice A n c) n xs := hr.new_ ((Upd.refl _ _).alloc _)
  have ho : Own (w.alloc (.cells #[] 71)) w.heap.size 71 1 (.slice (some ⟨w.heap.size, 0, none⟩) 0 0) 0 [] := .inr ⟨rfl, rfl, _, rfl⟩
  go_enter Try.func38, Try.ntmps38
  go_wp2_with (at_builtin; refine wpList_append_row _ rfl (.tmp 3) (.tmp 4) elUnits rfl w.heap.size (.slice (some ⟨w.heap.size, 0, none⟩) 0 0) 0 [] rfl ho _ n xs rfl hr1 h1 (by rw [Nat.zero_add]; omega) (by rw [Nat.zero_add]; exact hm) (by simp) ?_; intro v' w' hown hg hat)
  go_ret
  refine ⟨v', rfl, by simpa using hown, (((Upd.refl _ _).alloc _).grown hg (fun k hk => by simp [ownB] at hk))⟩
theorem mail_any (m : Ml) (w : World) : Calls Try.prog 36 #[aggM m] w fun e w' => e = .returned (aggM m) ∧ New w w' := by
  unfold aggM
  go_enter Try.func36, Try.ntmps36
  go_wp2
  exact bodyPost_ret (v := aggM m) (by simp [results, Try.results36, go_sem, aggM]) rfl ⟨rfl, by first | exact ((Upd.refl _ _).alloc _).alloc _ | skip⟩
end Go.Proofs.Ytcjmapljcnmfaaa
