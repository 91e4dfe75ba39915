/- Clone of texts and of reports. -/
import Derived.Test.YtcjmapljcnmfaaaPostG
namespace Go.Proofs.Ytcjmapljcnmfaaa
open Go.RowKit Go.Deep
theorem elU : ElemT Try.prog 30 71 (.int .u16 0) 1 2 := ⟨Try.underlying30, by kernel_rfl, rfl, by omega⟩
theorem elR : ElemT Try.prog 62 47 (.agg #[.slice none 0 0, .int .i64 0]) 2 32 := ⟨Try.underlying62, by kernel_rfl, rfl, by omega⟩
set_option maxHeartbeats 400000 in
theorem cloneU (v : Value) (n : Nat) (xs : List Value) (w : World) (hr : RowAt w 1 v n xs) (h1 : ∀ u ∈ xs, u.oneCell' = true) (hb : n * 2 ≤ 140737488355328) :
    Calls Try.prog 46 #[v] w fun e w' => ∃ v', e = .returned v' ∧ Own w' w.heap.size 71 1 v' n xs ∧ New w w' := by
  have hm : n ≤ maxLen := by unfold maxLen; omega
  obtain ⟨A, c, rfl⟩ := hr.form
  cases A with
  | none =>
    obtain ⟨rfl, rfl⟩ : n = 0 ∧ xs = [] := by
      rcases hr.2 with ⟨h0, _⟩ | ⟨b, off, c', hv, _⟩
      · exact ⟨h0, List.eq_nil_of_length_eq_zero (by rw [hr.1, h0])⟩
      · cases hv
    have hE : ∀ W : World, (binOp .eql 30 (.slice none 0 c) (.slice none 0 0)).run Try.prog W = .ok (.bool true) W := fun W => Lib.run_eql_slice_nil W _ _ _ _ _ _ _ Try.underlying30
    go_enter Try.func46, Try.ntmps46
    go_wp2
    go_ret
    exact ⟨_, rfl, Own.nil_ _ _ _ _, Upd.refl _ _⟩
  | some a =>
    have hE : ∀ W : World, (binOp .eql 30 (.slice (some a) n c) (.slice none 0 0)).run Try.prog W = .ok (.bool false) W := fun W => Lib.run_eql_slice_nil W _ _ _ _ _ _ _ Try.underlying30
    have hr1 : RowAt (w.alloc (.cells #[] 71)) 1 (.slice (some a) n c) n xs := hr.new_ ((Upd.refl _ _).alloc _)
    have ho : Own (w.alloc (.cells #[] 71)) w.heap.size 71 1 (.slice (some ⟨w.heap.size, 0, none⟩) 0 0) 0 [] := .inr ⟨rfl, rfl, _, rfl⟩
    go_enter Try.func46, Try.ntmps46
    go_wp2_with (at_builtin; refine wpList_append_row _ rfl (.tmp 5) (.tmp 6) elU rfl w.heap.size (.slice (some ⟨w.heap.size, 0, none⟩) 0 0) 0 [] rfl ho _ n xs rfl hr1 h1 (by rw [Nat.zero_add]; exact hb) (by rw [Nat.zero_add]; exact hm) (by simp) ?_; intro v' w' hown hg hat)
    go_ret
    refine ⟨v', rfl, by simpa using hown, (((Upd.refl _ _).alloc _).grown hg (fun k hk => by simp [ownB] at hk))⟩

set_option maxHeartbeats 400000 in
theorem cloneR (v : Value) (n : Nat) (xs : List Value) (w : World) (hr : RowAt w 2 v n xs) (h1 : ∀ u ∈ xs, u.oneCell' = true) (hb : n * 32 ≤ 140737488355328) :
    Calls Try.prog 30 #[v] w fun e w' => ∃ v', e = .returned v' ∧ Own w' w.heap.size 47 2 v' n xs ∧ New w w' := by
  have hm : n ≤ maxLen := by unfold maxLen; omega
  obtain ⟨A, c, rfl⟩ := hr.form
  cases A with
  | none =>
    obtain ⟨rfl, rfl⟩ : n = 0 ∧ xs = [] := by
      rcases hr.2 with ⟨h0, _⟩ | ⟨b, off, c', hv, _⟩
      · exact ⟨h0, List.eq_nil_of_length_eq_zero (by rw [hr.1, h0])⟩
      · cases hv
    have hE : ∀ W : World, (binOp .eql 62 (.slice none 0 c) (.slice none 0 0)).run Try.prog W = .ok (.bool true) W := fun W => Lib.run_eql_slice_nil W _ _ _ _ _ _ _ Try.underlying62
    go_enter Try.func30, Try.ntmps30
    go_wp2
    go_ret
    exact ⟨_, rfl, Own.nil_ _ _ _ _, Upd.refl _ _⟩
  | some a =>
    have hE : ∀ W : World, (binOp .eql 62 (.slice (some a) n c) (.slice none 0 0)).run Try.prog W = .ok (.bool false) W := fun W => Lib.run_eql_slice_nil W _ _ _ _ _ _ _ Try.underlying62
    have hr1 : RowAt (w.alloc (.cells #[] 47)) 2 (.slice (some a) n c) n xs := hr.new_ ((Upd.refl _ _).alloc _)
    have ho : Own (w.alloc (.cells #[] 47)) w.heap.size 47 2 (.slice (some ⟨w.heap.size, 0, none⟩) 0 0) 0 [] := .inr ⟨rfl, rfl, _, rfl⟩
    go_enter Try.func30, Try.ntmps30
    go_wp2_with (at_builtin; refine wpList_append_row _ rfl (.tmp 5) (.tmp 6) elR rfl w.heap.size (.slice (some ⟨w.heap.size, 0, none⟩) 0 0) 0 [] rfl ho _ n xs rfl hr1 h1 (by rw [Nat.zero_add]; exact hb) (by rw [Nat.zero_add]; exact hm) (by simp) ?_; intro v' w' hown hg hat)
    go_ret
    refine ⟨v', rfl, by simpa using hown, (((Upd.refl _ _).alloc _).grown hg (fun k hk => by simp [ownB] at hk))⟩

end Go.Proofs.Ytcjmapljcnmfaaa
