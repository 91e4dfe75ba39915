/- slices.Contains over ints; Send. -/
import Derived.Test.YtcjmapljcnmfaaaPostC
namespace Go.Proofs.Ytcjmapljcnmfaaa
open Go.RowKit

def encI (t : List Int) : List Value := t.map (Value.int .i64)
/-- The walk's facts on a slice of ints: nothing at length 0; else its block, its cells. -/
theorem rowI {w : World} {A : Option Addr} {n c : Nat} {xs : List Int} (h : RowAt w 1 (.slice A n c) n (encI xs)) {k : Nat} (hk : k < n) :
    ∃ b off, A = some ⟨b, off, none⟩ ∧ n ≤ c ∧ c ≤ maxLen ∧ b < w.heap.size ∧ w.cell? ⟨b, off + k, none⟩ = some (.int .i64 (xs.getD k 0)) := by
  rcases h.2 with ⟨h0, _⟩ | ⟨b, off, c', hv, hc, hm, hb, hx⟩
  · omega
  · injection hv with hA _ hc'
    subst hA hc'
    have hl : xs.length = n := by simpa [encI] using h.1
    refine ⟨b, off, rfl, hc, hm, hb, hx k _ ?_⟩
    simp [encI, List.getD, show k < xs.length by omega]

def IsIdx (xs : List Int) (x : Int) (w : World) (e : Ending) (w' : World) : Prop := (∃ r : Int, e = .returned (.int .i64 r) ∧ decide (0 ≤ r) = xs.contains x) ∧ w = w'
set_option maxHeartbeats 800000 in
theorem index_any (v : Value) (n : Nat) (xs : List Int) (x : Int) (w : World) (hr : RowAt w 1 v n (encI xs)) :
    Calls Try.prog 44 #[v, .int .i64 x] w (IsIdx xs x w) := by
  obtain ⟨A, c, rfl⟩ := hr.form
  have hl : xs.length = n := by simpa [encI] using hr.1
  have hmax : (n : Int) ≤ 9223372036854775807 := by
    rcases hr.2 with ⟨h0, _⟩ | ⟨_, _, c', _, hc, hm, _⟩
    · omega
    · unfold maxLen at hm; omega
  go_enter Try.func44, Try.ntmps44
  go_wp2
  go_loop [8] (fun i => ∃ k : Nat, k ≤ n ∧ i = .int .i64 k ∧ (xs.take k).contains x = false) (fun i => n - (intOf i).toNat)
  case atStart => exact ⟨0, by omega, rfl, by simp⟩
  case round =>
    obtain ⟨k, hk, rfl, hno⟩ := hrel
    have Hno := hide hno
    have Hl := hide hl
    clear hno hl
    by_cases hlt : k < n
    · obtain ⟨b, off, rfl, hc, hm, hb, hcell⟩ := rowI hr hlt
      obtain ⟨y, hy⟩ : ∃ y, y = xs.getD k 0 := ⟨_, rfl⟩
      rw [← hy] at hcell
      have Hy := hide hy
      have Hr := hide hr
      clear hr hm hy
      by_cases he : (x == y) = true
      · go_wp2
        go_ret
        refine ⟨⟨k, rfl, ?_⟩, rfl⟩
        have : y ∈ xs := by
          have hkl : k < xs.length := by rw [Hl.out]; exact hlt
          rw [Hy.out]; simp [List.getD, hkl]
        have hxy : x = y := by simpa using he
        have h1 : xs.contains x = true := by rw [hxy]; simpa using this
        rw [h1]; simp
      · have he' : (x == y) = false := by simpa using he
        clear he
        go_wp2
        go_round
        case rel =>
          refine ⟨k + 1, by omega, by go_num, ?_⟩
          have hkl : k < xs.length := by rw [Hl.out]; exact hlt
          have hno := Hno.out
          have hy := Hy.out
          rw [List.take_succ_eq_append_getElem hkl]
          simp [List.getD, hkl] at hy
          simp only [List.contains_eq_mem, List.mem_append, List.mem_singleton, decide_eq_false_iff_not, not_or] at hno ⊢
          exact ⟨hno, by rw [← hy]; simpa using he'⟩
        case measure => simp [intOf]; omega
    · have hk' : k = n := by omega
      subst hk'
      clear hlt
      go_wp2
      go_ret
      refine ⟨⟨-1, rfl, ?_⟩, rfl⟩
      have := Hno.out
      rw [List.take_of_length_le (by rw [Hl.out]; exact Nat.le_refl _)] at this
      rw [this]
      rfl
theorem contains_any (v : Value) (n : Nat) (xs : List Int) (x : Int) (w : World) (hr : RowAt w 1 v n (encI xs)) :
    Calls Try.prog 25 #[v, .int .i64 x] w fun e w' => e = .returned (.bool (xs.contains x)) ∧ w = w' := by
  go_enter Try.func25, Try.ntmps25
  go_wp2_with (go_at_call 44; refine (index_any v n xs x _ hr).mono ?_; rintro e w' ⟨⟨r, rfl, hany⟩, rfl⟩; have Hany := hide hany; clear hany)
  go_ret
  refine ⟨?_, rfl⟩
  show Ending.returned (.bool (decide (0 ≤ r))) = _
  rw [Hany.out]
/-- The first k of a slice that reads as a list. -/
theorem RowAt.take {w : World} {A : Option Addr} {n c : Nat} {xs : List Int} (h : RowAt w 1 (.slice A n c) n (encI xs)) {k : Nat} (hk : k ≤ n) : RowAt w 1 (.slice A k c) k (encI (xs.take k)) := by
  have hl : xs.length = n := by simpa [encI] using h.1
  refine ⟨by simp [encI]; omega, ?_⟩
  rcases h.2 with ⟨rfl, _⟩ | ⟨b, off, c', hv, hc, hm, hb, hx⟩
  · exact .inl ⟨by omega, A, c, by rw [show k = 0 by omega]⟩
  · injection hv with hA _ hc'
    subst hA hc'
    refine .inr ⟨b, off, c, rfl, by omega, hm, hb, fun j u hj => hx j u ?_⟩
    simp only [encI, List.map_take, List.getElem?_take] at hj ⊢
    split at hj
    · exact hj
    · cases hj
end Go.Proofs.Ytcjmapljcnmfaaa
