/- Now; Units: texts held against one another. -/
import Derived.Test.YtcjmapljcnmfaaaPostS
import Derived.Deep.QuietTactic
import Derived.BigQuiet
namespace Go.Proofs.Ytcjmapljcnmfaaa
open Go.RowKit Go.Deep
theorem now_any (g : Nat) (F : Nat → Prop) (s : Mails) (rs : List (List Int × Int)) (now : Int) (w : World) (hp : PostAt w g F s rs now) :
    Calls Try.prog 14 #[.pointer (some ⟨g, 0, none⟩)] w fun e w' => e = .returned (.int .i64 now) ∧ w = w' := by
  obtain ⟨⟨gm, cap, iv, rest, sv, hin⟩, hlt⟩ := hp
  have h2 : w.cell? ⟨g, 2, none⟩ = some (.int .i64 now) := hin.blk.cell 2
  clear hin
  go_enter Try.func14, Try.ntmps14
  go_wp2
  go_ret
  exact ⟨rfl, rfl⟩
theorem rowU {w : World} {A : Option Addr} {n c : Nat} {xs : List Int} (h : RowAt w 1 (.slice A n c) n (encU xs)) {k : Nat} (hk : k < n) :
    ∃ b off, A = some ⟨b, off, none⟩ ∧ n ≤ c ∧ c ≤ maxLen ∧ b < w.heap.size ∧ w.cell? ⟨b, off + k, none⟩ = some (.int .u16 (xs.getD k 0)) := by
  rcases h.2 with ⟨h0, _⟩ | ⟨b, off, c', hv, hc, hm, hb, hx⟩
  · omega
  · injection hv with hA _ hc'
    subst hA hc'
    have hl : xs.length = n := by simpa [encU] using h.1
    refine ⟨b, off, rfl, hc, hm, hb, hx k _ ?_⟩
    simp [encU, List.getD, show k < xs.length by omega]
theorem take_eq_succ {a b : List Int} {k : Nat} (hl : a.length = b.length) (hk : k < a.length) (h : a.take k = b.take k) (he : a.getD k 0 = b.getD k 0) : a.take (k + 1) = b.take (k + 1) := by
  rw [List.take_succ_eq_append_getElem hk, List.take_succ_eq_append_getElem (by omega), h]
  simp [List.getD, hk, show k < b.length by omega] at he
  rw [he]
def IsUnits (a b : List Int) (w : World) (e : Ending) (w' : World) : Prop := e = .returned (.bool (a == b)) ∧ ∃ m, w' = w.drewN m
set_option maxHeartbeats 1600000 in
theorem units_any (v1 v2 : Value) (a b : List Int) (w : World) (h1 : RowAt w 1 v1 a.length (encU a)) (h2 : RowAt w 1 v2 b.length (encU b)) :
    Calls Try.prog 18 #[v1, v2] w (IsUnits a b w) := by
  obtain ⟨A1, c1, rfl⟩ := h1.form
  obtain ⟨A2, c2, rfl⟩ := h2.form
  by_cases hl : a.length = b.length
  · have hmax : (a.length : Int) ≤ 9223372036854775807 := by
      rcases h1.2 with ⟨h0, _⟩ | ⟨_, _, c', _, hc, hm, _⟩
      · omega
      · unfold maxLen at hm; omega
    have h2' : RowAt w 1 (.slice A2 a.length c2) a.length (encU b) := by rw [hl]; exact h2
    have Hl := hide hl
    rw [← hl]
    clear hl h2
    go_enter Try.func18, Try.ntmps18
    go_wp2
    go_loopw [5] (fun i wr => ∃ k m : Nat, k ≤ a.length ∧ i = .int .i64 k ∧ a.take k = b.take k ∧ wr = w.drewN m) (fun i _ => a.length - (intOf i).toNat)
    case atStart => exact ⟨0, 0, by omega, rfl, by simp, rfl⟩
    case round =>
      obtain ⟨k, m, hk, rfl, hno, rfl⟩ := hrel
      have Hno := hide hno
      clear hno
      by_cases hlt : k < a.length
      · obtain ⟨b1, o1, rfl, hc1, hm1, hb1, hx1⟩ := rowU h1 hlt
        obtain ⟨b2, o2, rfl, hc2, hm2, hb2, hx2⟩ := rowU h2' hlt
        obtain ⟨x, hx⟩ : ∃ x, x = a.getD k 0 := ⟨_, rfl⟩
        obtain ⟨y, hy⟩ : ∃ y, y = b.getD k 0 := ⟨_, rfl⟩
        rw [← hx] at hx1
        rw [← hy] at hx2
        have Hx := hide hx
        have Hy := hide hy
        have hlti : (k : Int) < (a.length : Int) := by omega
        have hk0 : (0 : Int) ≤ (k : Int) := by omega
        have Hr := hide (And.intro h1 h2')
        clear hm1 hm2 hx hy h1 h2'
        by_cases he : (x != y) = true
        · go_wp2
          go_quiet (fail)
          go_wp2
          go_ret
          refine ⟨?_, _, World.drewN_drewN _ _ _⟩
          have hne : a ≠ b := by
            rintro rfl
            rw [Hx.out, Hy.out] at he
            simp at he
          have : (a == b) = false := by simpa using hne
          rw [this]
          rfl
        · have he' : (x != y) = false := by simpa using he
          clear he
          go_wp2
          go_quiet (fail)
          go_wp2
          go_roundw
          case rel =>
            refine ⟨k + 1, _, by omega, by go_num, ?_, rfl⟩
            exact take_eq_succ Hl.out hlt Hno.out (by rw [← Hx.out, ← Hy.out]; simpa using he')
          case measure => simp [intOf]; omega
      · obtain rfl : k = a.length := by omega
        clear hlt
        go_wp2
        go_ret
        refine ⟨?_, _, rfl⟩
        have h := Hno.out
        have hl := Hl.out
        rw [List.take_of_length_le (Nat.le_refl _), List.take_of_length_le (by omega)] at h
        rw [h]; simp
  · have hne : (((a.length : Int)) != ((b.length : Int))) = true := by simp; omega
    have hab : (a == b) = false := by
      have : a ≠ b := fun h => hl (by rw [h])
      simpa using this
    have Hab := hide hab
    clear hl hab h1 h2
    go_enter Try.func18, Try.ntmps18
    go_wp2
    go_ret
    exact ⟨by rw [Hab.out]; rfl, 0, rfl⟩
end Go.Proofs.Ytcjmapljcnmfaaa
