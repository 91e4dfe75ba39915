/- The chapter's examples: first() is true. -/
import Derived.Test.YtcjmapljcnmfaaaPostF
namespace Go.Proofs.Ytcjmapljcnmfaaa
open Go.RowKit

theorem fit_of {s : Mails} {k : Nat} (h : ∀ l ∈ s, l.length ≤ k) (hk : k ≤ 1000000) : Fit s := fun l hl => Nat.le_trans (h l hl) hk
/-- The chain of what a law has made: of what was there at its beginning nothing has turned. -/
theorem new_step {w w1 w2 : World} {F F' : Nat → Prop} (h : New w w1) (hu : Upd F w1 w2) (hF : ∀ k, F k → w.heap.size ≤ k) (hF' : ∀ k, F' k → F k ∨ w1.heap.size ≤ k) : New w w2 ∧ ∀ k, F' k → w.heap.size ≤ k :=
  ⟨h.trans hu fun i hi hf => by have := hF i hf; omega, fun k hk => by
    rcases hF' k hk with h1 | h1
    · exact hF k h1
    · exact Nat.le_trans h.size h1⟩
set_option maxHeartbeats 1600000 in
theorem first_any (w : World) : Calls Try.prog 7 #[] w fun e w' => e = .returned (.bool true) ∧ New w w' := by
  go_enter Try.func7, Try.ntmps7
  go_wp2_with fail
  refine (new_yes 3 w (by omega) (by omega)).mono ?_
  rintro e w1 ⟨g, F, rfl, hp1, hF1, hn1⟩
  go_wp2_with fail
  obtain ⟨w1', hw1'⟩ : ∃ w1', w1' = w1.alloc (.cells #[.int .i64 1, .int .i64 2] 3) := ⟨_, rfl⟩
  have hr1 : RowAt w1' 1 (.slice (some ⟨w1.heap.size, 0, none⟩) 2 2) 2 (encI [1, 2]) := by rw [hw1']; exact RowAt.fresh w1 _ (encI [1, 2]) 2 2 rfl (by omega) (by unfold maxLen; omega)
  have hn1' : New w1 w1' := by rw [hw1']; exact (Upd.refl _ _).alloc _
  rw [← hw1']
  clear hw1'
  have hFlt := hp1.2
  refine (send_any g F (List.replicate 3 []) [] 0 0 _ 2 [1, 2] ⟨0, 8, 0, 5⟩ w1' rfl (hp1.keepN hn1') (by omega) hr1 (fun _ q off c h hq => by injection h with h _ _; injection h with h; injection h with h _ _; subst h; have := hFlt _ hq; omega) (fun l hl => by rw [(List.mem_replicate.1 hl).2]; simp)).mono ?_
  rintro e w2 ⟨rfl, F2, hp2, hu2, hF2⟩
  have hse : sendE (List.replicate 3 []) 0 [1, 2] = 0 := by decide
  have hs2 : sendS (List.replicate 3 []) 0 [1, 2] ⟨0, 8, 0, 5⟩ = [[], [⟨0, 8, 0, 5⟩], [⟨0, 8, 0, 5⟩]] := by decide
  rw [hs2] at hp2
  rw [hse]
  obtain ⟨hN2, hG2⟩ := new_step (hn1.transNew hn1') hu2 hF1 hF2
  have HN2 := hide hN2
  have HG2 := hide hG2
  clear hse hs2 hr1 hFlt hu2 hF2 hn1' hp1 hF1 hn1 hN2 hG2
  go_wp2_with fail
  refine (open_any g F2 _ [] 0 0 w2 hp2).mono ?_
  rintro e w3 ⟨rfl, hn3⟩
  rw [show openB [[], [⟨0, 8, 0, 5⟩], [⟨0, 8, 0, 5⟩]] 0 = true by decide]
  have hp3 := hp2.keepN hn3
  have HN3 := hide (HN2.out.transNew hn3)
  clear hp2 hn3
  go_wp2_with fail
  refine (take_yes g F2 _ [] 0 1 ⟨0, 8, 0, 5⟩ [] w3 hp3 (fit_of (k := 1) (by decide) (by omega)) (by decide) rfl).mono ?_
  rintro e w4 ⟨rfl, F4, hp4, hu4, hF4⟩
  obtain ⟨hN4, hG4⟩ := new_step HN3.out hu4 HG2.out hF4
  have HN4 := hide hN4
  have HG4 := hide hG4
  rw [show aggM ⟨0, 8, 0, 5⟩ = .agg #[.int .i64 0, .int .i64 8, .int .i64 0, .int .i64 5] from rfl]
  clear hp3 hu4 hF4 hN4 hG4
  have Hp4 := hide hp4
  clear hp4
  go_wp2_with fail
  obtain ⟨w5, hw5⟩ : ∃ w5, w5 = w4.alloc (.cells #[.int .i64 0, .int .i64 8, .int .i64 0, .int .i64 5] 37) := ⟨_, rfl⟩
  have hb5 : Blk w5 w4.heap.size 37 [.int .i64 0, .int .i64 8, .int .i64 0, .int .i64 5] := by rw [hw5]; exact Blk.new w4 _ _
  have hn5 : New w4 w5 := by rw [hw5]; exact (Upd.refl _ _).alloc _
  rw [← hw5]
  clear hw5
  have hnF4 : ¬ F4 w4.heap.size := fun h => Nat.lt_irrefl _ (Hp4.out.2 _ h)
  have hp5 := Hp4.out.keepN hn5
  have HN5 := hide (HN4.out.transNew hn5)
  obtain ⟨gm4, hgm4⟩ : ∃ q, q = w4.heap.size := ⟨_, rfl⟩
  rw [← hgm4] at hb5 hnF4 ⊢
  clear hgm4 hn5
  have Hb5 := hide hb5
  clear hb5
  refine (take_yes g F4 _ [] 0 2 ⟨0, 8, 0, 5⟩ [] w5 hp5 (fit_of (k := 1) (by decide) (by omega)) (by decide) rfl).mono ?_
  rintro e w6 ⟨rfl, F6, hp6, hu6, hF6⟩
  obtain ⟨hN6, hG6⟩ := new_step HN5.out hu6 HG4.out hF6
  have HN6 := hide hN6
  have HG6 := hide hG6
  have Hb6 := hide (Hb5.out.upd hu6 hnF4)
  have hnF6 : ¬ F6 gm4 := fun h => by
    rcases hF6 _ h with h1 | h1
    · exact hnF4 h1
    · have := Hb5.out.lt; omega
  have Hp6 := hide hp6
  clear hp6 hu6 hF6 hN6 hG6 hp5 hnF4
  go_wp2_with fail
  refine (tick_any g F6 _ [] 0 9007199254740991 w6 Hp6.out (by omega) (by omega) (by omega)).mono ?_
  rintro e w7 ⟨rfl, hp7, hu7⟩
  obtain ⟨hN7, _⟩ := new_step (F' := F6) HN6.out hu7 HG6.out (fun k hk => .inl hk)
  have HN7 := hide hN7
  have Hb7 := hide (Hb6.out.upd hu7 hnF6)
  have hp7' : PostAt w7 g F6 [[], [], []] [] 9007199254740991 := hp7
  have Hp7 := hide hp7'
  have m0 := Hb7.out.cell 0
  have m1 := Hb7.out.cell 1
  have m2 := Hb7.out.cell 2
  have m3 := Hb7.out.cell 3
  simp only [List.getElem?_cons_zero, List.getElem?_cons_succ] at m0 m1 m2 m3
  clear hp7 hp7' hu7 hN7
  go_wp2_with fail
  refine (open_any g F6 _ [] _ 0 w7 Hp7.out).mono ?_
  rintro e w8 ⟨rfl, hn8⟩
  rw [show openB [[], [], []] 0 = false by decide]
  have Hp8 := hide (Hp7.out.keepN hn8)
  have HN8 := hide (HN7.out.transNew hn8)
  clear hn8
  go_wp2_with fail
  refine (tick_any g F6 _ [] _ 5 w8 Hp8.out (by omega) (by omega) (by omega)).mono ?_
  rintro e w9 ⟨rfl, hp9, hu9⟩
  obtain ⟨hN9, _⟩ := new_step (F' := F6) HN8.out hu9 HG6.out (fun k hk => .inl hk)
  rw [show tickN 9007199254740991 5 = 9007199254740991 by decide] at hp9 ⊢
  have HN9 := hide hN9
  have Hp9 := hide hp9
  clear hp9 hu9 hN9
  go_wp2_with fail
  obtain ⟨w10, hw10⟩ : ∃ w10, w10 = w9.alloc (.cells #[.int .i64 0] 3) := ⟨_, rfl⟩
  have hr10 : RowAt w10 1 (.slice (some ⟨w9.heap.size, 0, none⟩) 1 1) 1 (encI [0]) := by rw [hw10]; exact RowAt.fresh w9 _ (encI [0]) 1 1 rfl (by omega) (by unfold maxLen; omega)
  have hn10 : New w9 w10 := by rw [hw10]; exact (Upd.refl _ _).alloc _
  rw [← hw10]
  clear hw10
  have hFlt9 := Hp9.out.2
  refine (send_any g F6 _ [] _ 0 _ 1 [0] ⟨0, 0, 0, 0⟩ w10 rfl (Hp9.out.keepN hn10) (by omega) hr10 (fun _ q off c h hq => by injection h with h _ _; injection h with h; injection h with h _ _; subst h; have := hFlt9 _ hq; omega) (by decide)).mono ?_
  rintro e w11 ⟨rfl, F11, _, hu11, hF11⟩
  rw [show sendE [[], [], []] 0 [0] = 1 by decide]
  obtain ⟨hN11, _⟩ := new_step (HN9.out.transNew hn10) hu11 HG6.out hF11
  have HN11 := hide hN11
  clear hu11 hF11 hN11 hr10 hn10 hFlt9
  go_wp2
  go_ret
  exact ⟨rfl, HN11.out⟩
end Go.Proofs.Ytcjmapljcnmfaaa
