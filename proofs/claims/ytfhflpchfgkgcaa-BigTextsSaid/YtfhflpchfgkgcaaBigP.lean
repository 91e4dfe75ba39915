/- AsInt, Word. -/
import Derived.Test.YtfhflpchfgkgcaaBigO
namespace Go.Proofs.Ytfhflpchfgkgcaa
open Go.RowKit
set_option linter.unusedSimpArgs false
set_option linter.unusedVariables false
def asI (n : Int) (z : Int) : Int := if n < 0 ∨ 256 < n then 0 else if n = 0 ∨ asU n z < 2 ^ (n.toNat - 1) then asU n z else asU n z - 2 ^ n.toNat
theorem asI_lo {n : Int} {z : Int} (h : n < 0 ∨ 256 < n ∨ n = 0) : asI n z = asU n z := by
  unfold asI
  by_cases h1 : n < 0 ∨ 256 < n
  · rw [if_pos h1, asU, if_pos h1]
  · rw [if_neg h1, if_pos (.inl (by omega))]
theorem asI_small {k : Nat} {z : Int} (hk : k + 1 ≤ 256) (h : asU ((k + 1 : Nat) : Int) z < 2 ^ k) : asI ((k + 1 : Nat) : Int) z = asU ((k + 1 : Nat) : Int) z := by
  unfold asI
  rw [if_neg (by omega), if_pos (.inr (by rw [Int.toNat_natCast, Nat.add_sub_cancel]; exact h))]
theorem asI_big {k : Nat} {z : Int} (hk : k + 1 ≤ 256) (h : ¬ asU ((k + 1 : Nat) : Int) z < 2 ^ k) : asI ((k + 1 : Nat) : Int) z = asU ((k + 1 : Nat) : Int) z - 2 ^ (k + 1) := by
  unfold asI
  rw [if_neg (by omega), if_neg (by rw [Int.toNat_natCast, Nat.add_sub_cancel]; omega), Int.toNat_natCast]
theorem asU_lt (k : Nat) (h : k ≤ 256) (z : Int) : asU (k : Int) z < 2 ^ k := by
  rw [asU_nat h]
  exact Int.emod_lt_of_pos _ (by rw [pow_cast]; have := Nat.two_pow_pos k; omega)
theorem CanAt.parts {w : World} {f : Bool} {A : Option Addr} {n c : Nat} {z : Int} (h : CanAt w (.agg #[.bool f, .slice A n c]) z) : f = decide (z < 0) ∧ n = (canon z.natAbs).length ∧ RowAt w 1 (.slice A n c) n (encW (canon z.natAbs)) := by
  obtain ⟨d, v, hx, hd, hr⟩ := h
  injection hx with hx
  have h1 : #[Value.bool f, .slice A n c][0]? = #[Value.bool d, v][0]? := by rw [hx]
  have h2 : #[Value.bool f, .slice A n c][1]? = #[Value.bool d, v][1]? := by rw [hx]
  simp at h1 h2
  subst h1 h2
  have hn : n = (canon z.natAbs).length := by
    obtain ⟨A', c', hf⟩ := hr.form
    injection hf
  subst hn
  exact ⟨hd, rfl, hr⟩
theorem two_boxes1 (w : World) (t : TypeId) (x1 y1 : Value) : Blk (w.alloc (.cells #[x1, y1] t)) w.heap.size t [x1, y1] := Blk.new w t [x1, y1]
set_option maxHeartbeats 3200000 in
theorem asInt_any (n : Int) (x : Value) (z : Int) (w : World) (hx : BigAt w x z) : Calls Try.prog 23 #[.int .i64 n, x] w (IsZE (asI n z) (rangeE n) w) := by
  obtain ⟨bx, Ax, nx, cx, rfl⟩ := hx.form
  obtain ⟨w1, hw1, hn1, hb1, hb2, -⟩ := two_boxes w 24 (.bool bx) (.slice Ax nx cx) (.bool false) (.slice none 0 0)
  have hz := hx.new_ hn1
  have Hw := hide hw1
  clear hw1 hx
  go_enter Try.func23, Try.ntmps23
  go_wp2_with fail
  rw [← Hw.out]
  refine (asUint_any n _ z _ hz).mono ?_
  rintro e w2 ⟨f, A, j, c, rfl, hcan, hm2⟩
  have hbB := hb2.new_ hm2
  have hn2 := hn1.transNew hm2
  clear hz hb1 hb2 hn1 hm2
  obtain ⟨er, her⟩ : ∃ er, er = rangeE n := ⟨_, rfl⟩
  rw [← her]
  obtain ⟨u, hu⟩ : ∃ u, u = asU n z := ⟨_, rfl⟩
  rw [← hu] at hcan
  have hub := asU_bd n z
  rw [← hu] at hub
  have Hu := hide (And.intro hu (And.intro her hub))
  have hq1 : w.heap.size + 1 < w2.heap.size := hbB.lt
  clear her hu hub
  obtain ⟨w3, hw3⟩ : ∃ w3, w3 = w2.alloc (.cells #[.bool f, .slice A j c] 24) := ⟨_, rfl⟩
  have hn23 : New w2 w3 := by rw [hw3]; exact (Upd.refl _ _).alloc _
  have hb3 : Blk w3 w2.heap.size 24 [.bool f, .slice A j c] := by rw [hw3]; exact Blk.new w2 _ _
  have hbB3 := hbB.new_ hn23
  have hcan3 := hcan.new_ hn23
  have hn3 := hn2.transNew hn23
  have Hw3 := hide hw3
  clear hw3 hbB hcan hn2 hn23
  by_cases hlo : n < 0 ∨ 256 < n ∨ n = 0
  · have hI := asI_lo (z := z) hlo
    have hE : (er = 1 ∧ rangeE n = 1) ∨ (er = 0 ∧ rangeE n = 0 ∧ n = 0) := by
      by_cases h : n < 0 ∨ 256 < n
      · have : rangeE n = 1 := by rw [rangeE, if_pos h]
        exact .inl ⟨by rw [Hu.out.2.1, this], this⟩
      · have : rangeE n = 0 := by rw [rangeE, if_neg h]
        exact .inr ⟨by rw [Hu.out.2.1, this], this, by omega⟩
    rcases hE with ⟨rfl, hE⟩ | ⟨rfl, hE, rfl⟩
    · have HE := hide (And.intro hI hE)
      clear hlo hI hE
      go_wp2_with fail
      rw [← Hw3.out]
      obtain ⟨q, hq⟩ : ∃ q, q = w2.heap.size := ⟨_, rfl⟩
      rw [← hq] at hb3 hq1 ⊢
      clear hq
      have hS : ∀ w', New w3 w' → (Blk w' q 24 [.bool f, .slice A j c]) := fun w' hn => hb3.new_ hn
      refine wp_region_dm (fun w' => Blk w' q 24 [.bool f, .slice A j c]) [(0, true), (1, true), (2, true), (3, true), (4, true), (5, true), (6, true), (7, true), (8, true), (9, true), (10, true), (11, true), (12, true), (13, true), (14, true)] (by kernel_rfl) (by kernel_rfl) (fun _ _ d _ _ h => by cases d <;> exact h) (hS _ (Upd.refl _ _).drew) ?_
      refine st_take (a' := ?_) rfl rfl (y_move (v := .int .i64 1) rfl rfl) ?_ ?_
      rotate_left; (simp only [Act.put, List.setIfInBounds_toArray, List.set_cons_zero, List.set_cons_succ]; rfl)
      refine st_take (a' := ?_) rfl rfl (y_run (v := .bool true) fun w => by kernel_rfl) ?_ ?_
      rotate_left; (simp only [Act.put, List.setIfInBounds_toArray, List.set_cons_zero, List.set_cons_succ]; rfl)
      refine st_take (a' := ?_) rfl rfl (y_move (v := .bool true) rfl rfl) ?_ ?_
      rotate_left; (simp only [Act.put, List.setIfInBounds_toArray, List.set_cons_zero, List.set_cons_succ]; rfl)
      refine st_skip (a' := ?_) rfl rfl ?_ ?_
      rotate_left; (simp only [Act.put, List.setIfInBounds_toArray, List.set_cons_zero, List.set_cons_succ]; rfl)
      refine st_skip (a' := ?_) rfl rfl ?_ ?_
      rotate_left; (simp only [Act.put, List.setIfInBounds_toArray, List.set_cons_zero, List.set_cons_succ]; rfl)
      refine st_take (a' := ?_) rfl rfl (y_pick (v := .bool true) rfl rfl rfl) ?_ ?_
      rotate_left; (simp only [Act.put, List.setIfInBounds_toArray, List.set_cons_zero, List.set_cons_succ]; rfl)
      refine st_take (a' := ?_) rfl rfl (y_move (v := .bool true) rfl rfl) ?_ ?_
      rotate_left; (simp only [Act.put, List.setIfInBounds_toArray, List.set_cons_zero, List.set_cons_succ]; rfl)
      refine st_skip (a' := ?_) rfl rfl ?_ ?_
      rotate_left; (simp only [Act.put, List.setIfInBounds_toArray, List.set_cons_zero, List.set_cons_succ]; rfl)
      refine st_skip (a' := ?_) rfl rfl ?_ ?_
      rotate_left; (simp only [Act.put, List.setIfInBounds_toArray, List.set_cons_zero, List.set_cons_succ]; rfl)
      refine st_skip (a' := ?_) rfl rfl ?_ ?_
      rotate_left; (simp only [Act.put, List.setIfInBounds_toArray, List.set_cons_zero, List.set_cons_succ]; rfl)
      refine st_skip (a' := ?_) rfl rfl ?_ ?_
      rotate_left; (simp only [Act.put, List.setIfInBounds_toArray, List.set_cons_zero, List.set_cons_succ]; rfl)
      refine st_skip (a' := ?_) rfl rfl ?_ ?_
      rotate_left; (simp only [Act.put, List.setIfInBounds_toArray, List.set_cons_zero, List.set_cons_succ]; rfl)
      refine st_skip (a' := ?_) rfl rfl ?_ ?_
      rotate_left; (simp only [Act.put, List.setIfInBounds_toArray, List.set_cons_zero, List.set_cons_succ]; rfl)
      refine st_skip (a' := ?_) rfl rfl ?_ ?_
      rotate_left; (simp only [Act.put, List.setIfInBounds_toArray, List.set_cons_zero, List.set_cons_succ]; rfl)
      refine st_take (a' := ?_) rfl rfl (y_pick (v := .bool true) rfl rfl rfl) ?_ ?_
      rotate_left; (simp only [Act.put, List.setIfInBounds_toArray, List.set_cons_zero, List.set_cons_succ]; rfl)
      refine st_nil ?_
      have hd := (show New w3 w3.drew from (Upd.refl _ _).drew)
      clear hS
      obtain ⟨w5, hw5⟩ : ∃ w5, w5 = w3.drew := ⟨_, rfl⟩
      rw [← hw5] at hd ⊢
      clear hw5
      have hb4 := hb3.new_ hd
      have hbB4 := hbB3.new_ hd
      have hcan4 := hcan3.new_ hd
      have hn4 := hn3.transNew hd
      have x0 : w5.cell? ⟨q, 0, none⟩ = some (.bool f) := hb4.cell 0
      have x1 : w5.cell? ⟨q, 1, none⟩ = some (.slice A j c) := hb4.cell 1
      have r0 : w5.cell? ⟨w.heap.size + 1, 0, none⟩ = some (.bool false) := hbB4.cell 0
      have r1 : w5.cell? ⟨w.heap.size + 1, 1, none⟩ = some (.slice none 0 0) := hbB4.cell 1
      have f0 := hbB4.frozen 0
      have f1 := hbB4.frozen 1
      obtain ⟨w4, hw4, hcan5, hn5, g0, g1, -⟩ := hcan4.store hbB4 hn4 (by omega)
      have H5 := hide (And.intro hcan5 (And.intro hn5 hw4))
      clear hb4 hbB4 hcan4 hn4 hcan5 hn5 hw4 hb3 hbB3 hcan3 hn3 hd
      go_wp2
      rw [← H5.out.2.2]
      refine bodyPost_ret (v := .tuple #[.agg #[.bool f, .slice A j c], .int .i64 1]) (by simp [results, Try.results23, go_sem, g0, g1]) rfl ⟨f, A, j, c, by rw [HE.out.2], ?_, H5.out.2.1⟩
      rw [HE.out.1, ← Hu.out.1]
      exact H5.out.1
    · have HE := hide (And.intro hI hE)
      clear hlo hI hE
      go_wp2_with fail
      rw [← Hw3.out]
      obtain ⟨q, hq⟩ : ∃ q, q = w2.heap.size := ⟨_, rfl⟩
      rw [← hq] at hb3 hq1 ⊢
      clear hq
      have hS : ∀ w', New w3 w' → (Blk w' q 24 [.bool f, .slice A j c]) := fun w' hn => hb3.new_ hn
      refine wp_region_dm (fun w' => Blk w' q 24 [.bool f, .slice A j c]) [(0, true), (1, true), (2, true), (3, true), (4, true), (5, true), (6, true), (7, true), (8, true), (9, true), (10, true), (11, true), (12, true), (13, true), (14, true)] (by kernel_rfl) (by kernel_rfl) (fun _ _ d _ _ h => by cases d <;> exact h) (hS _ (Upd.refl _ _).drew) ?_
      refine st_take (a' := ?_) rfl rfl (y_move (v := .int .i64 0) rfl rfl) ?_ ?_
      rotate_left; (simp only [Act.put, List.setIfInBounds_toArray, List.set_cons_zero, List.set_cons_succ]; rfl)
      refine st_take (a' := ?_) rfl rfl (y_run (v := .bool false) fun w => by kernel_rfl) ?_ ?_
      rotate_left; (simp only [Act.put, List.setIfInBounds_toArray, List.set_cons_zero, List.set_cons_succ]; rfl)
      refine st_take (a' := ?_) rfl rfl (y_move (v := .bool false) rfl rfl) ?_ ?_
      rotate_left; (simp only [Act.put, List.setIfInBounds_toArray, List.set_cons_zero, List.set_cons_succ]; rfl)
      refine st_take (a' := ?_) rfl rfl (y_move (v := .int .i64 0) rfl rfl) ?_ ?_
      rotate_left; (simp only [Act.put, List.setIfInBounds_toArray, List.set_cons_zero, List.set_cons_succ]; rfl)
      refine st_take (a' := ?_) rfl rfl (y_run (v := .bool true) fun w => by kernel_rfl) ?_ ?_
      rotate_left; (simp only [Act.put, List.setIfInBounds_toArray, List.set_cons_zero, List.set_cons_succ]; rfl)
      refine st_take (a' := ?_) rfl rfl (y_pick (v := .bool true) rfl rfl rfl) ?_ ?_
      rotate_left; (simp only [Act.put, List.setIfInBounds_toArray, List.set_cons_zero, List.set_cons_succ]; rfl)
      refine st_take (a' := ?_) rfl rfl (y_move (v := .bool true) rfl rfl) ?_ ?_
      rotate_left; (simp only [Act.put, List.setIfInBounds_toArray, List.set_cons_zero, List.set_cons_succ]; rfl)
      refine st_skip (a' := ?_) rfl rfl ?_ ?_
      rotate_left; (simp only [Act.put, List.setIfInBounds_toArray, List.set_cons_zero, List.set_cons_succ]; rfl)
      refine st_skip (a' := ?_) rfl rfl ?_ ?_
      rotate_left; (simp only [Act.put, List.setIfInBounds_toArray, List.set_cons_zero, List.set_cons_succ]; rfl)
      refine st_skip (a' := ?_) rfl rfl ?_ ?_
      rotate_left; (simp only [Act.put, List.setIfInBounds_toArray, List.set_cons_zero, List.set_cons_succ]; rfl)
      refine st_skip (a' := ?_) rfl rfl ?_ ?_
      rotate_left; (simp only [Act.put, List.setIfInBounds_toArray, List.set_cons_zero, List.set_cons_succ]; rfl)
      refine st_skip (a' := ?_) rfl rfl ?_ ?_
      rotate_left; (simp only [Act.put, List.setIfInBounds_toArray, List.set_cons_zero, List.set_cons_succ]; rfl)
      refine st_skip (a' := ?_) rfl rfl ?_ ?_
      rotate_left; (simp only [Act.put, List.setIfInBounds_toArray, List.set_cons_zero, List.set_cons_succ]; rfl)
      refine st_skip (a' := ?_) rfl rfl ?_ ?_
      rotate_left; (simp only [Act.put, List.setIfInBounds_toArray, List.set_cons_zero, List.set_cons_succ]; rfl)
      refine st_take (a' := ?_) rfl rfl (y_pick (v := .bool true) rfl rfl rfl) ?_ ?_
      rotate_left; (simp only [Act.put, List.setIfInBounds_toArray, List.set_cons_zero, List.set_cons_succ]; rfl)
      refine st_nil ?_
      have hd := (show New w3 w3.drew from (Upd.refl _ _).drew)
      clear hS
      obtain ⟨w5, hw5⟩ : ∃ w5, w5 = w3.drew := ⟨_, rfl⟩
      rw [← hw5] at hd ⊢
      clear hw5
      have hb4 := hb3.new_ hd
      have hbB4 := hbB3.new_ hd
      have hcan4 := hcan3.new_ hd
      have hn4 := hn3.transNew hd
      have x0 : w5.cell? ⟨q, 0, none⟩ = some (.bool f) := hb4.cell 0
      have x1 : w5.cell? ⟨q, 1, none⟩ = some (.slice A j c) := hb4.cell 1
      have r0 : w5.cell? ⟨w.heap.size + 1, 0, none⟩ = some (.bool false) := hbB4.cell 0
      have r1 : w5.cell? ⟨w.heap.size + 1, 1, none⟩ = some (.slice none 0 0) := hbB4.cell 1
      have f0 := hbB4.frozen 0
      have f1 := hbB4.frozen 1
      obtain ⟨w4, hw4, hcan5, hn5, g0, g1, -⟩ := hcan4.store hbB4 hn4 (by omega)
      have H5 := hide (And.intro hcan5 (And.intro hn5 hw4))
      clear hb4 hbB4 hcan4 hn4 hcan5 hn5 hw4 hb3 hbB3 hcan3 hn3 hd
      go_wp2
      rw [← H5.out.2.2]
      refine bodyPost_ret (v := .tuple #[.agg #[.bool f, .slice A j c], .int .i64 0]) (by simp [results, Try.results23, go_sem, g0, g1]) rfl ⟨f, A, j, c, by rw [HE.out.2], ?_, H5.out.2.1⟩
      rw [HE.out.1, ← Hu.out.1]
      exact H5.out.1
  · obtain ⟨k, rfl⟩ : ∃ k : Nat, n = ((k + 1 : Nat) : Int) := ⟨(n - 1).toNat, by omega⟩
    have hk : k + 1 ≤ 256 := by omega
    have hE : rangeE ((k + 1 : Nat) : Int) = 0 := by rw [rangeE, if_neg (by omega)]
    obtain rfl : er = 0 := by rw [Hu.out.2.1, hE]
    obtain ⟨-, hjl, hrow3⟩ := hcan3.parts
    have hult : u < 2 ^ (k + 1) := by rw [Hu.out.1]; exact asU_lt (k + 1) hk z
    have hultN : u.natAbs < 2 ^ (k + 1) := by
      rw [pow_cast] at hult
      have := Hu.out.2.2.1
      omega
    have hj8 : j ≤ 8 := by rw [hjl, canon_len8]; exact Hu.out.2.2.2
    have Hk := hide (And.intro hE (And.intro hjl (And.intro hrow3 hultN)))
    clear hlo hE hjl hrow3 hult hultN
    by_cases hsm : u.natAbs < 2 ^ k
    · have hI : asI ((k + 1 : Nat) : Int) z = u := by
        rw [Hu.out.1]
        refine asI_small hk ?_
        rw [← Hu.out.1, pow_cast]
        have := Hu.out.2.2.1
        omega
      have hcmp : cmpI (val (canon u.natAbs)) (2 ^ k) = -1 := by rw [val_canon, cmpI, if_pos hsm]
      have HE := hide (And.intro hI hcmp)
      clear hsm hI hcmp
      go_wp2_with fail
      rw [← Hw3.out]
      obtain ⟨q, hq⟩ : ∃ q, q = w2.heap.size := ⟨_, rfl⟩
      rw [← hq] at hb3 hq1 ⊢
      clear hq
      have hS : ∀ w', New w3 w' → (Blk w' q 24 [.bool f, .slice A j c]) := fun w' hn => hb3.new_ hn
      refine wp_region_dm (fun w' => Blk w' q 24 [.bool f, .slice A j c]) [(0, true), (1, true), (2, true), (3, true), (4, true), (5, true), (6, true), (7, true), (8, true), (9, true), (10, true), (11, false), (12, false), (13, true), (14, true)] (by kernel_rfl) (by kernel_rfl) (fun _ _ d _ _ h => by cases d <;> exact h) (hS _ (Upd.refl _ _).drew) ?_
      refine st_take (a' := ?_) rfl rfl (y_move (v := .int .i64 0) rfl rfl) ?_ ?_
      rotate_left; (simp only [Act.put, List.setIfInBounds_toArray, List.set_cons_zero, List.set_cons_succ]; rfl)
      refine st_take (a' := ?_) rfl rfl (y_run (v := .bool false) fun w => by kernel_rfl) ?_ ?_
      rotate_left; (simp only [Act.put, List.setIfInBounds_toArray, List.set_cons_zero, List.set_cons_succ]; rfl)
      refine st_take (a' := ?_) rfl rfl (y_move (v := .bool false) rfl rfl) ?_ ?_
      rotate_left; (simp only [Act.put, List.setIfInBounds_toArray, List.set_cons_zero, List.set_cons_succ]; rfl)
      refine st_take (a' := ?_) rfl rfl (y_move (v := .int .i64 ((k + 1 : Nat) : Int)) rfl rfl) ?_ ?_
      rotate_left; (simp only [Act.put, List.setIfInBounds_toArray, List.set_cons_zero, List.set_cons_succ]; rfl)
      refine st_take (a' := ?_) rfl rfl (y_run (v := .bool false) fun w => by kernel_rfl) ?_ ?_
      rotate_left; (simp only [Act.put, List.setIfInBounds_toArray, List.set_cons_zero, List.set_cons_succ]; rfl)
      refine st_take (a' := ?_) rfl rfl (y_pick (v := .bool false) rfl rfl rfl) ?_ ?_
      rotate_left; (simp only [Act.put, List.setIfInBounds_toArray, List.set_cons_zero, List.set_cons_succ]; rfl)
      refine st_take (a' := ?_) rfl rfl (y_move (v := .bool false) rfl rfl) ?_ ?_
      rotate_left; (simp only [Act.put, List.setIfInBounds_toArray, List.set_cons_zero, List.set_cons_succ]; rfl)
      refine st_take (a' := ?_) rfl rfl (y_field rfl rfl (fieldB_1 q)) ?_ ?_
      rotate_left; (simp only [Act.put, List.setIfInBounds_toArray, List.set_cons_zero, List.set_cons_succ]; rfl)
      refine st_take (a' := ?_) rfl rfl (y_load (v := .slice A j c) rfl rfl Try.isAgg22 (fun _ h => (h).cell 1)) ?_ ?_
      rotate_left; (simp only [Act.put, List.setIfInBounds_toArray, List.set_cons_zero, List.set_cons_succ]; rfl)
      refine st_take (a' := ?_) rfl rfl (y_move (v := .int .i64 ((k + 1 : Nat) : Int)) rfl rfl) ?_ ?_
      rotate_left; (simp only [Act.put, List.setIfInBounds_toArray, List.set_cons_zero, List.set_cons_succ]; rfl)
      refine st_take (a' := ?_) rfl rfl (y_bin (v := .int .i64 (k : Int)) rfl rfl rfl (r_sub (by omega) (by omega))) ?_ ?_
      rotate_left; (simp only [Act.put, List.setIfInBounds_toArray, List.set_cons_zero, List.set_cons_succ]; rfl)
      refine st_act rfl rfl fun K hK => a_call (args := #[.int .i64 (k : Int)]) rfl rfl (fun w => by kernel_rfl) (power_t k _ (by omega)) ?_
      rintro e w4 ⟨A5, n5, c5, m5, rfl, ho5, hl5, hv5, -, ht5, hm5⟩
      have hq3_1 := (show New _ _ from (Upd.refl _ _).drew).transNew hm5
      refine ⟨_, rfl, hK _ _ (hS _ hq3_1) ?_⟩
      simp only [Act.put, List.setIfInBounds_toArray, List.set_cons_zero, List.set_cons_succ]
      refine st_act rfl rfl fun K hK => a_call (args := #[.slice A j c, .slice A5 n5 c5]) rfl rfl (fun w => by kernel_rfl) (cmp_any A A5 j n5 c c5 _ m5 _ (Hk.out.2.2.1.new_ hq3_1) ho5.row (limbs_canon _) hl5 (trim_canon _) ht5) ?_
      rintro e w5 ⟨rfl, hm⟩
      rw [hv5, HE.out.2]
      have hm3 : New w4 w5 := (Upd.refl _ _).drewN' hm
      have hq3_2 := (show New _ _ from hq3_1).transNew hm3
      refine ⟨_, rfl, hK _ _ (hS _ hq3_2) ?_⟩
      simp only [Act.put, List.setIfInBounds_toArray, List.set_cons_zero, List.set_cons_succ]
      refine st_take (a' := ?_) rfl rfl (y_run (v := .bool true) fun w => by kernel_rfl) ?_ ?_
      rotate_left; (simp only [Act.put, List.setIfInBounds_toArray, List.set_cons_zero, List.set_cons_succ]; rfl)
      refine st_take (a' := ?_) rfl rfl (y_pick (v := .bool true) rfl rfl rfl) ?_ ?_
      rotate_left; (simp only [Act.put, List.setIfInBounds_toArray, List.set_cons_zero, List.set_cons_succ]; rfl)
      refine st_nil ?_
      have hd := (show New _ _ from hq3_2)
      clear hS hq3_1 hq3_2
      have hb4 := hb3.new_ hd
      have hbB4 := hbB3.new_ hd
      have hcan4 := hcan3.new_ hd
      have hn4 := hn3.transNew hd
      have x0 : w5.cell? ⟨q, 0, none⟩ = some (.bool f) := hb4.cell 0
      have x1 : w5.cell? ⟨q, 1, none⟩ = some (.slice A j c) := hb4.cell 1
      have r0 : w5.cell? ⟨w.heap.size + 1, 0, none⟩ = some (.bool false) := hbB4.cell 0
      have r1 : w5.cell? ⟨w.heap.size + 1, 1, none⟩ = some (.slice none 0 0) := hbB4.cell 1
      have f0 := hbB4.frozen 0
      have f1 := hbB4.frozen 1
      obtain ⟨w6, hw4, hcan5, hn5, g0, g1, -⟩ := hcan4.store hbB4 hn4 (by omega)
      have H5 := hide (And.intro hcan5 (And.intro hn5 hw4))
      clear hb4 hbB4 hcan4 hn4 hcan5 hn5 hw4 hb3 hbB3 hcan3 hn3 hd hm hm3 hm5 ho5 hl5 hv5 ht5
      go_wp2
      rw [← H5.out.2.2]
      refine bodyPost_ret (v := .tuple #[.agg #[.bool f, .slice A j c], .int .i64 0]) (by simp [results, Try.results23, go_sem, g0, g1]) rfl ⟨f, A, j, c, by rw [Hk.out.1], ?_, H5.out.2.1⟩
      rw [HE.out.1]
      exact H5.out.1
    · have hI : asI ((k + 1 : Nat) : Int) z = u - 2 ^ (k + 1) := by
        rw [Hu.out.1]
        refine asI_big hk ?_
        rw [← Hu.out.1, pow_cast]
        have := Hu.out.2.2.1
        omega
      have hcmp : cmpI (val (canon u.natAbs)) (2 ^ k) = 0 ∨ cmpI (val (canon u.natAbs)) (2 ^ k) = 1 := by
        rw [val_canon, cmpI, if_neg hsm]
        split
        · exact .inr rfl
        · exact .inl rfl
      obtain ⟨r, hr⟩ : ∃ r, r = cmpI (val (canon u.natAbs)) (2 ^ k) := ⟨_, rfl⟩
      rw [← hr] at hcmp
      have HE := hide (And.intro hI hr)
      clear hsm hI hr
      rcases hcmp with rfl | rfl
      all_goals
        go_wp2_with fail
        rw [← Hw3.out]
        obtain ⟨q, hq⟩ : ∃ q, q = w2.heap.size := ⟨_, rfl⟩
        rw [← hq] at hb3 hq1 ⊢
        clear hq
        have hS : ∀ w', New w3 w' → (Blk w' q 24 [.bool f, .slice A j c]) := fun w' hn => hb3.new_ hn
        refine wp_region_dm (fun w' => Blk w' q 24 [.bool f, .slice A j c]) [(0, true), (1, true), (2, true), (3, true), (4, true), (5, true), (6, true), (7, true), (8, true), (9, true), (10, true), (11, false), (12, false), (13, true), (14, true)] (by kernel_rfl) (by kernel_rfl) (fun _ _ d _ _ h => by cases d <;> exact h) (hS _ (Upd.refl _ _).drew) ?_
        refine st_take (a' := ?_) rfl rfl (y_move (v := .int .i64 0) rfl rfl) ?_ ?_
        rotate_left; (simp only [Act.put, List.setIfInBounds_toArray, List.set_cons_zero, List.set_cons_succ]; rfl)
        refine st_take (a' := ?_) rfl rfl (y_run (v := .bool false) fun w => by kernel_rfl) ?_ ?_
        rotate_left; (simp only [Act.put, List.setIfInBounds_toArray, List.set_cons_zero, List.set_cons_succ]; rfl)
        refine st_take (a' := ?_) rfl rfl (y_move (v := .bool false) rfl rfl) ?_ ?_
        rotate_left; (simp only [Act.put, List.setIfInBounds_toArray, List.set_cons_zero, List.set_cons_succ]; rfl)
        refine st_take (a' := ?_) rfl rfl (y_move (v := .int .i64 ((k + 1 : Nat) : Int)) rfl rfl) ?_ ?_
        rotate_left; (simp only [Act.put, List.setIfInBounds_toArray, List.set_cons_zero, List.set_cons_succ]; rfl)
        refine st_take (a' := ?_) rfl rfl (y_run (v := .bool false) fun w => by kernel_rfl) ?_ ?_
        rotate_left; (simp only [Act.put, List.setIfInBounds_toArray, List.set_cons_zero, List.set_cons_succ]; rfl)
        refine st_take (a' := ?_) rfl rfl (y_pick (v := .bool false) rfl rfl rfl) ?_ ?_
        rotate_left; (simp only [Act.put, List.setIfInBounds_toArray, List.set_cons_zero, List.set_cons_succ]; rfl)
        refine st_take (a' := ?_) rfl rfl (y_move (v := .bool false) rfl rfl) ?_ ?_
        rotate_left; (simp only [Act.put, List.setIfInBounds_toArray, List.set_cons_zero, List.set_cons_succ]; rfl)
        refine st_take (a' := ?_) rfl rfl (y_field rfl rfl (fieldB_1 q)) ?_ ?_
        rotate_left; (simp only [Act.put, List.setIfInBounds_toArray, List.set_cons_zero, List.set_cons_succ]; rfl)
        refine st_take (a' := ?_) rfl rfl (y_load (v := .slice A j c) rfl rfl Try.isAgg22 (fun _ h => (h).cell 1)) ?_ ?_
        rotate_left; (simp only [Act.put, List.setIfInBounds_toArray, List.set_cons_zero, List.set_cons_succ]; rfl)
        refine st_take (a' := ?_) rfl rfl (y_move (v := .int .i64 ((k + 1 : Nat) : Int)) rfl rfl) ?_ ?_
        rotate_left; (simp only [Act.put, List.setIfInBounds_toArray, List.set_cons_zero, List.set_cons_succ]; rfl)
        refine st_take (a' := ?_) rfl rfl (y_bin (v := .int .i64 (k : Int)) rfl rfl rfl (r_sub (by omega) (by omega))) ?_ ?_
        rotate_left; (simp only [Act.put, List.setIfInBounds_toArray, List.set_cons_zero, List.set_cons_succ]; rfl)
        refine st_act rfl rfl fun K hK => a_call (args := #[.int .i64 (k : Int)]) rfl rfl (fun w => by kernel_rfl) (power_t k _ (by omega)) ?_
        rintro e w4 ⟨A5, n5, c5, m5, rfl, ho5, hl5, hv5, -, ht5, hm5⟩
        have hq4_1 := (show New _ _ from (Upd.refl _ _).drew).transNew hm5
        refine ⟨_, rfl, hK _ _ (hS _ hq4_1) ?_⟩
        simp only [Act.put, List.setIfInBounds_toArray, List.set_cons_zero, List.set_cons_succ]
        refine st_act rfl rfl fun K hK => a_call (args := #[.slice A j c, .slice A5 n5 c5]) rfl rfl (fun w => by kernel_rfl) (cmp_any A A5 j n5 c c5 _ m5 _ (Hk.out.2.2.1.new_ hq4_1) ho5.row (limbs_canon _) hl5 (trim_canon _) ht5) ?_
        rintro e w5 ⟨rfl, hm⟩
        rw [hv5, ← HE.out.2]
        have hm3 : New w4 w5 := (Upd.refl _ _).drewN' hm
        have hq4_2 := (show New _ _ from hq4_1).transNew hm3
        refine ⟨_, rfl, hK _ _ (hS _ hq4_2) ?_⟩
        simp only [Act.put, List.setIfInBounds_toArray, List.set_cons_zero, List.set_cons_succ]
        refine st_take (a' := ?_) rfl rfl (y_run (v := .bool false) fun w => by kernel_rfl) ?_ ?_
        rotate_left; (simp only [Act.put, List.setIfInBounds_toArray, List.set_cons_zero, List.set_cons_succ]; rfl)
        refine st_take (a' := ?_) rfl rfl (y_pick (v := .bool false) rfl rfl rfl) ?_ ?_
        rotate_left; (simp only [Act.put, List.setIfInBounds_toArray, List.set_cons_zero, List.set_cons_succ]; rfl)
        refine st_nil ?_
        have hd := (show New _ _ from hq4_2)
        clear hS hq4_1 hq4_2
        have hb4 := hb3.new_ hd
        have hbB4 := hbB3.new_ hd
        have hrow4 := Hk.out.2.2.1.new_ hd
        have hn4 := hn3.transNew hd
        have Hrow := hide (And.intro hrow4 hn4)
        have hqq : q ≠ w.heap.size + 1 := by omega
        have Hqq := hide hqq
        clear hb3 hbB3 hcan3 hn3 hd hm hm3 hm5 ho5 hl5 hv5 ht5 hrow4 hn4 hqq
        go_wp2_with fail
        have hS : ∀ w', New w5 w' → (Blk w' q 24 [.bool f, .slice A j c]) := fun w' hn => hb4.new_ hn
        refine wp_region_dm (fun w' => Blk w' q 24 [.bool f, .slice A j c]) [(0, true), (2, true), (3, true), (1, false), (4, false), (5, false), (6, false), (7, true)] (by kernel_rfl) (by kernel_rfl) (fun _ _ d _ _ h => by cases d <;> exact h) (hS _ (Upd.refl _ _).drew) ?_
        refine st_take (a' := ?_) rfl rfl (y_move (v := .int .i64 ((k + 1 : Nat) : Int)) rfl rfl) ?_ ?_
        rotate_left; (simp only [Act.put, List.setIfInBounds_toArray, List.set_cons_zero, List.set_cons_succ]; rfl)
        refine st_take (a' := ?_) rfl rfl (y_field rfl rfl (fieldB_1 q)) ?_ ?_
        rotate_left; (simp only [Act.put, List.setIfInBounds_toArray, List.set_cons_zero, List.set_cons_succ]; rfl)
        refine st_take (a' := ?_) rfl rfl (y_load (v := .slice A j c) rfl rfl Try.isAgg22 (fun _ h => (h).cell 1)) ?_ ?_
        rotate_left; (simp only [Act.put, List.setIfInBounds_toArray, List.set_cons_zero, List.set_cons_succ]; rfl)
        refine st_act rfl rfl fun K hK => a_call (args := #[.int .i64 ((k + 1 : Nat) : Int)]) rfl rfl (fun w => by kernel_rfl) (power_any (k + 1) _ hk) ?_
        rintro e w6 ⟨A5, n5, c5, m5, rfl, ho5, hl5, hv5, hn5, hm5⟩
        have hq5_1 := (show New _ _ from (Upd.refl _ _).drew).transNew hm5
        refine ⟨_, rfl, hK _ _ (hS _ hq5_1) ?_⟩
        simp only [Act.put, List.setIfInBounds_toArray, List.set_cons_zero, List.set_cons_succ]
        have hjn : j ≤ n5 := by rw [Hk.out.2.1, hn5]; refine canon_len_le (Nat.lt_of_lt_of_le Hk.out.2.2.2 ?_); rw [pow32]; exact Nat.pow_le_pow_right (by omega) (by omega)
        have hle : val (canon u.natAbs) ≤ val m5 := by rw [val_canon, hv5]; exact Nat.le_of_lt Hk.out.2.2.2
        refine st_act rfl rfl fun K hK => a_call (args := #[.slice A5 n5 c5, .slice A j c]) rfl rfl (fun w => by kernel_rfl) (less_any A5 A n5 j c5 c m5 _ _ ho5.row (Hrow.out.1.new_ hq5_1) hl5 (limbs_canon _) (by omega) hjn hle) ?_
        rintro e w7 ⟨A6, n6, c6, m6, rfl, ho6, hl6, hv6, -, hm6⟩
        have hq5_2 := (show New _ _ from hq5_1).transNew hm6
        refine ⟨_, rfl, hK _ _ (hS _ hq5_2) ?_⟩
        simp only [Act.put, List.setIfInBounds_toArray, List.set_cons_zero, List.set_cons_succ]
        refine st_act rfl rfl fun K hK => a_call (args := #[.slice A6 n6 c6, .bool true]) rfl rfl (fun w => by kernel_rfl) (made_any A6 n6 c6 m6 true _ ho6.row hl6) ?_
        rintro e w8 ⟨f7, A7, n7, c7, rfl, hcan, hm7⟩
        have hq5_3 := (show New _ _ from hq5_2).transNew hm7
        refine ⟨_, rfl, hK _ _ (hS _ hq5_3) ?_⟩
        simp only [Act.put, List.setIfInBounds_toArray, List.set_cons_zero, List.set_cons_succ]
        obtain ⟨w9, hw5_4, hcan9, hn9, g0, g1, hfar5_4⟩ := CanAt.store hcan (hbB4.new_ hq5_3) (Hrow.out.2.transNew hq5_3) (by omega)
        refine st_act rfl rfl fun K hK => a_store2 (b := (w.heap.size + 1)) (off := 0) (v0 := .bool f7) (v1 := (.slice A7 n7 c7)) rfl rfl rfl Try.sizeOf24 rfl rfl rfl ((hbB4.new_ hq5_3).cell 0) ((hbB4.new_ hq5_3).frozen 0) (((hbB4.new_ hq5_3).set_ 0 (.bool f7)).cell 1) (((hbB4.new_ hq5_3).set_ 0 (.bool f7)).frozen 1) ?_
        rw [← hw5_4]
        have hS5_4 : Blk w9 q 24 [.bool f, .slice A j c] := hfar5_4 _ _ _ (by omega) (hS _ hq5_3)
        refine hK _ _ hS5_4 ?_
        simp only [Act.put, List.setIfInBounds_toArray, List.set_cons_zero, List.set_cons_succ]
        refine st_take (a' := ?_) rfl rfl (y_assign (v := .int .i64 0) rfl rfl) ?_ ?_
        rotate_left; (simp only [Act.put, List.setIfInBounds_toArray, List.set_cons_zero, List.set_cons_succ]; rfl)
        refine st_nil ?_
        clear hS hq5_1 hq5_2 hq5_3 hfar5_4 hw5_4 hS5_4
        have hfin : sgn true (val m6) = asI ((k + 1 : Nat) : Int) z := by
          rw [HE.out.1, hv6, hv5, val_canon, pow_cast]
          have h1 := Hk.out.2.2.2
          have h2 := Hu.out.2.2.1
          simp only [sgn, if_true]
          omega
        rw [hfin] at hcan9
        have H9 := hide (And.intro hcan9 hn9)
        clear hcan hcan9 hn9 hfin hm5 hm6 hm7 hv5 hv6 hl5 hl6 ho5 ho6 hle hjn hn5
        go_wp2
        exact bodyPost_ret (v := .tuple #[.agg #[.bool f7, .slice A7 n7 c7], .int .i64 0]) (by simp [results, Try.results23, go_sem, g0, g1]) rfl ⟨f7, A7, n7, c7, by rw [Hk.out.1], H9.out.1, H9.out.2⟩
end Go.Proofs.Ytfhflpchfgkgcaa
