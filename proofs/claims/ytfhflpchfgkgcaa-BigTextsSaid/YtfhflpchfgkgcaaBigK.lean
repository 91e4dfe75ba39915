/- Add, Sub. -/
import Derived.Test.YtfhflpchfgkgcaaBigJ
namespace Go.Proofs.Ytfhflpchfgkgcaa
open Go.RowKit
set_option linter.unusedSimpArgs false
set_option linter.unusedVariables false
/-- Two boxes of numbers that came in, and the cells of a result. -/
theorem three_boxes (w : World) (t : TypeId) (x1 y1 x2 y2 x3 y3 : Value) : ∃ w1, w1 = ((w.alloc (.cells #[x1, y1] t)).alloc (.cells #[x2, y2] t)).alloc (.cells #[x3, y3] t) ∧ New w w1 ∧ Blk w1 w.heap.size t [x1, y1] ∧ Blk w1 (w.heap.size + 1) t [x2, y2] ∧ Blk w1 (w.heap.size + 2) t [x3, y3] ∧ w1.heap.size = w.heap.size + 3 := by
  refine ⟨_, rfl, (((Upd.refl _ _).alloc _).alloc _).alloc _, ((Blk.new w t [x1, y1]).alloc _).alloc _, ?_, ?_, by simp⟩
  · have := Blk.new (w.alloc (.cells #[x1, y1] t)) t [x2, y2]
    exact Blk.alloc (by simpa using this) _
  · have := Blk.new ((w.alloc (.cells #[x1, y1] t)).alloc (.cells #[x2, y2] t)) t [x3, y3]
    simpa using this
theorem BigAt.len {w : World} {x : Value} {z : Int} (h : BigAt w x z) : (canon z.natAbs).length ≤ 8 := (canon_len8 _).2 h.lt
theorem add_same {a b : Int} {d : Bool} (ha : d = decide (a < 0)) (hb : d = decide (b < 0)) : sgn d (a.natAbs + b.natAbs) = a + b := by
  cases d
  · have h1 : ¬ a < 0 := by simpa using ha.symm
    have h2 : ¬ b < 0 := by simpa using hb.symm
    simp [sgn]; omega
  · have h1 : a < 0 := by simpa using ha.symm
    have h2 : b < 0 := by simpa using hb.symm
    simp [sgn]; omega
theorem add_diff {a b : Int} {d d' : Bool} (ha : d = decide (a < 0)) (hb : d' = decide (b < 0)) (hne : d ≠ d') (hle : b.natAbs ≤ a.natAbs) : sgn d (a.natAbs - b.natAbs) = a + b := by
  cases d
  · have h1 : ¬ a < 0 := by simpa using ha.symm
    have h2 : b < 0 := by
      cases d'
      · exact absurd rfl hne
      · simpa using hb.symm
    simp [sgn]; omega
  · have h1 : a < 0 := by simpa using ha.symm
    have h2 : ¬ b < 0 := by
      cases d'
      · simpa using hb.symm
      · exact absurd rfl hne
    simp [sgn]; omega
set_option maxHeartbeats 3200000 in
theorem add_any (x y : Value) (a b : Int) (w : World) (hx : BigAt w x a) (hy : BigAt w y b) : Calls Try.prog 34 #[x, y] w (IsFits (a + b) w) := by
  obtain ⟨bx, Ax, nx, cx, rfl⟩ := hx.form
  obtain ⟨by_, Ay, ny, cy, rfl⟩ := hy.form
  obtain ⟨w1, hw1, hn1, hb1, hb2, hb3, -⟩ := three_boxes w 24 (.bool bx) (.slice Ax nx cx) (.bool by_) (.slice Ay ny cy) (.bool false) (.slice none 0 0)
  have ha := hx.new_ hn1
  have hb := hy.new_ hn1
  have hla := hx.len
  have hlb := hy.len
  have Hw1 := hide hw1
  clear hx hy hw1
  go_enter Try.func34, Try.ntmps34
  go_wp2_with fail
  rw [← Hw1.out]
  obtain ⟨q1, hq1⟩ : ∃ q, q = w.heap.size := ⟨_, rfl⟩
  obtain ⟨q2, hq2⟩ : ∃ q, q = w.heap.size + 1 := ⟨_, rfl⟩
  obtain ⟨q3, hq3⟩ : ∃ q, q = w.heap.size + 2 := ⟨_, rfl⟩
  rw [← hq3] at hb3 ⊢
  rw [← hq2] at hb2 ⊢
  rw [← hq1] at hb1 ⊢
  have hS : ∀ w', New w1 w' → (Blk w' q1 24 [.bool bx, .slice Ax nx cx] ∧ Blk w' q2 24 [.bool by_, .slice Ay ny cy]) := fun w' hn => ⟨hb1.new_ hn, hb2.new_ hn⟩
  refine wp_region_dm (fun w' => Blk w' q1 24 [.bool bx, .slice Ax nx cx] ∧ Blk w' q2 24 [.bool by_, .slice Ay ny cy]) [(0, true), (2, true), (1, false), (3, false), (4, true), (5, true)] (by kernel_rfl) (by kernel_rfl) (fun _ _ d _ _ h => by cases d <;> exact h) (hS _ (Upd.refl _ _).drew) ?_
  refine st_take (a' := ?_) rfl rfl (y_load2 rfl rfl Try.isAgg24 Try.sizeOf24 (fun _ h => h.1)) ?_ ?_
  rotate_left; (simp only [Act.put, List.setIfInBounds_toArray, List.set_cons_zero, List.set_cons_succ]; rfl)
  refine st_take (a' := ?_) rfl rfl (y_load2 rfl rfl Try.isAgg24 Try.sizeOf24 (fun _ h => h.2)) ?_ ?_
  rotate_left; (simp only [Act.put, List.setIfInBounds_toArray, List.set_cons_zero, List.set_cons_succ]; rfl)
  refine st_act rfl rfl fun K hK => a_call (args := #[.agg #[.bool bx, .slice Ax nx cx]]) rfl rfl (fun w => by kernel_rfl) (mag_any _ a _ (ha.new_ (Upd.refl _ _).drew)) ?_
  rintro e w2 ⟨A1, n1, c1, rfl, hl1, ho1, hm1⟩
  have hq1_1 := (show New _ _ from (Upd.refl _ _).drew).transNew hm1
  refine ⟨_, rfl, hK _ _ (hS _ hq1_1) ?_⟩
  simp only [Act.put, List.setIfInBounds_toArray, List.set_cons_zero, List.set_cons_succ]
  refine st_act rfl rfl fun K hK => a_call (args := #[.agg #[.bool by_, .slice Ay ny cy]]) rfl rfl (fun w => by kernel_rfl) (mag_any _ b _ (hb.new_ hq1_1)) ?_
  rintro e w3 ⟨A2, n2, c2, rfl, hl2, ho2, hm2⟩
  have hq1_2 := (show New _ _ from hq1_1).transNew hm2
  refine ⟨_, rfl, hK _ _ (hS _ hq1_2) ?_⟩
  simp only [Act.put, List.setIfInBounds_toArray, List.set_cons_zero, List.set_cons_succ]
  refine st_take (a' := ?_) rfl rfl (y_assign (v := .slice A1 n1 c1) rfl rfl) ?_ ?_
  rotate_left; (simp only [Act.put, List.setIfInBounds_toArray, List.set_cons_zero, List.set_cons_succ]; rfl)
  refine st_take (a' := ?_) rfl rfl (y_assign (v := .slice A2 n2 c2) rfl rfl) ?_ ?_
  rotate_left; (simp only [Act.put, List.setIfInBounds_toArray, List.set_cons_zero, List.set_cons_succ]; rfl)
  refine st_nil ?_
  have hn13 := (show New _ _ from hq1_2)
  clear hS hq1_1 hq1_2
  have ha3 := ha.new_ hn13
  have hb3' := hb.new_ hn13
  have hbA := hb1.new_ hn13
  have hbB := hb2.new_ hn13
  have hbC := hb3.new_ hn13
  have hr1 := (ho1.new_ hm2).row
  have hr2 := ho2.row
  have hn3 := hn1.transNew hn13
  have Hl := hide (And.intro hl1 hl2)
  have hs1 : n1 ≤ 8 := by omega
  have hs2 : n2 ≤ 8 := by omega
  clear ha hb hb1 hb2 hb3 hn1 hn13 hm1 hm2 ho1 ho2 hl1 hl2 hla hlb
  go_wp2_with fail
  have hS : ∀ w', New w3 w' → (Blk w' q1 24 [.bool bx, .slice Ax nx cx] ∧ Blk w' q2 24 [.bool by_, .slice Ay ny cy]) := fun w' hn => ⟨hbA.new_ hn, hbB.new_ hn⟩
  refine wp_region_dm (fun w' => Blk w' q1 24 [.bool bx, .slice Ax nx cx] ∧ Blk w' q2 24 [.bool by_, .slice Ay ny cy]) [(0, true), (2, true), (1, false), (3, false), (4, true), (5, true)] (by kernel_rfl) (by kernel_rfl) (fun _ _ d _ _ h => by cases d <;> exact h) (hS _ (Upd.refl _ _).drew) ?_
  refine st_take (a' := ?_) rfl rfl (y_load2 rfl rfl Try.isAgg24 Try.sizeOf24 (fun _ h => h.1)) ?_ ?_
  rotate_left; (simp only [Act.put, List.setIfInBounds_toArray, List.set_cons_zero, List.set_cons_succ]; rfl)
  refine st_take (a' := ?_) rfl rfl (y_load2 rfl rfl Try.isAgg24 Try.sizeOf24 (fun _ h => h.2)) ?_ ?_
  rotate_left; (simp only [Act.put, List.setIfInBounds_toArray, List.set_cons_zero, List.set_cons_succ]; rfl)
  refine st_act rfl rfl fun K hK => a_call (args := #[.agg #[.bool bx, .slice Ax nx cx]]) rfl rfl (fun w => by kernel_rfl) (neg_any _ a _ (ha3.new_ (Upd.refl _ _).drew)) ?_
  rintro e w4 ⟨da, rfl, hda, hm1⟩
  have hq2_1 := (show New _ _ from (Upd.refl _ _).drew).transNew hm1
  refine ⟨_, rfl, hK _ _ (hS _ hq2_1) ?_⟩
  simp only [Act.put, List.setIfInBounds_toArray, List.set_cons_zero, List.set_cons_succ]
  refine st_act rfl rfl fun K hK => a_call (args := #[.agg #[.bool by_, .slice Ay ny cy]]) rfl rfl (fun w => by kernel_rfl) (neg_any _ b _ (hb3'.new_ hq2_1)) ?_
  rintro e w5 ⟨db, rfl, hdb, hm2⟩
  have hq2_2 := (show New _ _ from hq2_1).transNew hm2
  refine ⟨_, rfl, hK _ _ (hS _ hq2_2) ?_⟩
  simp only [Act.put, List.setIfInBounds_toArray, List.set_cons_zero, List.set_cons_succ]
  refine st_take (a' := ?_) rfl rfl (y_run (v := .bool (da == db)) fun w => by cases da <;> cases db <;> kernel_rfl) ?_ ?_
  rotate_left; (simp only [Act.put, List.setIfInBounds_toArray, List.set_cons_zero, List.set_cons_succ]; rfl)
  refine st_take (a' := ?_) rfl rfl (y_assign (v := .bool (da == db)) rfl rfl) ?_ ?_
  rotate_left; (simp only [Act.put, List.setIfInBounds_toArray, List.set_cons_zero, List.set_cons_succ]; rfl)
  refine st_nil ?_
  have hn35 := (show New _ _ from hq2_2)
  clear hS hq2_1 hq2_2
  have ha5 := ha3.new_ hn35
  have hb5 := hb3'.new_ hn35
  have hbA5 := hbA.new_ hn35
  have hbB5 := hbB.new_ hn35
  have hbC5 := hbC.new_ hn35
  have hr15 := hr1.new_ hn35
  have hr25 := hr2.new_ hn35
  have hn5 := hn3.transNew hn35
  have Hd := hide (And.intro hda hdb)
  have Hq := hide (And.intro hq1 (And.intro hq2 hq3))
  clear ha3 hb3' hbA hbB hbC hr1 hr2 hn3 hn35 hm1 hm2 hda hdb hq1 hq2 hq3
  by_cases hdd : da = db
  · have hself : (da == db) = true := by simp [hdd]
    have Hdd := hide hdd
    clear hdd
    rw [hself]
    clear hself
    go_wp2_with fail
    have hqq : q1 ≠ q3 ∧ q2 ≠ q3 ∧ w.heap.size ≤ q3 := by have := Hq.out; omega
    obtain ⟨hqa, hqb, hqc⟩ := hqq
    have hS : ∀ w', New w5 w' → (Blk w' q1 24 [.bool bx, .slice Ax nx cx]) := fun w' hn => hbA5.new_ hn
    refine wp_region_dm (fun w' => Blk w' q1 24 [.bool bx, .slice Ax nx cx]) [(0, true), (1, true), (3, true), (2, false), (4, false), (5, false), (6, true), (7, true), (8, false), (9, true)] (by kernel_rfl) (by kernel_rfl) (fun _ _ d _ _ h => by cases d <;> exact h) (hS _ (Upd.refl _ _).drew) ?_
    refine st_take (a' := ?_) rfl rfl (y_move (v := .slice A1 n1 c1) rfl rfl) ?_ ?_
    rotate_left; (simp only [Act.put, List.setIfInBounds_toArray, List.set_cons_zero, List.set_cons_succ]; rfl)
    refine st_take (a' := ?_) rfl rfl (y_move (v := .slice A2 n2 c2) rfl rfl) ?_ ?_
    rotate_left; (simp only [Act.put, List.setIfInBounds_toArray, List.set_cons_zero, List.set_cons_succ]; rfl)
    refine st_take (a' := ?_) rfl rfl (y_load2 rfl rfl Try.isAgg24 Try.sizeOf24 (fun _ h => h)) ?_ ?_
    rotate_left; (simp only [Act.put, List.setIfInBounds_toArray, List.set_cons_zero, List.set_cons_succ]; rfl)
    refine st_act rfl rfl fun K hK => a_call (args := #[.slice A1 n1 c1, .slice A2 n2 c2]) rfl rfl (fun w => by kernel_rfl) (plus_any A1 A2 n1 n2 c1 c2 _ _ _ (hr15.new_ (Upd.refl _ _).drew) (hr25.new_ (Upd.refl _ _).drew) (limbs_canon _) (limbs_canon _) (by omega) (by omega)) ?_
    rintro e w6 ⟨A5, n5, c5, m5, rfl, ho5, hl5, hv5, hn5', hm5⟩
    have hq3_1 := (show New _ _ from (Upd.refl _ _).drew).transNew hm5
    refine ⟨_, rfl, hK _ _ (hS _ hq3_1) ?_⟩
    simp only [Act.put, List.setIfInBounds_toArray, List.set_cons_zero, List.set_cons_succ]
    refine st_act rfl rfl fun K hK => a_call (args := #[.agg #[.bool bx, .slice Ax nx cx]]) rfl rfl (fun w => by kernel_rfl) (neg_any _ a _ (ha5.new_ hq3_1)) ?_
    rintro e w7 ⟨da', rfl, hda', hm6⟩
    have hq3_2 := (show New _ _ from hq3_1).transNew hm6
    refine ⟨_, rfl, hK _ _ (hS _ hq3_2) ?_⟩
    simp only [Act.put, List.setIfInBounds_toArray, List.set_cons_zero, List.set_cons_succ]
    refine st_act rfl rfl fun K hK => a_call (args := #[.slice A5 n5 c5, .bool da']) rfl rfl (fun w => by kernel_rfl) (fits_any A5 n5 c5 m5 da' _ ((ho5.new_ hm6).row) hl5) ?_
    rintro e w8 ⟨f, A7, n7, c7, rfl, hcan, hm7⟩
    have hq3_3 := (show New _ _ from hq3_2).transNew hm7
    refine ⟨_, rfl, hK _ _ (hS _ hq3_3) ?_⟩
    simp only [Act.put, List.setIfInBounds_toArray, List.set_cons_zero, List.set_cons_succ]
    refine st_take (a' := ?_) rfl rfl (y_extract (v := .agg #[.bool f, .slice A7 n7 c7]) rfl rfl rfl) ?_ ?_
    rotate_left; (simp only [Act.put, List.setIfInBounds_toArray, List.set_cons_zero, List.set_cons_succ]; rfl)
    refine st_take (a' := ?_) rfl rfl (y_extract (v := .bool (okI (sgn da' (val m5)))) rfl rfl rfl) ?_ ?_
    rotate_left; (simp only [Act.put, List.setIfInBounds_toArray, List.set_cons_zero, List.set_cons_succ]; rfl)
    obtain ⟨w9, hw3_4, hcan9, hn9, g0, g1, hfar3_4⟩ := CanAt.store hcan (hbC5.new_ hq3_3) (hn5.transNew hq3_3) hqc
    refine st_act rfl rfl fun K hK => a_store2 (b := q3) (off := 0) (v0 := .bool f) (v1 := (.slice A7 n7 c7)) rfl rfl rfl Try.sizeOf24 rfl rfl rfl ((hbC5.new_ hq3_3).cell 0) ((hbC5.new_ hq3_3).frozen 0) (((hbC5.new_ hq3_3).set_ 0 (.bool f)).cell 1) (((hbC5.new_ hq3_3).set_ 0 (.bool f)).frozen 1) ?_
    rw [← hw3_4]
    have hS3_4 : Blk w9 q1 24 [.bool bx, .slice Ax nx cx] := hfar3_4 _ _ _ (by omega) (hS _ hq3_3)
    refine hK _ _ hS3_4 ?_
    simp only [Act.put, List.setIfInBounds_toArray, List.set_cons_zero, List.set_cons_succ]
    refine st_take (a' := ?_) rfl rfl (y_assign (v := .bool (okI (sgn da' (val m5)))) rfl rfl) ?_ ?_
    rotate_left; (simp only [Act.put, List.setIfInBounds_toArray, List.set_cons_zero, List.set_cons_succ]; rfl)
    refine st_nil ?_
    clear hS hq3_1 hq3_2 hq3_3 hfar3_4 hw3_4 hS3_4
    have hfin : sgn da' (val m5) = a + b := by
      rw [hv5, val_canon, val_canon]
      exact add_same hda' (by rw [hda', ← Hd.out.1, Hdd.out]; exact Hd.out.2)
    rw [hfin] at hcan9 ⊢
    have H9 := hide (And.intro hcan9 hn9)
    obtain ⟨ok, hok⟩ : ∃ ok, ok = okI (a + b) := ⟨_, rfl⟩
    rw [← hok]
    have Hok := hide hok
    clear hcan hcan9 hn9 hfin hok hm5 hm6 hm7 hv5 hl5 ho5 hda'
    go_wp2
    exact bodyPost_ret (v := .tuple #[.agg #[.bool f, .slice A7 n7 c7], .bool ok]) (by simp [results, Try.results34, go_sem, g0, g1]) rfl ⟨f, A7, n7, c7, by rw [Hok.out], H9.out.1, H9.out.2⟩
  · have hself : (da == db) = false := by simp [hdd]
    have Hdd := hide hdd
    clear hdd
    rw [hself]
    clear hself
    go_wp2_with fail
    refine (cmp_any A1 A2 n1 n2 c1 c2 _ _ _ hr15 hr25 (limbs_canon _) (limbs_canon _) (trim_canon _) (trim_canon _)).mono ?_
    rintro e w6 ⟨rfl, hm6⟩
    rw [val_canon, val_canon]
    obtain ⟨r, hr⟩ : ∃ r, r = cmpI a.natAbs b.natAbs := ⟨_, rfl⟩
    rw [← hr]
    have hn56 : New w5 w6 := (Upd.refl _ _).drewN' hm6
    have ha6 := ha5.new_ hn56
    have hb6 := hb5.new_ hn56
    have hbA6 := hbA5.new_ hn56
    have hbB6 := hbB5.new_ hn56
    have hbC6 := hbC5.new_ hn56
    have hr16 := hr15.new_ hn56
    have hr26 := hr25.new_ hn56
    have hn6 := hn5.transNew hn56
    clear ha5 hb5 hbA5 hbB5 hbC5 hr15 hr25 hn5 hn56 hm6
    have hqq : q1 ≠ q3 ∧ q2 ≠ q3 ∧ w.heap.size ≤ q3 := by have := Hq.out; omega
    obtain ⟨hqa, hqb, hqc⟩ := hqq
    by_cases hlt : a.natAbs < b.natAbs
    · have hr0 : r < 0 := by rw [hr, cmpI, if_pos hlt]; omega
      have hlen : n1 ≤ n2 := by
        rw [Hl.out.1, Hl.out.2]
        refine canon_len_le (Nat.lt_trans hlt ?_)
        have h := val_lt (limbs_canon b.natAbs)
        rwa [val_canon] at h
      have hle : val (canon a.natAbs) ≤ val (canon b.natAbs) := by rw [val_canon, val_canon]; omega
      have Hle := hide (And.intro hle hlt)
      clear hr hle hlt
      go_wp2_with fail
      have hS : ∀ w', New w6 w' → (Blk w' q2 24 [.bool by_, .slice Ay ny cy]) := fun w' hn => hbB6.new_ hn
      refine wp_region_dm (fun w' => Blk w' q2 24 [.bool by_, .slice Ay ny cy]) [(0, true), (1, true), (3, true), (2, false), (4, false), (5, false), (6, true), (7, true), (8, false), (9, true)] (by kernel_rfl) (by kernel_rfl) (fun _ _ d _ _ h => by cases d <;> exact h) (hS _ (Upd.refl _ _).drew) ?_
      refine st_take (a' := ?_) rfl rfl (y_move (v := .slice A2 n2 c2) rfl rfl) ?_ ?_
      rotate_left; (simp only [Act.put, List.setIfInBounds_toArray, List.set_cons_zero, List.set_cons_succ]; rfl)
      refine st_take (a' := ?_) rfl rfl (y_move (v := .slice A1 n1 c1) rfl rfl) ?_ ?_
      rotate_left; (simp only [Act.put, List.setIfInBounds_toArray, List.set_cons_zero, List.set_cons_succ]; rfl)
      refine st_take (a' := ?_) rfl rfl (y_load2 rfl rfl Try.isAgg24 Try.sizeOf24 (fun _ h => h)) ?_ ?_
      rotate_left; (simp only [Act.put, List.setIfInBounds_toArray, List.set_cons_zero, List.set_cons_succ]; rfl)
      refine st_act rfl rfl fun K hK => a_call (args := #[.slice A2 n2 c2, .slice A1 n1 c1]) rfl rfl (fun w => by kernel_rfl) (less_any A2 A1 n2 n1 c2 c1 _ _ _ (hr26.new_ (Upd.refl _ _).drew) (hr16.new_ (Upd.refl _ _).drew) (limbs_canon _) (limbs_canon _) (by omega) hlen Hle.out.1) ?_
      rintro e w7 ⟨A5, n5, c5, m5, rfl, ho5, hl5, hv5, hn5', hm5⟩
      have hq4_1 := (show New _ _ from (Upd.refl _ _).drew).transNew hm5
      refine ⟨_, rfl, hK _ _ (hS _ hq4_1) ?_⟩
      simp only [Act.put, List.setIfInBounds_toArray, List.set_cons_zero, List.set_cons_succ]
      refine st_act rfl rfl fun K hK => a_call (args := #[.agg #[.bool by_, .slice Ay ny cy]]) rfl rfl (fun w => by kernel_rfl) (neg_any _ b _ (hb6.new_ hq4_1)) ?_
      rintro e w8 ⟨da', rfl, hda', hm6⟩
      have hq4_2 := (show New _ _ from hq4_1).transNew hm6
      refine ⟨_, rfl, hK _ _ (hS _ hq4_2) ?_⟩
      simp only [Act.put, List.setIfInBounds_toArray, List.set_cons_zero, List.set_cons_succ]
      refine st_act rfl rfl fun K hK => a_call (args := #[.slice A5 n5 c5, .bool da']) rfl rfl (fun w => by kernel_rfl) (fits_any A5 n5 c5 m5 da' _ ((ho5.new_ hm6).row) hl5) ?_
      rintro e w9 ⟨f, A7, n7, c7, rfl, hcan, hm7⟩
      have hq4_3 := (show New _ _ from hq4_2).transNew hm7
      refine ⟨_, rfl, hK _ _ (hS _ hq4_3) ?_⟩
      simp only [Act.put, List.setIfInBounds_toArray, List.set_cons_zero, List.set_cons_succ]
      refine st_take (a' := ?_) rfl rfl (y_extract (v := .agg #[.bool f, .slice A7 n7 c7]) rfl rfl rfl) ?_ ?_
      rotate_left; (simp only [Act.put, List.setIfInBounds_toArray, List.set_cons_zero, List.set_cons_succ]; rfl)
      refine st_take (a' := ?_) rfl rfl (y_extract (v := .bool (okI (sgn da' (val m5)))) rfl rfl rfl) ?_ ?_
      rotate_left; (simp only [Act.put, List.setIfInBounds_toArray, List.set_cons_zero, List.set_cons_succ]; rfl)
      obtain ⟨w10, hw4_4, hcan9, hn9, g0, g1, hfar4_4⟩ := CanAt.store hcan (hbC6.new_ hq4_3) (hn6.transNew hq4_3) hqc
      refine st_act rfl rfl fun K hK => a_store2 (b := q3) (off := 0) (v0 := .bool f) (v1 := (.slice A7 n7 c7)) rfl rfl rfl Try.sizeOf24 rfl rfl rfl ((hbC6.new_ hq4_3).cell 0) ((hbC6.new_ hq4_3).frozen 0) (((hbC6.new_ hq4_3).set_ 0 (.bool f)).cell 1) (((hbC6.new_ hq4_3).set_ 0 (.bool f)).frozen 1) ?_
      rw [← hw4_4]
      have hS4_4 : Blk w10 q2 24 [.bool by_, .slice Ay ny cy] := hfar4_4 _ _ _ (by omega) (hS _ hq4_3)
      refine hK _ _ hS4_4 ?_
      simp only [Act.put, List.setIfInBounds_toArray, List.set_cons_zero, List.set_cons_succ]
      refine st_take (a' := ?_) rfl rfl (y_assign (v := .bool (okI (sgn da' (val m5)))) rfl rfl) ?_ ?_
      rotate_left; (simp only [Act.put, List.setIfInBounds_toArray, List.set_cons_zero, List.set_cons_succ]; rfl)
      refine st_nil ?_
      clear hS hq4_1 hq4_2 hq4_3 hfar4_4 hw4_4 hS4_4
      have hfin : sgn da' (val m5) = a + b := by
        rw [hv5, val_canon, val_canon, Int.add_comm]
        exact add_diff hda' Hd.out.1 (by rw [hda', ← Hd.out.2]; exact fun h => Hdd.out h.symm) (Nat.le_of_lt Hle.out.2)
      rw [hfin] at hcan9 ⊢
      have H9 := hide (And.intro hcan9 hn9)
      obtain ⟨ok, hok⟩ : ∃ ok, ok = okI (a + b) := ⟨_, rfl⟩
      rw [← hok]
      have Hok := hide hok
      clear hcan hcan9 hn9 hfin hok hm5 hm6 hm7 hv5 hl5 ho5 hda'
      go_wp2
      exact bodyPost_ret (v := .tuple #[.agg #[.bool f, .slice A7 n7 c7], .bool ok]) (by simp [results, Try.results34, go_sem, g0, g1]) rfl ⟨f, A7, n7, c7, by rw [Hok.out], H9.out.1, H9.out.2⟩
    · have hr0 : 0 ≤ r := by rw [hr, cmpI, if_neg hlt]; split <;> omega
      have hlen : n2 ≤ n1 := by
        rw [Hl.out.1, Hl.out.2]
        refine canon_len_le (Nat.lt_of_le_of_lt (by omega : b.natAbs ≤ a.natAbs) ?_)
        have h := val_lt (limbs_canon a.natAbs)
        rwa [val_canon] at h
      have hle : val (canon b.natAbs) ≤ val (canon a.natAbs) := by rw [val_canon, val_canon]; omega
      have Hle := hide (And.intro hle hlt)
      clear hr hle hlt
      go_wp2_with fail
      have hS : ∀ w', New w6 w' → (Blk w' q1 24 [.bool bx, .slice Ax nx cx]) := fun w' hn => hbA6.new_ hn
      refine wp_region_dm (fun w' => Blk w' q1 24 [.bool bx, .slice Ax nx cx]) [(0, true), (1, true), (3, true), (2, false), (4, false), (5, false), (6, true), (7, true), (8, false), (9, true)] (by kernel_rfl) (by kernel_rfl) (fun _ _ d _ _ h => by cases d <;> exact h) (hS _ (Upd.refl _ _).drew) ?_
      refine st_take (a' := ?_) rfl rfl (y_move (v := .slice A1 n1 c1) rfl rfl) ?_ ?_
      rotate_left; (simp only [Act.put, List.setIfInBounds_toArray, List.set_cons_zero, List.set_cons_succ]; rfl)
      refine st_take (a' := ?_) rfl rfl (y_move (v := .slice A2 n2 c2) rfl rfl) ?_ ?_
      rotate_left; (simp only [Act.put, List.setIfInBounds_toArray, List.set_cons_zero, List.set_cons_succ]; rfl)
      refine st_take (a' := ?_) rfl rfl (y_load2 rfl rfl Try.isAgg24 Try.sizeOf24 (fun _ h => h)) ?_ ?_
      rotate_left; (simp only [Act.put, List.setIfInBounds_toArray, List.set_cons_zero, List.set_cons_succ]; rfl)
      refine st_act rfl rfl fun K hK => a_call (args := #[.slice A1 n1 c1, .slice A2 n2 c2]) rfl rfl (fun w => by kernel_rfl) (less_any A1 A2 n1 n2 c1 c2 _ _ _ (hr16.new_ (Upd.refl _ _).drew) (hr26.new_ (Upd.refl _ _).drew) (limbs_canon _) (limbs_canon _) (by omega) hlen Hle.out.1) ?_
      rintro e w7 ⟨A5, n5, c5, m5, rfl, ho5, hl5, hv5, hn5', hm5⟩
      have hq5_1 := (show New _ _ from (Upd.refl _ _).drew).transNew hm5
      refine ⟨_, rfl, hK _ _ (hS _ hq5_1) ?_⟩
      simp only [Act.put, List.setIfInBounds_toArray, List.set_cons_zero, List.set_cons_succ]
      refine st_act rfl rfl fun K hK => a_call (args := #[.agg #[.bool bx, .slice Ax nx cx]]) rfl rfl (fun w => by kernel_rfl) (neg_any _ a _ (ha6.new_ hq5_1)) ?_
      rintro e w8 ⟨da', rfl, hda', hm6⟩
      have hq5_2 := (show New _ _ from hq5_1).transNew hm6
      refine ⟨_, rfl, hK _ _ (hS _ hq5_2) ?_⟩
      simp only [Act.put, List.setIfInBounds_toArray, List.set_cons_zero, List.set_cons_succ]
      refine st_act rfl rfl fun K hK => a_call (args := #[.slice A5 n5 c5, .bool da']) rfl rfl (fun w => by kernel_rfl) (fits_any A5 n5 c5 m5 da' _ ((ho5.new_ hm6).row) hl5) ?_
      rintro e w9 ⟨f, A7, n7, c7, rfl, hcan, hm7⟩
      have hq5_3 := (show New _ _ from hq5_2).transNew hm7
      refine ⟨_, rfl, hK _ _ (hS _ hq5_3) ?_⟩
      simp only [Act.put, List.setIfInBounds_toArray, List.set_cons_zero, List.set_cons_succ]
      refine st_take (a' := ?_) rfl rfl (y_extract (v := .agg #[.bool f, .slice A7 n7 c7]) rfl rfl rfl) ?_ ?_
      rotate_left; (simp only [Act.put, List.setIfInBounds_toArray, List.set_cons_zero, List.set_cons_succ]; rfl)
      refine st_take (a' := ?_) rfl rfl (y_extract (v := .bool (okI (sgn da' (val m5)))) rfl rfl rfl) ?_ ?_
      rotate_left; (simp only [Act.put, List.setIfInBounds_toArray, List.set_cons_zero, List.set_cons_succ]; rfl)
      obtain ⟨w10, hw5_4, hcan9, hn9, g0, g1, hfar5_4⟩ := CanAt.store hcan (hbC6.new_ hq5_3) (hn6.transNew hq5_3) hqc
      refine st_act rfl rfl fun K hK => a_store2 (b := q3) (off := 0) (v0 := .bool f) (v1 := (.slice A7 n7 c7)) rfl rfl rfl Try.sizeOf24 rfl rfl rfl ((hbC6.new_ hq5_3).cell 0) ((hbC6.new_ hq5_3).frozen 0) (((hbC6.new_ hq5_3).set_ 0 (.bool f)).cell 1) (((hbC6.new_ hq5_3).set_ 0 (.bool f)).frozen 1) ?_
      rw [← hw5_4]
      have hS5_4 : Blk w10 q1 24 [.bool bx, .slice Ax nx cx] := hfar5_4 _ _ _ (by omega) (hS _ hq5_3)
      refine hK _ _ hS5_4 ?_
      simp only [Act.put, List.setIfInBounds_toArray, List.set_cons_zero, List.set_cons_succ]
      refine st_take (a' := ?_) rfl rfl (y_assign (v := .bool (okI (sgn da' (val m5)))) rfl rfl) ?_ ?_
      rotate_left; (simp only [Act.put, List.setIfInBounds_toArray, List.set_cons_zero, List.set_cons_succ]; rfl)
      refine st_nil ?_
      clear hS hq5_1 hq5_2 hq5_3 hfar5_4 hw5_4 hS5_4
      have hfin : sgn da' (val m5) = a + b := by
        rw [hv5, val_canon, val_canon]
        exact add_diff hda' Hd.out.2 (by rw [hda', ← Hd.out.1]; exact Hdd.out) (by have := Hle.out.2; omega)
      rw [hfin] at hcan9 ⊢
      have H9 := hide (And.intro hcan9 hn9)
      obtain ⟨ok, hok⟩ : ∃ ok, ok = okI (a + b) := ⟨_, rfl⟩
      rw [← hok]
      have Hok := hide hok
      clear hcan hcan9 hn9 hfin hok hm5 hm6 hm7 hv5 hl5 ho5 hda'
      go_wp2
      exact bodyPost_ret (v := .tuple #[.agg #[.bool f, .slice A7 n7 c7], .bool ok]) (by simp [results, Try.results34, go_sem, g0, g1]) rfl ⟨f, A7, n7, c7, by rw [Hok.out], H9.out.1, H9.out.2⟩
end Go.Proofs.Ytfhflpchfgkgcaa
