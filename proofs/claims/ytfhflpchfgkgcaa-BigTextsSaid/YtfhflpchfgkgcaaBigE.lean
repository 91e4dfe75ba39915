/- Neg, Cmp, Same. -/
import Derived.Test.YtfhflpchfgkgcaaBigD
import Derived.Test.YtfhflpchfgkgcaaReg2
namespace Go.Proofs.Ytfhflpchfgkgcaa
open Go.RowKit
set_option linter.unusedSimpArgs false
set_option linter.unusedVariables false

theorem fieldB_0 (g : Nat) (w : World) : (Instr.fieldAt 24 (.pointer (some ⟨g, 0, none⟩)) 0).run Try.prog w = .ok (.pointer (some ⟨g, 0, none⟩)) w := by kernel_rfl
theorem fieldB_1 (g : Nat) (w : World) : (Instr.fieldAt 24 (.pointer (some ⟨g, 0, none⟩)) 1).run Try.prog w = .ok (.pointer (some ⟨g, 1, none⟩)) w := by kernel_rfl
def IsZ (z : Int) (w : World) (e : Ending) (w' : World) : Prop := ∃ f A n c, e = .returned (.agg #[.bool f, .slice A n c]) ∧ CanAt w' (.agg #[.bool f, .slice A n c]) z ∧ New w w'
theorem BigAt.form {w : World} {x : Value} {z : Int} (h : BigAt w x z) : ∃ b A n c, x = .agg #[.bool b, .slice A n c] := by
  obtain ⟨b, v, m, rfl, hr, _⟩ := h
  obtain ⟨A, c, rfl⟩ := hr.form
  exact ⟨b, A, _, c, rfl⟩
set_option maxHeartbeats 800000 in
theorem negz_any (x : Value) (z : Int) (w : World) (h : BigAt w x z) : Calls Try.prog 33 #[x] w (IsZ (-z) w) := by
  obtain ⟨b, A, n, c, rfl⟩ := h.form
  obtain ⟨w1, hw1⟩ : ∃ w1, w1 = (w.alloc (.cells #[.bool b, .slice A n c] 24)).alloc (.cells #[.bool false, .slice none 0 0] 24) := ⟨_, rfl⟩
  have hn1 : New w w1 := by rw [hw1]; exact ((Upd.refl _ _).alloc _).alloc _
  have hb1 : Blk w1 w.heap.size 24 [.bool b, .slice A n c] := by rw [hw1]; exact (Blk.new w _ _).alloc _
  have hb2 : Blk w1 (w.heap.size + 1) 24 [.bool false, .slice none 0 0] := by
    rw [hw1]
    have := Blk.new (w.alloc (.cells #[.bool b, .slice A n c] 24)) 24 [.bool false, .slice none 0 0]
    simpa using this
  have hz := h.new_ hn1
  have Hw1 := hide hw1
  clear h hw1
  go_enter Try.func33, Try.ntmps33
  go_wp2_with fail
  rw [← Hw1.out]
  obtain ⟨q1, hq1⟩ : ∃ q, q = w.heap.size := ⟨_, rfl⟩
  obtain ⟨q2, hq2⟩ : ∃ q, q = w.heap.size + 1 := ⟨_, rfl⟩
  rw [← hq2] at hb2 ⊢
  rw [← hq1] at hb1 ⊢
  have hS : ∀ w', New w1 w' → (Blk w' q1 24 [.bool b, .slice A n c]) := fun w' hn => hb1.new_ hn
  refine wp_region_dm (fun w' => Blk w' q1 24 [.bool b, .slice A n c]) [(0, true), (2, true), (1, false), (3, false), (4, true), (5, false), (6, false)] (by kernel_rfl) (by kernel_rfl) (fun _ _ d _ _ h => by cases d <;> exact h) (hS _ (Upd.refl _ _).drew) ?_
  refine st_take (a' := ?_) rfl rfl (y_load2 rfl rfl Try.isAgg24 Try.sizeOf24 (fun _ h => h)) ?_ ?_
  rotate_left; (simp only [Act.put, List.setIfInBounds_toArray, List.set_cons_zero, List.set_cons_succ]; rfl)
  refine st_take (a' := ?_) rfl rfl (y_load2 rfl rfl Try.isAgg24 Try.sizeOf24 (fun _ h => h)) ?_ ?_
  rotate_left; (simp only [Act.put, List.setIfInBounds_toArray, List.set_cons_zero, List.set_cons_succ]; rfl)
  refine st_act rfl rfl fun K hK => a_call (args := #[.agg #[.bool b, .slice A n c]]) rfl rfl (fun w => by kernel_rfl) (mag_any _ z _ (hz.new_ (Upd.refl _ _).drew)) ?_
  rintro e w2 ⟨A1, n1, c1, rfl, hl1, ho1, hm1⟩
  have hq1_1 := (show New _ _ from (Upd.refl _ _).drew).transNew hm1
  refine ⟨_, rfl, hK _ _ (hS _ hq1_1) ?_⟩
  simp only [Act.put, List.setIfInBounds_toArray, List.set_cons_zero, List.set_cons_succ]
  refine st_act rfl rfl fun K hK => a_call (args := #[.agg #[.bool b, .slice A n c]]) rfl rfl (fun w => by kernel_rfl) (neg_any _ z _ (hz.new_ hq1_1)) ?_
  rintro e w3 ⟨d, rfl, hd, hm2⟩
  have hq1_2 := (show New _ _ from hq1_1).transNew hm2
  refine ⟨_, rfl, hK _ _ (hS _ hq1_2) ?_⟩
  simp only [Act.put, List.setIfInBounds_toArray, List.set_cons_zero, List.set_cons_succ]
  refine st_take (a' := ?_) rfl rfl (y_notb rfl rfl) ?_ ?_
  rotate_left; (simp only [Act.put, List.setIfInBounds_toArray, List.set_cons_zero, List.set_cons_succ]; rfl)
  refine st_act rfl rfl fun K hK => a_call (args := #[.slice A1 n1 c1, .bool (!d)]) rfl rfl (fun w => by kernel_rfl) (made_any A1 n1 c1 (canon z.natAbs) (!d) _ ((ho1.new_ hm2).row) (limbs_canon _)) ?_
  rintro e w4 ⟨f, A4, n4, c4, rfl, hcan, hm3⟩
  have hq1_3 := (show New _ _ from hq1_2).transNew hm3
  refine ⟨_, rfl, hK _ _ (hS _ hq1_3) ?_⟩
  simp only [Act.put, List.setIfInBounds_toArray, List.set_cons_zero, List.set_cons_succ]
  obtain ⟨w5, hw1_4, hcan5, hn5, g0, g1, hfar1_4⟩ := CanAt.store hcan (hb2.new_ hq1_3) (hn1.transNew hq1_3) (by omega)
  refine st_act rfl rfl fun K hK => a_store2 (b := q2) (off := 0) (v0 := .bool f) (v1 := (.slice A4 n4 c4)) rfl rfl rfl Try.sizeOf24 rfl rfl rfl ((hb2.new_ hq1_3).cell 0) ((hb2.new_ hq1_3).frozen 0) (((hb2.new_ hq1_3).set_ 0 (.bool f)).cell 1) (((hb2.new_ hq1_3).set_ 0 (.bool f)).frozen 1) ?_
  rw [← hw1_4]
  have hS1_4 : Blk w5 q1 24 [.bool b, .slice A n c] := hfar1_4 _ _ _ (by omega) (hS _ hq1_3)
  refine hK _ _ hS1_4 ?_
  simp only [Act.put, List.setIfInBounds_toArray, List.set_cons_zero, List.set_cons_succ]
  refine st_nil ?_
  clear hS hq1_1 hq1_2 hq1_3 hfar1_4 hw1_4 hS1_4
  have hfin : sgn (!d) (val (canon z.natAbs)) = -z := by
    rw [val_canon, hd]
    unfold sgn
    by_cases h : z < 0
    · rw [decide_eq_true h]; simp; omega
    · rw [decide_eq_false h]; simp; omega
  rw [hfin] at hcan5
  have H5 := hide (And.intro hcan5 hn5)
  clear hcan hcan5 hn5 hfin
  go_wp2
  exact bodyPost_ret (v := .agg #[.bool f, .slice A4 n4 c4]) (by simp [results, Try.results33, go_sem, g0, g1]) rfl ⟨f, A4, n4, c4, rfl, H5.out.1, H5.out.2⟩
/-- Two boxes of numbers that came in. -/
theorem two_boxes (w : World) (t : TypeId) (x1 y1 x2 y2 : Value) : ∃ w1, w1 = (w.alloc (.cells #[x1, y1] t)).alloc (.cells #[x2, y2] t) ∧ New w w1 ∧ Blk w1 w.heap.size t [x1, y1] ∧ Blk w1 (w.heap.size + 1) t [x2, y2] ∧ w1.heap.size = w.heap.size + 2 := by
  refine ⟨_, rfl, ((Upd.refl _ _).alloc _).alloc _, (Blk.new w t [x1, y1]).alloc _, ?_, by simp⟩
  have := Blk.new (w.alloc (.cells #[x1, y1] t)) t [x2, y2]
  simpa using this
/-- How two numbers lie to one another. -/
def cmpZ (a b : Int) : Int := if a < b then -1 else if b < a then 1 else 0
def IsInt (r : Int) (w : World) (e : Ending) (w' : World) : Prop := e = .returned (.int .i64 r) ∧ New w w'
theorem cmpZ_np {a b : Int} (ha : a < 0) (hb : ¬ b < 0) : cmpZ a b = -1 := by unfold cmpZ; rw [if_pos (by omega)]
theorem cmpZ_pn {a b : Int} (ha : ¬ a < 0) (hb : b < 0) : cmpZ a b = 1 := by unfold cmpZ; rw [if_neg (by omega), if_pos (by omega)]
theorem cmpZ_nn {a b : Int} (ha : a < 0) (hb : b < 0) : cmpI b.natAbs a.natAbs = cmpZ a b := by
  unfold cmpZ cmpI
  by_cases h : a < b
  · rw [if_pos h, if_pos (by omega)]
  · by_cases h2 : b < a
    · rw [if_neg h, if_pos h2, if_neg (by omega), if_pos (by omega)]
    · rw [if_neg h, if_neg h2, if_neg (by omega), if_neg (by omega)]
theorem cmpZ_pp {a b : Int} (ha : ¬ a < 0) (hb : ¬ b < 0) : cmpI a.natAbs b.natAbs = cmpZ a b := by
  unfold cmpZ cmpI
  by_cases h : a < b
  · rw [if_pos h, if_pos (by omega)]
  · by_cases h2 : b < a
    · rw [if_neg h, if_pos h2, if_neg (by omega), if_pos (by omega)]
    · rw [if_neg h, if_neg h2, if_neg (by omega), if_neg (by omega)]
theorem Upd.drewN' {F : Nat → Prop} {a w w' : World} (h : Upd F a w) (hd : ∃ m, w' = w.drewN m) : Upd F a w' := by
  obtain ⟨m, rfl⟩ := hd
  exact h.drewN m
set_option maxHeartbeats 1600000 in
theorem cmpz_any (x y : Value) (a b : Int) (w : World) (hx : BigAt w x a) (hy : BigAt w y b) : Calls Try.prog 32 #[x, y] w (IsInt (cmpZ a b) w) := by
  obtain ⟨bx, Ax, nx, cx, rfl⟩ := hx.form
  obtain ⟨by_, Ay, ny, cy, rfl⟩ := hy.form
  obtain ⟨w1, hw1, hn1, hb1, hb2, -⟩ := two_boxes w 24 (.bool bx) (.slice Ax nx cx) (.bool by_) (.slice Ay ny cy)
  have ha := hx.new_ hn1
  have hb := hy.new_ hn1
  have Hw1 := hide hw1
  clear hx hy hw1
  go_enter Try.func32, Try.ntmps32
  go_wp2_with fail
  rw [← Hw1.out]
  obtain ⟨q1, hq1⟩ : ∃ q, q = w.heap.size := ⟨_, rfl⟩
  obtain ⟨q2, hq2⟩ : ∃ q, q = w.heap.size + 1 := ⟨_, rfl⟩
  rw [← hq2] at hb2 ⊢
  rw [← hq1] at hb1 ⊢
  have hS : ∀ w', New w1 w' → (Blk w' q1 24 [.bool bx, .slice Ax nx cx] ∧ Blk w' q2 24 [.bool by_, .slice Ay ny cy]) := fun w' hn => ⟨hb1.new_ hn, hb2.new_ hn⟩
  refine wp_region_dm (fun w' => Blk w' q1 24 [.bool bx, .slice Ax nx cx] ∧ Blk w' q2 24 [.bool by_, .slice Ay ny cy]) [(0, true), (2, true), (1, false), (3, false), (4, true), (5, true)] (by kernel_rfl) (by kernel_rfl) (fun _ _ d _ _ h => by cases d <;> exact h) (hS _ (Upd.refl _ _).drew) ?_
  refine st_take (a' := ?_) rfl rfl (y_load2 rfl rfl Try.isAgg24 Try.sizeOf24 (fun _ h => h.1)) ?_ ?_
  rotate_left; (simp only [Act.put, List.setIfInBounds_toArray, List.set_cons_zero, List.set_cons_succ]; rfl)
  refine st_take (a' := ?_) rfl rfl (y_load2 rfl rfl Try.isAgg24 Try.sizeOf24 (fun _ h => h.2)) ?_ ?_
  rotate_left; (simp only [Act.put, List.setIfInBounds_toArray, List.set_cons_zero, List.set_cons_succ]; rfl)
  refine st_act rfl rfl fun K hK => a_call (args := #[.agg #[.bool bx, .slice Ax nx cx]]) rfl rfl (fun w => by kernel_rfl) (neg_any _ a _ (ha.new_ (Upd.refl _ _).drew)) ?_
  rintro e w2 ⟨da, rfl, hda, hm1⟩
  have hq2_1 := (show New _ _ from (Upd.refl _ _).drew).transNew hm1
  refine ⟨_, rfl, hK _ _ (hS _ hq2_1) ?_⟩
  simp only [Act.put, List.setIfInBounds_toArray, List.set_cons_zero, List.set_cons_succ]
  refine st_act rfl rfl fun K hK => a_call (args := #[.agg #[.bool by_, .slice Ay ny cy]]) rfl rfl (fun w => by kernel_rfl) (neg_any _ b _ (hb.new_ hq2_1)) ?_
  rintro e w3 ⟨db, rfl, hdb, hm2⟩
  have hq2_2 := (show New _ _ from hq2_1).transNew hm2
  refine ⟨_, rfl, hK _ _ (hS _ hq2_2) ?_⟩
  simp only [Act.put, List.setIfInBounds_toArray, List.set_cons_zero, List.set_cons_succ]
  refine st_take (a' := ?_) rfl rfl (y_assign (v := .bool da) rfl rfl) ?_ ?_
  rotate_left; (simp only [Act.put, List.setIfInBounds_toArray, List.set_cons_zero, List.set_cons_succ]; rfl)
  refine st_take (a' := ?_) rfl rfl (y_assign (v := .bool db) rfl rfl) ?_ ?_
  rotate_left; (simp only [Act.put, List.setIfInBounds_toArray, List.set_cons_zero, List.set_cons_succ]; rfl)
  refine st_nil ?_
  have hn13 := (show New _ _ from hq2_2)
  clear hS hq2_1 hq2_2
  have ha3 := ha.new_ hn13
  have hb3 := hb.new_ hn13
  have hb1' := hb1.new_ hn13
  have hb2' := hb2.new_ hn13
  have hn3 := hn1.transNew hn13
  have Hq := hide (And.intro hq1 hq2)
  have Hd := hide (And.intro hda hdb)
  clear ha hb hb1 hb2 hn1 hn13 hm1 hm2 hq1 hq2 hda hdb
  cases hdA : da <;> cases hdB : db <;> subst hdA hdB
  · go_wp2_with fail
    have hS : ∀ w', New w3 w' → (Blk w' q1 24 [.bool bx, .slice Ax nx cx] ∧ Blk w' q2 24 [.bool by_, .slice Ay ny cy]) := fun w' hn => ⟨hb1'.new_ hn, hb2'.new_ hn⟩
    refine wp_region_dm (fun w' => Blk w' q1 24 [.bool bx, .slice Ax nx cx] ∧ Blk w' q2 24 [.bool by_, .slice Ay ny cy]) [(0, true), (2, true), (1, false), (3, false), (4, false), (5, true)] (by kernel_rfl) (by kernel_rfl) (fun _ _ d _ _ h => by cases d <;> exact h) (hS _ (Upd.refl _ _).drew) ?_
    refine st_take (a' := ?_) rfl rfl (y_load2 rfl rfl Try.isAgg24 Try.sizeOf24 (fun _ h => h.1)) ?_ ?_
    rotate_left; (simp only [Act.put, List.setIfInBounds_toArray, List.set_cons_zero, List.set_cons_succ]; rfl)
    refine st_take (a' := ?_) rfl rfl (y_load2 rfl rfl Try.isAgg24 Try.sizeOf24 (fun _ h => h.2)) ?_ ?_
    rotate_left; (simp only [Act.put, List.setIfInBounds_toArray, List.set_cons_zero, List.set_cons_succ]; rfl)
    refine st_act rfl rfl fun K hK => a_call (args := #[.agg #[.bool bx, .slice Ax nx cx]]) rfl rfl (fun w => by kernel_rfl) (mag_any _ a _ (ha3.new_ (Upd.refl _ _).drew)) ?_
    rintro e w4 ⟨A1, n1, c1, rfl, hl1, ho1, hm1⟩
    have hq3_1 := (show New _ _ from (Upd.refl _ _).drew).transNew hm1
    refine ⟨_, rfl, hK _ _ (hS _ hq3_1) ?_⟩
    simp only [Act.put, List.setIfInBounds_toArray, List.set_cons_zero, List.set_cons_succ]
    refine st_act rfl rfl fun K hK => a_call (args := #[.agg #[.bool by_, .slice Ay ny cy]]) rfl rfl (fun w => by kernel_rfl) (mag_any _ b _ (hb3.new_ hq3_1)) ?_
    rintro e w5 ⟨A2, n2, c2, rfl, hl2, ho2, hm2⟩
    have hq3_2 := (show New _ _ from hq3_1).transNew hm2
    refine ⟨_, rfl, hK _ _ (hS _ hq3_2) ?_⟩
    simp only [Act.put, List.setIfInBounds_toArray, List.set_cons_zero, List.set_cons_succ]
    refine st_act rfl rfl fun K hK => a_call (args := #[.slice A1 n1 c1, .slice A2 n2 c2]) rfl rfl (fun w => by kernel_rfl) (cmp_any A1 A2 n1 n2 c1 c2 (canon a.natAbs) (canon b.natAbs) _ ((ho1.new_ hm2).row) ho2.row (limbs_canon _) (limbs_canon _) (trim_canon _) (trim_canon _)) ?_
    rintro e w6 ⟨rfl, hm⟩
    have hm3 : New w5 w6 := (Upd.refl _ _).drewN' hm
    have hq3_3 := (show New _ _ from hq3_2).transNew hm3
    refine ⟨_, rfl, hK _ _ (hS _ hq3_3) ?_⟩
    simp only [Act.put, List.setIfInBounds_toArray, List.set_cons_zero, List.set_cons_succ]
    refine st_take (a' := ?_) rfl rfl (y_assign (v := .int .i64 (cmpI (val (canon a.natAbs)) (val (canon b.natAbs)))) rfl rfl) ?_ ?_
    rotate_left; (simp only [Act.put, List.setIfInBounds_toArray, List.set_cons_zero, List.set_cons_succ]; rfl)
    refine st_nil ?_
    have hn36 := (show New _ _ from hq3_3)
    clear hS hq3_1 hq3_2 hq3_3
    have hr : cmpI (val (canon a.natAbs)) (val (canon b.natAbs)) = cmpZ a b := by
      rw [val_canon, val_canon]
      exact cmpZ_pp (by simpa using Hd.out.1.symm) (by simpa using Hd.out.2.symm)
    rw [hr]
    have Hr := hide hn36
    clear hn36 hr
    go_wp2
    go_ret
    exact ⟨rfl, hn3.transNew Hr.out⟩
  · go_wp2
    go_ret
    refine ⟨?_, hn3⟩
    rw [cmpZ_pn (by simpa using Hd.out.1.symm) (by simpa using Hd.out.2.symm)]
    rfl
  · go_wp2
    go_ret
    refine ⟨?_, hn3⟩
    rw [cmpZ_np (by simpa using Hd.out.1.symm) (by simpa using Hd.out.2.symm)]
    rfl
  · go_wp2_with fail
    have hS : ∀ w', New w3 w' → (Blk w' q1 24 [.bool bx, .slice Ax nx cx] ∧ Blk w' q2 24 [.bool by_, .slice Ay ny cy]) := fun w' hn => ⟨hb1'.new_ hn, hb2'.new_ hn⟩
    refine wp_region_dm (fun w' => Blk w' q1 24 [.bool bx, .slice Ax nx cx] ∧ Blk w' q2 24 [.bool by_, .slice Ay ny cy]) [(0, true), (2, true), (1, false), (3, false), (4, false), (5, true)] (by kernel_rfl) (by kernel_rfl) (fun _ _ d _ _ h => by cases d <;> exact h) (hS _ (Upd.refl _ _).drew) ?_
    refine st_take (a' := ?_) rfl rfl (y_load2 rfl rfl Try.isAgg24 Try.sizeOf24 (fun _ h => h.2)) ?_ ?_
    rotate_left; (simp only [Act.put, List.setIfInBounds_toArray, List.set_cons_zero, List.set_cons_succ]; rfl)
    refine st_take (a' := ?_) rfl rfl (y_load2 rfl rfl Try.isAgg24 Try.sizeOf24 (fun _ h => h.1)) ?_ ?_
    rotate_left; (simp only [Act.put, List.setIfInBounds_toArray, List.set_cons_zero, List.set_cons_succ]; rfl)
    refine st_act rfl rfl fun K hK => a_call (args := #[.agg #[.bool by_, .slice Ay ny cy]]) rfl rfl (fun w => by kernel_rfl) (mag_any _ b _ (hb3.new_ (Upd.refl _ _).drew)) ?_
    rintro e w4 ⟨A1, n1, c1, rfl, hl1, ho1, hm1⟩
    have hq4_1 := (show New _ _ from (Upd.refl _ _).drew).transNew hm1
    refine ⟨_, rfl, hK _ _ (hS _ hq4_1) ?_⟩
    simp only [Act.put, List.setIfInBounds_toArray, List.set_cons_zero, List.set_cons_succ]
    refine st_act rfl rfl fun K hK => a_call (args := #[.agg #[.bool bx, .slice Ax nx cx]]) rfl rfl (fun w => by kernel_rfl) (mag_any _ a _ (ha3.new_ hq4_1)) ?_
    rintro e w5 ⟨A2, n2, c2, rfl, hl2, ho2, hm2⟩
    have hq4_2 := (show New _ _ from hq4_1).transNew hm2
    refine ⟨_, rfl, hK _ _ (hS _ hq4_2) ?_⟩
    simp only [Act.put, List.setIfInBounds_toArray, List.set_cons_zero, List.set_cons_succ]
    refine st_act rfl rfl fun K hK => a_call (args := #[.slice A1 n1 c1, .slice A2 n2 c2]) rfl rfl (fun w => by kernel_rfl) (cmp_any A1 A2 n1 n2 c1 c2 (canon b.natAbs) (canon a.natAbs) _ ((ho1.new_ hm2).row) ho2.row (limbs_canon _) (limbs_canon _) (trim_canon _) (trim_canon _)) ?_
    rintro e w6 ⟨rfl, hm⟩
    have hm3 : New w5 w6 := (Upd.refl _ _).drewN' hm
    have hq4_3 := (show New _ _ from hq4_2).transNew hm3
    refine ⟨_, rfl, hK _ _ (hS _ hq4_3) ?_⟩
    simp only [Act.put, List.setIfInBounds_toArray, List.set_cons_zero, List.set_cons_succ]
    refine st_take (a' := ?_) rfl rfl (y_assign (v := .int .i64 (cmpI (val (canon b.natAbs)) (val (canon a.natAbs)))) rfl rfl) ?_ ?_
    rotate_left; (simp only [Act.put, List.setIfInBounds_toArray, List.set_cons_zero, List.set_cons_succ]; rfl)
    refine st_nil ?_
    have hn36 := (show New _ _ from hq4_3)
    clear hS hq4_1 hq4_2 hq4_3
    have hr : cmpI (val (canon b.natAbs)) (val (canon a.natAbs)) = cmpZ a b := by
      rw [val_canon, val_canon]
      exact cmpZ_nn (by simpa using Hd.out.1.symm) (by simpa using Hd.out.2.symm)
    rw [hr]
    have Hr := hide hn36
    clear hn36 hr
    go_wp2
    go_ret
    exact ⟨rfl, hn3.transNew Hr.out⟩
theorem cmpZ_zero (a b : Int) : (cmpZ a b == 0) = decide (a = b) := by
  unfold cmpZ
  by_cases h : a < b
  · rw [if_pos h]; simp; omega
  · by_cases h2 : b < a
    · rw [if_neg h, if_pos h2]; simp; omega
    · rw [if_neg h, if_neg h2]; simp; omega
def IsBool (r : Bool) (w : World) (e : Ending) (w' : World) : Prop := e = .returned (.bool r) ∧ New w w'
set_option maxHeartbeats 400000 in
theorem same_any (x y : Value) (a b : Int) (w : World) (hx : BigAt w x a) (hy : BigAt w y b) : Calls Try.prog 31 #[x, y] w (IsBool (decide (a = b)) w) := by
  obtain ⟨bx, Ax, nx, cx, rfl⟩ := hx.form
  obtain ⟨by_, Ay, ny, cy, rfl⟩ := hy.form
  have hn1 : New w ((w.alloc (.cells #[.bool bx, .slice Ax nx cx] 24)).alloc (.cells #[.bool by_, .slice Ay ny cy] 24)) := ((Upd.refl _ _).alloc _).alloc _
  have ha := hx.new_ hn1
  have hb := hy.new_ hn1
  have hz := cmpZ_zero a b
  obtain ⟨r, hr⟩ : ∃ r, r = cmpZ a b := ⟨_, rfl⟩
  rw [← hr] at hz
  have Hz := hide (And.intro hz hr)
  clear hx hy hz hr
  go_enter Try.func31, Try.ntmps31
  go_wp2_with fail
  refine (cmpz_any _ _ a b _ ha hb).mono ?_
  rintro e w2 ⟨rfl, hn2⟩
  rw [← Hz.out.2]
  go_wp2
  go_ret
  refine ⟨?_, hn1.transNew hn2⟩
  rw [← Hz.out.1]
  rfl
end Go.Proofs.Ytfhflpchfgkgcaa
