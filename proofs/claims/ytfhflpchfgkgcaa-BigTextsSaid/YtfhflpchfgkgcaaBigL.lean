/- Sub, Div, Rem. -/
import Derived.Test.YtfhflpchfgkgcaaBigK
namespace Go.Proofs.Ytfhflpchfgkgcaa
open Go.RowKit
set_option linter.unusedSimpArgs false
set_option linter.unusedVariables false
set_option maxHeartbeats 1600000 in
theorem sub_any (x y : Value) (a b : Int) (w : World) (hx : BigAt w x a) (hy : BigAt w y b) : Calls Try.prog 35 #[x, y] w (IsFits (a - b) w) := by
  obtain ⟨bx, Ax, nx, cx, rfl⟩ := hx.form
  obtain ⟨by_, Ay, ny, cy, rfl⟩ := hy.form
  obtain ⟨w1, hw1, hn1, hb1, hb2, hb3, -⟩ := three_boxes w 24 (.bool bx) (.slice Ax nx cx) (.bool by_) (.slice Ay ny cy) (.bool false) (.slice none 0 0)
  have ha := hx.new_ hn1
  have hb := hy.new_ hn1
  have hblt := hy.lt
  have Hw1 := hide hw1
  clear hx hy hw1
  go_enter Try.func35, Try.ntmps35
  go_wp2_with fail
  rw [← Hw1.out]
  obtain ⟨q1, hq1⟩ : ∃ q, q = w.heap.size := ⟨_, rfl⟩
  obtain ⟨q2, hq2⟩ : ∃ q, q = w.heap.size + 1 := ⟨_, rfl⟩
  obtain ⟨q3, hq3⟩ : ∃ q, q = w.heap.size + 2 := ⟨_, rfl⟩
  rw [← hq3] at hb3 ⊢
  rw [← hq2] at hb2 ⊢
  rw [← hq1] at hb1 ⊢
  have hqq : q1 ≠ q3 ∧ q2 ≠ q3 ∧ w.heap.size ≤ q3 := by omega
  obtain ⟨hqa, hqb, hqc⟩ := hqq
  have Hq := hide (And.intro hq1 (And.intro hq2 hq3))
  clear hq1 hq2 hq3
  have hS : ∀ w', New w1 w' → (Blk w' q1 24 [.bool bx, .slice Ax nx cx] ∧ Blk w' q2 24 [.bool by_, .slice Ay ny cy]) := fun w' hn => ⟨hb1.new_ hn, hb2.new_ hn⟩
  refine wp_region_dm (fun w' => Blk w' q1 24 [.bool bx, .slice Ax nx cx] ∧ Blk w' q2 24 [.bool by_, .slice Ay ny cy]) [(0, true), (1, true), (2, false), (3, false), (4, true), (5, true), (6, false), (7, true)] (by kernel_rfl) (by kernel_rfl) (fun _ _ d _ _ h => by cases d <;> exact h) (hS _ (Upd.refl _ _).drew) ?_
  refine st_take (a' := ?_) rfl rfl (y_load2 rfl rfl Try.isAgg24 Try.sizeOf24 (fun _ h => h.1)) ?_ ?_
  rotate_left; (simp only [Act.put, List.setIfInBounds_toArray, List.set_cons_zero, List.set_cons_succ]; rfl)
  refine st_take (a' := ?_) rfl rfl (y_load2 rfl rfl Try.isAgg24 Try.sizeOf24 (fun _ h => h.2)) ?_ ?_
  rotate_left; (simp only [Act.put, List.setIfInBounds_toArray, List.set_cons_zero, List.set_cons_succ]; rfl)
  refine st_act rfl rfl fun K hK => a_call (args := #[.agg #[.bool by_, .slice Ay ny cy]]) rfl rfl (fun w => by kernel_rfl) (negz_any _ b _ (hb.new_ (Upd.refl _ _).drew)) ?_
  rintro e w2 ⟨f2, A2, n2, c2, rfl, hc2, hm2⟩
  have hq1_1 := (show New _ _ from (Upd.refl _ _).drew).transNew hm2
  refine ⟨_, rfl, hK _ _ (hS _ hq1_1) ?_⟩
  simp only [Act.put, List.setIfInBounds_toArray, List.set_cons_zero, List.set_cons_succ]
  refine st_act rfl rfl fun K hK => a_call (args := #[.agg #[.bool bx, .slice Ax nx cx], .agg #[.bool f2, .slice A2 n2 c2]]) rfl rfl (fun w => by kernel_rfl) (add_any _ _ a (-b) _ (ha.new_ hq1_1) (hc2.big (by omega))) ?_
  rintro e w8 ⟨f, A7, n7, c7, rfl, hcan, hm7⟩
  have hq1_2 := (show New _ _ from hq1_1).transNew hm7
  refine ⟨_, rfl, hK _ _ (hS _ hq1_2) ?_⟩
  simp only [Act.put, List.setIfInBounds_toArray, List.set_cons_zero, List.set_cons_succ]
  refine st_take (a' := ?_) rfl rfl (y_extract (v := .agg #[.bool f, .slice A7 n7 c7]) rfl rfl rfl) ?_ ?_
  rotate_left; (simp only [Act.put, List.setIfInBounds_toArray, List.set_cons_zero, List.set_cons_succ]; rfl)
  refine st_take (a' := ?_) rfl rfl (y_extract (v := .bool (okI (a + -b))) rfl rfl rfl) ?_ ?_
  rotate_left; (simp only [Act.put, List.setIfInBounds_toArray, List.set_cons_zero, List.set_cons_succ]; rfl)
  obtain ⟨w9, hw1_3, hcan9, hn9, g0, g1, hfar1_3⟩ := CanAt.store hcan (hb3.new_ hq1_2) (hn1.transNew hq1_2) hqc
  refine st_act rfl rfl fun K hK => a_store2 (b := q3) (off := 0) (v0 := .bool f) (v1 := (.slice A7 n7 c7)) rfl rfl rfl Try.sizeOf24 rfl rfl rfl ((hb3.new_ hq1_2).cell 0) ((hb3.new_ hq1_2).frozen 0) (((hb3.new_ hq1_2).set_ 0 (.bool f)).cell 1) (((hb3.new_ hq1_2).set_ 0 (.bool f)).frozen 1) ?_
  rw [← hw1_3]
  have hS1_3 : Blk w9 q1 24 [.bool bx, .slice Ax nx cx] ∧ Blk w9 q2 24 [.bool by_, .slice Ay ny cy] := ⟨hfar1_3 _ _ _ (by omega) (hS _ hq1_2).1, hfar1_3 _ _ _ (by omega) (hS _ hq1_2).2⟩
  refine hK _ _ hS1_3 ?_
  simp only [Act.put, List.setIfInBounds_toArray, List.set_cons_zero, List.set_cons_succ]
  refine st_take (a' := ?_) rfl rfl (y_assign (v := .bool (okI (a + -b))) rfl rfl) ?_ ?_
  rotate_left; (simp only [Act.put, List.setIfInBounds_toArray, List.set_cons_zero, List.set_cons_succ]; rfl)
  refine st_nil ?_
  clear hS hq1_1 hq1_2 hfar1_3 hw1_3 hS1_3
  have hfin : a + -b = a - b := by omega
  rw [hfin] at hcan9 ⊢
  have H9 := hide (And.intro hcan9 hn9)
  obtain ⟨ok, hok⟩ : ∃ ok, ok = okI (a - b) := ⟨_, rfl⟩
  rw [← hok]
  have Hok := hide hok
  clear hcan hcan9 hn9 hfin hok hm2 hm7 hc2
  go_wp2
  exact bodyPost_ret (v := .tuple #[.agg #[.bool f, .slice A7 n7 c7], .bool ok]) (by simp [results, Try.results35, go_sem, g0, g1]) rfl ⟨f, A7, n7, c7, by rw [Hok.out], H9.out.1, H9.out.2⟩
/-- A number and an error. -/
def IsZE (z : Int) (er : Int) (w : World) (e : Ending) (w' : World) : Prop := ∃ f A n c, e = .returned (.tuple #[.agg #[.bool f, .slice A n c], .int .i64 er]) ∧ CanAt w' (.agg #[.bool f, .slice A n c]) z ∧ New w w'
def divZ (a b : Int) : Int := if b = 0 then 0 else a.tdiv b
def remZ (a b : Int) : Int := if b = 0 then 0 else a.tmod b
def zeroE (b : Int) : Int := if b = 0 then 4 else 0
theorem sgn_div {a b : Int} {d d' : Bool} (ha : d = decide (a < 0)) (hb : d' = decide (b < 0)) : sgn (d != d') (a.natAbs / b.natAbs) = a.tdiv b := by
  subst ha hb
  have key : ∀ m n : Nat, ((m : Int).tdiv (n : Int)) = ((m / n : Nat) : Int) := fun m n => by rw [Int.ofNat_tdiv]
  rcases Int.natAbs_eq a with h1 | h1 <;> rcases Int.natAbs_eq b with h2 | h2
  · have e1 : ¬ a < 0 := by omega
    have e2 : ¬ b < 0 := by omega
    rw [decide_eq_false e1, decide_eq_false e2]
    conv => rhs; rw [h1, h2, key]
    rfl
  · by_cases e2 : b < 0
    · have e1 : ¬ a < 0 := by omega
      rw [decide_eq_false e1, decide_eq_true e2]
      conv => rhs; rw [h1, h2, Int.tdiv_neg, key]
      rfl
    · have hb0 : b = 0 := by omega
      subst hb0
      simp [sgn]
  · by_cases e1 : a < 0
    · have e2 : ¬ b < 0 := by omega
      rw [decide_eq_true e1, decide_eq_false e2]
      conv => rhs; rw [h1, h2, Int.neg_tdiv, key]
      rfl
    · have ha0 : a = 0 := by omega
      subst ha0
      simp [sgn]
  · by_cases e1 : a < 0
    · by_cases e2 : b < 0
      · rw [decide_eq_true e1, decide_eq_true e2]
        conv => rhs; rw [h1, h2, Int.neg_tdiv, Int.tdiv_neg, Int.neg_neg, key]
        rfl
      · have hb0 : b = 0 := by omega
        subst hb0
        simp [sgn]
    · have ha0 : a = 0 := by omega
      subst ha0
      simp [sgn]
theorem sgn_rem {a b : Int} {d : Bool} (ha : d = decide (a < 0)) : sgn d (a.natAbs % b.natAbs) = a.tmod b := by
  subst ha
  have key : ∀ m : Nat, ((m : Int).tmod b) = ((m % b.natAbs : Nat) : Int) := fun m => by
    rcases Int.natAbs_eq b with h2 | h2
    · conv => lhs; rw [h2]
      rw [Int.ofNat_tmod]
    · conv => lhs; rw [h2, Int.tmod_neg]
      rw [Int.ofNat_tmod]
  rcases Int.natAbs_eq a with h1 | h1
  · have e1 : ¬ a < 0 := by omega
    rw [decide_eq_false e1]
    conv => rhs; rw [h1, key]
    rfl
  · by_cases e1 : a < 0
    · rw [decide_eq_true e1]
      conv => rhs; rw [h1, Int.neg_tmod, key]
      rfl
    · have ha0 : a = 0 := by omega
      subst ha0
      simp [sgn]
set_option maxHeartbeats 3200000 in
theorem div_any (x y : Value) (a b : Int) (w : World) (hx : BigAt w x a) (hy : BigAt w y b) : Calls Try.prog 37 #[x, y] w (IsZE (divZ a b) (zeroE b) w) := by
  obtain ⟨bx, Ax, nx, cx, rfl⟩ := hx.form
  obtain ⟨by_, Ay, ny, cy, rfl⟩ := hy.form
  obtain ⟨w1, hw1, hn1, hb1, hb2, hb3, -⟩ := three_boxes w 24 (.bool bx) (.slice Ax nx cx) (.bool by_) (.slice Ay ny cy) (.bool false) (.slice none 0 0)
  have ha := hx.new_ hn1
  have hb := hy.new_ hn1
  have hla := hx.len
  have hlb := hy.len
  have Hw1 := hide hw1
  clear hx hy hw1
  go_enter Try.func37, Try.ntmps37
  go_wp2_with fail
  rw [← Hw1.out]
  refine (mag_any _ b _ hb).mono ?_
  rintro e w2 ⟨A0, n0, c0, rfl, hl0, -, hm0⟩
  have ha2 := ha.new_ hm0
  have hb2' := hb.new_ hm0
  have hbA := hb1.new_ hm0
  have hbB := hb2.new_ hm0
  have hbC := hb3.new_ hm0
  have hn2 := hn1.transNew hm0
  clear ha hb hb1 hb2 hb3 hn1 hm0
  have r0 : w2.cell? ⟨w.heap.size + 2, 0, none⟩ = some (.bool false) := hbC.cell 0
  have r1 : w2.cell? ⟨w.heap.size + 2, 1, none⟩ = some (.slice none 0 0) := hbC.cell 1
  have f0 := hbC.frozen 0
  have f1 := hbC.frozen 1
  by_cases hz : b = 0
  · have hn0 : n0 = 0 := by rw [hl0, hz, show (0 : Int).natAbs = 0 from rfl, canon_zero]; rfl
    subst hn0
    obtain ⟨w3, hw3, hcan3, hn3, g0, g1, -⟩ := (CanAt.zero w2).store hbC hn2 (by omega)
    have H3 := hide (And.intro hcan3 (And.intro hn3 (And.intro hw3 hz)))
    clear hcan3 hn3 hw3 hl0 hz hbC hbB hbA ha2 hb2' hn2
    go_wp2
    rw [← H3.out.2.2.1]
    refine bodyPost_ret (v := .tuple #[.agg #[.bool false, .slice none 0 0], .int .i64 4]) (by simp [results, Try.results37, go_sem, g0, g1]) rfl ⟨false, none, 0, 0, ?_, ?_, H3.out.2.1⟩
    · rw [zeroE, if_pos H3.out.2.2.2]
    · rw [divZ, if_pos H3.out.2.2.2]; exact H3.out.1
  · have hn0 : ((n0 : Int) == 0) = false := by
      have : n0 ≠ 0 := fun h => hz (by
        rw [hl0] at h
        have := canon_nil.1 (List.eq_nil_of_length_eq_zero h)
        omega)
      simp; omega
    have Hz := hide (And.intro hz hl0)
    clear hz hl0 r0 r1 f0 f1
    obtain ⟨q1, hq1⟩ : ∃ q, q = w.heap.size := ⟨_, rfl⟩
    obtain ⟨q2, hq2⟩ : ∃ q, q = w.heap.size + 1 := ⟨_, rfl⟩
    obtain ⟨q3, hq3⟩ : ∃ q, q = w.heap.size + 2 := ⟨_, rfl⟩
    rw [← hq3] at hbC ⊢
    rw [← hq2] at hbB ⊢
    rw [← hq1] at hbA ⊢
    have hqq : q1 ≠ q3 ∧ q2 ≠ q3 ∧ w.heap.size ≤ q3 := by omega
    obtain ⟨hqa, hqb, hqc⟩ := hqq
    have Hq := hide (And.intro hq1 (And.intro hq2 hq3))
    clear hq1 hq2 hq3
    go_wp2_with fail
    have hS : ∀ w', New w2 w' → (Blk w' q1 24 [.bool bx, .slice Ax nx cx] ∧ Blk w' q2 24 [.bool by_, .slice Ay ny cy]) := fun w' hn => ⟨hbA.new_ hn, hbB.new_ hn⟩
    refine wp_region_dm (fun w' => Blk w' q1 24 [.bool bx, .slice Ax nx cx] ∧ Blk w' q2 24 [.bool by_, .slice Ay ny cy]) [(0, true), (2, true), (1, false), (3, false), (4, false), (5, true), (6, true), (7, true), (8, true), (9, true)] (by kernel_rfl) (by kernel_rfl) (fun _ _ d _ _ h => by cases d <;> exact h) (hS _ (Upd.refl _ _).drew) ?_
    refine st_take (a' := ?_) rfl rfl (y_load2 rfl rfl Try.isAgg24 Try.sizeOf24 (fun _ h => h.1)) ?_ ?_
    rotate_left; (simp only [Act.put, List.setIfInBounds_toArray, List.set_cons_zero, List.set_cons_succ]; rfl)
    refine st_take (a' := ?_) rfl rfl (y_load2 rfl rfl Try.isAgg24 Try.sizeOf24 (fun _ h => h.2)) ?_ ?_
    rotate_left; (simp only [Act.put, List.setIfInBounds_toArray, List.set_cons_zero, List.set_cons_succ]; rfl)
    refine st_act rfl rfl fun K hK => a_call (args := #[.agg #[.bool bx, .slice Ax nx cx]]) rfl rfl (fun w => by kernel_rfl) (mag_any _ a _ (ha2.new_ (Upd.refl _ _).drew)) ?_
    rintro e w3 ⟨A1, n1, c1, rfl, hl1, ho1, hm1⟩
    have hq2_1 := (show New _ _ from (Upd.refl _ _).drew).transNew hm1
    refine ⟨_, rfl, hK _ _ (hS _ hq2_1) ?_⟩
    simp only [Act.put, List.setIfInBounds_toArray, List.set_cons_zero, List.set_cons_succ]
    refine st_act rfl rfl fun K hK => a_call (args := #[.agg #[.bool by_, .slice Ay ny cy]]) rfl rfl (fun w => by kernel_rfl) (mag_any _ b _ (hb2'.new_ hq2_1)) ?_
    rintro e w4 ⟨A2, n2, c2, rfl, hl2, ho2, hm2⟩
    have hq2_2 := (show New _ _ from hq2_1).transNew hm2
    refine ⟨_, rfl, hK _ _ (hS _ hq2_2) ?_⟩
    simp only [Act.put, List.setIfInBounds_toArray, List.set_cons_zero, List.set_cons_succ]
    refine st_act rfl rfl fun K hK => a_call (args := #[.slice A1 n1 c1, .slice A2 n2 c2]) rfl rfl (fun w => by kernel_rfl) (divide_any A1 A2 n1 n2 c1 c2 (canon a.natAbs) b.natAbs _ ((ho1.new_ hm2).row) ho2.row (limbs_canon _) (by have := Hz.out.1; omega) (by omega) (by omega) hl2) ?_
    rintro e w5 ⟨A3, c3, A4, n4, c4, m3, rfl, ho3, hl3, hv3, -, -, hm3⟩
    have hq2_3 := (show New _ _ from hq2_2).transNew hm3
    refine ⟨_, rfl, hK _ _ (hS _ hq2_3) ?_⟩
    simp only [Act.put, List.setIfInBounds_toArray, List.set_cons_zero, List.set_cons_succ]
    refine st_take (a' := ?_) rfl rfl (y_move (v := .tuple #[.slice A3 n1 c3, .slice A4 n4 c4]) rfl rfl) ?_ ?_
    rotate_left; (simp only [Act.put, List.setIfInBounds_toArray, List.set_cons_zero, List.set_cons_succ]; rfl)
    refine st_take (a' := ?_) rfl rfl (y_extract (v := .slice A3 n1 c3) rfl rfl rfl) ?_ ?_
    rotate_left; (simp only [Act.put, List.setIfInBounds_toArray, List.set_cons_zero, List.set_cons_succ]; rfl)
    refine st_take (a' := ?_) rfl rfl (y_extract (v := .slice A4 n4 c4) rfl rfl rfl) ?_ ?_
    rotate_left; (simp only [Act.put, List.setIfInBounds_toArray, List.set_cons_zero, List.set_cons_succ]; rfl)
    refine st_take (a' := ?_) rfl rfl (y_assign (v := .slice A3 n1 c3) rfl rfl) ?_ ?_
    rotate_left; (simp only [Act.put, List.setIfInBounds_toArray, List.set_cons_zero, List.set_cons_succ]; rfl)
    refine st_take (a' := ?_) rfl rfl (y_assign (v := .slice A4 n4 c4) rfl rfl) ?_ ?_
    rotate_left; (simp only [Act.put, List.setIfInBounds_toArray, List.set_cons_zero, List.set_cons_succ]; rfl)
    refine st_nil ?_
    have hn25 := (show New _ _ from hq2_3)
    clear hS hq2_1 hq2_2 hq2_3
    have ha5 := ha2.new_ hn25
    have hb5 := hb2'.new_ hn25
    have hbA5 := hbA.new_ hn25
    have hbB5 := hbB.new_ hn25
    have hbC5 := hbC.new_ hn25
    have hn5 := hn2.transNew hn25
    clear ha2 hb2' hbA hbB hbC hn2 hn25 hm1 hm2 hm3 ho1 ho2 hl1 hl2
    go_wp2_with fail
    have hS : ∀ w', New w5 w' → (Blk w' q1 24 [.bool bx, .slice Ax nx cx] ∧ Blk w' q2 24 [.bool by_, .slice Ay ny cy]) := fun w' hn => ⟨hbA5.new_ hn, hbB5.new_ hn⟩
    refine wp_region_dm (fun w' => Blk w' q1 24 [.bool bx, .slice Ax nx cx] ∧ Blk w' q2 24 [.bool by_, .slice Ay ny cy]) [(0, true), (1, true), (3, true), (2, false), (4, false), (5, true), (6, false), (7, false), (8, true)] (by kernel_rfl) (by kernel_rfl) (fun _ _ d _ _ h => by cases d <;> exact h) (hS _ (Upd.refl _ _).drew) ?_
    refine st_take (a' := ?_) rfl rfl (y_move (v := .slice A3 n1 c3) rfl rfl) ?_ ?_
    rotate_left; (simp only [Act.put, List.setIfInBounds_toArray, List.set_cons_zero, List.set_cons_succ]; rfl)
    refine st_take (a' := ?_) rfl rfl (y_load2 rfl rfl Try.isAgg24 Try.sizeOf24 (fun _ h => h.1)) ?_ ?_
    rotate_left; (simp only [Act.put, List.setIfInBounds_toArray, List.set_cons_zero, List.set_cons_succ]; rfl)
    refine st_take (a' := ?_) rfl rfl (y_load2 rfl rfl Try.isAgg24 Try.sizeOf24 (fun _ h => h.2)) ?_ ?_
    rotate_left; (simp only [Act.put, List.setIfInBounds_toArray, List.set_cons_zero, List.set_cons_succ]; rfl)
    refine st_act rfl rfl fun K hK => a_call (args := #[.agg #[.bool bx, .slice Ax nx cx]]) rfl rfl (fun w => by kernel_rfl) (neg_any _ a _ (ha5.new_ (Upd.refl _ _).drew)) ?_
    rintro e w6 ⟨da, rfl, hda, hm1⟩
    have hq3_1 := (show New _ _ from (Upd.refl _ _).drew).transNew hm1
    refine ⟨_, rfl, hK _ _ (hS _ hq3_1) ?_⟩
    simp only [Act.put, List.setIfInBounds_toArray, List.set_cons_zero, List.set_cons_succ]
    refine st_act rfl rfl fun K hK => a_call (args := #[.agg #[.bool by_, .slice Ay ny cy]]) rfl rfl (fun w => by kernel_rfl) (neg_any _ b _ (hb5.new_ hq3_1)) ?_
    rintro e w7 ⟨db, rfl, hdb, hm2⟩
    have hq3_2 := (show New _ _ from hq3_1).transNew hm2
    refine ⟨_, rfl, hK _ _ (hS _ hq3_2) ?_⟩
    simp only [Act.put, List.setIfInBounds_toArray, List.set_cons_zero, List.set_cons_succ]
    refine st_take (a' := ?_) rfl rfl (y_run (v := .bool (da != db)) fun w => by cases da <;> cases db <;> kernel_rfl) ?_ ?_
    rotate_left; (simp only [Act.put, List.setIfInBounds_toArray, List.set_cons_zero, List.set_cons_succ]; rfl)
    have hdrew : New w5 w5.drew := (Upd.refl _ _).drew
    have hm1' := hdrew.transNew hm1
    refine st_act rfl rfl fun K hK => a_call (args := #[.slice A3 n1 c3, .bool (da != db)]) rfl rfl (fun w => by kernel_rfl) (made_any A3 n1 c3 m3 (da != db) _ (((ho3.new_ hm1').new_ hm2).row) hl3) ?_
    rintro e w8 ⟨f, A7, n7, c7, rfl, hcan, hm7⟩
    have hq3_3 := (show New _ _ from hq3_2).transNew hm7
    refine ⟨_, rfl, hK _ _ (hS _ hq3_3) ?_⟩
    simp only [Act.put, List.setIfInBounds_toArray, List.set_cons_zero, List.set_cons_succ]
    obtain ⟨w9, hw3_4, hcan9, hn9, g0, g1, hfar3_4⟩ := CanAt.store hcan (hbC5.new_ hq3_3) (hn5.transNew hq3_3) hqc
    refine st_act rfl rfl fun K hK => a_store2 (b := q3) (off := 0) (v0 := .bool f) (v1 := (.slice A7 n7 c7)) rfl rfl rfl Try.sizeOf24 rfl rfl rfl ((hbC5.new_ hq3_3).cell 0) ((hbC5.new_ hq3_3).frozen 0) (((hbC5.new_ hq3_3).set_ 0 (.bool f)).cell 1) (((hbC5.new_ hq3_3).set_ 0 (.bool f)).frozen 1) ?_
    rw [← hw3_4]
    have hS3_4 : Blk w9 q1 24 [.bool bx, .slice Ax nx cx] ∧ Blk w9 q2 24 [.bool by_, .slice Ay ny cy] := ⟨hfar3_4 _ _ _ (by omega) (hS _ hq3_3).1, hfar3_4 _ _ _ (by omega) (hS _ hq3_3).2⟩
    refine hK _ _ hS3_4 ?_
    simp only [Act.put, List.setIfInBounds_toArray, List.set_cons_zero, List.set_cons_succ]
    refine st_take (a' := ?_) rfl rfl (y_assign (v := .int .i64 0) rfl rfl) ?_ ?_
    rotate_left; (simp only [Act.put, List.setIfInBounds_toArray, List.set_cons_zero, List.set_cons_succ]; rfl)
    refine st_nil ?_
    clear hS hq3_1 hq3_2 hq3_3 hfar3_4 hw3_4 hS3_4
    have hfin : sgn (da != db) (val m3) = divZ a b := by
      rw [hv3, val_canon, divZ, if_neg Hz.out.1]
      exact sgn_div hda hdb
    rw [hfin] at hcan9
    have H9 := hide (And.intro hcan9 hn9)
    clear hcan hcan9 hn9 hfin hm1 hm2 hm7 hv3 hl3 ho3 hda hdb hm1' hdrew
    go_wp2
    refine bodyPost_ret (v := .tuple #[.agg #[.bool f, .slice A7 n7 c7], .int .i64 0]) (by simp [results, Try.results37, go_sem, g0, g1]) rfl ⟨f, A7, n7, c7, ?_, H9.out.1, H9.out.2⟩
    rw [zeroE, if_neg Hz.out.1]
set_option maxHeartbeats 3200000 in
theorem rem_any (x y : Value) (a b : Int) (w : World) (hx : BigAt w x a) (hy : BigAt w y b) : Calls Try.prog 38 #[x, y] w (IsZE (remZ a b) (zeroE b) w) := by
  obtain ⟨bx, Ax, nx, cx, rfl⟩ := hx.form
  obtain ⟨by_, Ay, ny, cy, rfl⟩ := hy.form
  obtain ⟨w1, hw1, hn1, hb1, hb2, hb3, -⟩ := three_boxes w 24 (.bool bx) (.slice Ax nx cx) (.bool by_) (.slice Ay ny cy) (.bool false) (.slice none 0 0)
  have ha := hx.new_ hn1
  have hb := hy.new_ hn1
  have hla := hx.len
  have hlb := hy.len
  have Hw1 := hide hw1
  clear hx hy hw1
  go_enter Try.func38, Try.ntmps38
  go_wp2_with fail
  rw [← Hw1.out]
  refine (mag_any _ b _ hb).mono ?_
  rintro e w2 ⟨A0, n0, c0, rfl, hl0, -, hm0⟩
  have ha2 := ha.new_ hm0
  have hb2' := hb.new_ hm0
  have hbA := hb1.new_ hm0
  have hbB := hb2.new_ hm0
  have hbC := hb3.new_ hm0
  have hn2 := hn1.transNew hm0
  clear ha hb hb1 hb2 hb3 hn1 hm0
  have r0 : w2.cell? ⟨w.heap.size + 2, 0, none⟩ = some (.bool false) := hbC.cell 0
  have r1 : w2.cell? ⟨w.heap.size + 2, 1, none⟩ = some (.slice none 0 0) := hbC.cell 1
  have f0 := hbC.frozen 0
  have f1 := hbC.frozen 1
  by_cases hz : b = 0
  · have hn0 : n0 = 0 := by rw [hl0, hz, show (0 : Int).natAbs = 0 from rfl, canon_zero]; rfl
    subst hn0
    obtain ⟨w3, hw3, hcan3, hn3, g0, g1, -⟩ := (CanAt.zero w2).store hbC hn2 (by omega)
    have H3 := hide (And.intro hcan3 (And.intro hn3 (And.intro hw3 hz)))
    clear hcan3 hn3 hw3 hl0 hz hbC hbB hbA ha2 hb2' hn2
    go_wp2
    rw [← H3.out.2.2.1]
    refine bodyPost_ret (v := .tuple #[.agg #[.bool false, .slice none 0 0], .int .i64 4]) (by simp [results, Try.results38, go_sem, g0, g1]) rfl ⟨false, none, 0, 0, ?_, ?_, H3.out.2.1⟩
    · rw [zeroE, if_pos H3.out.2.2.2]
    · rw [remZ, if_pos H3.out.2.2.2]; exact H3.out.1
  · have hn0 : ((n0 : Int) == 0) = false := by
      have : n0 ≠ 0 := fun h => hz (by
        rw [hl0] at h
        have := canon_nil.1 (List.eq_nil_of_length_eq_zero h)
        omega)
      simp; omega
    have Hz := hide (And.intro hz hl0)
    clear hz hl0 r0 r1 f0 f1
    obtain ⟨q1, hq1⟩ : ∃ q, q = w.heap.size := ⟨_, rfl⟩
    obtain ⟨q2, hq2⟩ : ∃ q, q = w.heap.size + 1 := ⟨_, rfl⟩
    obtain ⟨q3, hq3⟩ : ∃ q, q = w.heap.size + 2 := ⟨_, rfl⟩
    rw [← hq3] at hbC ⊢
    rw [← hq2] at hbB ⊢
    rw [← hq1] at hbA ⊢
    have hqq : q1 ≠ q3 ∧ q2 ≠ q3 ∧ w.heap.size ≤ q3 := by omega
    obtain ⟨hqa, hqb, hqc⟩ := hqq
    have Hq := hide (And.intro hq1 (And.intro hq2 hq3))
    clear hq1 hq2 hq3
    go_wp2_with fail
    have hS : ∀ w', New w2 w' → (Blk w' q1 24 [.bool bx, .slice Ax nx cx] ∧ Blk w' q2 24 [.bool by_, .slice Ay ny cy]) := fun w' hn => ⟨hbA.new_ hn, hbB.new_ hn⟩
    refine wp_region_dm (fun w' => Blk w' q1 24 [.bool bx, .slice Ax nx cx] ∧ Blk w' q2 24 [.bool by_, .slice Ay ny cy]) [(0, true), (2, true), (1, false), (3, false), (4, false), (5, true), (6, true), (7, true), (8, true), (9, true)] (by kernel_rfl) (by kernel_rfl) (fun _ _ d _ _ h => by cases d <;> exact h) (hS _ (Upd.refl _ _).drew) ?_
    refine st_take (a' := ?_) rfl rfl (y_load2 rfl rfl Try.isAgg24 Try.sizeOf24 (fun _ h => h.1)) ?_ ?_
    rotate_left; (simp only [Act.put, List.setIfInBounds_toArray, List.set_cons_zero, List.set_cons_succ]; rfl)
    refine st_take (a' := ?_) rfl rfl (y_load2 rfl rfl Try.isAgg24 Try.sizeOf24 (fun _ h => h.2)) ?_ ?_
    rotate_left; (simp only [Act.put, List.setIfInBounds_toArray, List.set_cons_zero, List.set_cons_succ]; rfl)
    refine st_act rfl rfl fun K hK => a_call (args := #[.agg #[.bool bx, .slice Ax nx cx]]) rfl rfl (fun w => by kernel_rfl) (mag_any _ a _ (ha2.new_ (Upd.refl _ _).drew)) ?_
    rintro e w3 ⟨A1, n1, c1, rfl, hl1, ho1, hm1⟩
    have hq4_1 := (show New _ _ from (Upd.refl _ _).drew).transNew hm1
    refine ⟨_, rfl, hK _ _ (hS _ hq4_1) ?_⟩
    simp only [Act.put, List.setIfInBounds_toArray, List.set_cons_zero, List.set_cons_succ]
    refine st_act rfl rfl fun K hK => a_call (args := #[.agg #[.bool by_, .slice Ay ny cy]]) rfl rfl (fun w => by kernel_rfl) (mag_any _ b _ (hb2'.new_ hq4_1)) ?_
    rintro e w4 ⟨A2, n2, c2, rfl, hl2, ho2, hm2⟩
    have hq4_2 := (show New _ _ from hq4_1).transNew hm2
    refine ⟨_, rfl, hK _ _ (hS _ hq4_2) ?_⟩
    simp only [Act.put, List.setIfInBounds_toArray, List.set_cons_zero, List.set_cons_succ]
    refine st_act rfl rfl fun K hK => a_call (args := #[.slice A1 n1 c1, .slice A2 n2 c2]) rfl rfl (fun w => by kernel_rfl) (divide_any A1 A2 n1 n2 c1 c2 (canon a.natAbs) b.natAbs _ ((ho1.new_ hm2).row) ho2.row (limbs_canon _) (by have := Hz.out.1; omega) (by omega) (by omega) hl2) ?_
    rintro e w5 ⟨A3, c3, A4, n4, c4, m3, rfl, -, -, -, -, ho4, hm3⟩
    have hq4_3 := (show New _ _ from hq4_2).transNew hm3
    refine ⟨_, rfl, hK _ _ (hS _ hq4_3) ?_⟩
    simp only [Act.put, List.setIfInBounds_toArray, List.set_cons_zero, List.set_cons_succ]
    refine st_take (a' := ?_) rfl rfl (y_move (v := .tuple #[.slice A3 n1 c3, .slice A4 n4 c4]) rfl rfl) ?_ ?_
    rotate_left; (simp only [Act.put, List.setIfInBounds_toArray, List.set_cons_zero, List.set_cons_succ]; rfl)
    refine st_take (a' := ?_) rfl rfl (y_extract (v := .slice A3 n1 c3) rfl rfl rfl) ?_ ?_
    rotate_left; (simp only [Act.put, List.setIfInBounds_toArray, List.set_cons_zero, List.set_cons_succ]; rfl)
    refine st_take (a' := ?_) rfl rfl (y_extract (v := .slice A4 n4 c4) rfl rfl rfl) ?_ ?_
    rotate_left; (simp only [Act.put, List.setIfInBounds_toArray, List.set_cons_zero, List.set_cons_succ]; rfl)
    refine st_take (a' := ?_) rfl rfl (y_assign (v := .slice A3 n1 c3) rfl rfl) ?_ ?_
    rotate_left; (simp only [Act.put, List.setIfInBounds_toArray, List.set_cons_zero, List.set_cons_succ]; rfl)
    refine st_take (a' := ?_) rfl rfl (y_assign (v := .slice A4 n4 c4) rfl rfl) ?_ ?_
    rotate_left; (simp only [Act.put, List.setIfInBounds_toArray, List.set_cons_zero, List.set_cons_succ]; rfl)
    refine st_nil ?_
    have hn25 := (show New _ _ from hq4_3)
    clear hS hq4_1 hq4_2 hq4_3
    have ha5 := ha2.new_ hn25
    have hb5 := hb2'.new_ hn25
    have hbA5 := hbA.new_ hn25
    have hbB5 := hbB.new_ hn25
    have hbC5 := hbC.new_ hn25
    have hn5 := hn2.transNew hn25
    clear ha2 hb2' hbA hbB hbC hn2 hn25 hm1 hm2 hm3 ho1 ho2 hl1 hl2
    have x0 : w5.cell? ⟨q1, 0, none⟩ = some (.bool bx) := hbA5.cell 0
    have x1 : w5.cell? ⟨q1, 1, none⟩ = some (.slice Ax nx cx) := hbA5.cell 1
    go_wp2_with fail
    clear x0 x1
    refine (neg_any _ a _ ha5).mono ?_
    rintro e w6 ⟨da, rfl, hda, hm1⟩
    have Hda := hide hda
    clear hda
    have hbC6 := hbC5.new_ hm1
    have hn6 := hn5.transNew hm1
    go_wp2_with fail
    refine (made_any A4 n4 c4 _ da _ ((ho4.new_ hm1).row) (limbs_canon _)).mono ?_
    rintro e w7 ⟨f, A7, n7, c7, rfl, hcan, hm7⟩
    have hbC7 := hbC6.new_ hm7
    have r0 : w7.cell? ⟨q3, 0, none⟩ = some (.bool false) := hbC7.cell 0
    have r1 : w7.cell? ⟨q3, 1, none⟩ = some (.slice none 0 0) := hbC7.cell 1
    have f0 := hbC7.frozen 0
    have f1 := hbC7.frozen 1
    obtain ⟨w9, hw9, hcan9, hn9, g0, g1, -⟩ := hcan.store hbC7 (hn6.transNew hm7) hqc
    have Hw9 := hide hw9
    clear hw9 hbC7 hbC6 hn6 hbC5 hbA5 hbB5 ha5 hb5 hn5
    have hfin : sgn da (val (canon (val (canon a.natAbs) % b.natAbs))) = remZ a b := by
      rw [val_canon, val_canon, remZ, if_neg Hz.out.1]
      exact sgn_rem Hda.out
    rw [hfin] at hcan9
    have H9 := hide (And.intro hcan9 hn9)
    clear hcan hcan9 hn9 hfin hm1 hm7 ho4
    go_wp2
    rw [← Hw9.out]
    refine bodyPost_ret (v := .tuple #[.agg #[.bool f, .slice A7 n7 c7], .int .i64 0]) (by simp [results, Try.results38, go_sem, g0, g1]) rfl ⟨f, A7, n7, c7, ?_, H9.out.1, H9.out.2⟩
    rw [zeroE, if_neg Hz.out.1]
end Go.Proofs.Ytfhflpchfgkgcaa
