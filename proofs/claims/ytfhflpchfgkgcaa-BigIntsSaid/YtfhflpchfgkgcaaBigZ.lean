/- The law BigOrders: the walk. -/
import Derived.Test.YtfhflpchfgkgcaaBigY
namespace Go.Proofs.Ytfhflpchfgkgcaa
open Go.RowKit
theorem cmpZ_swap (a b : Int) : cmpZ b a = - cmpZ a b := by unfold cmpZ; repeat' split <;> omega
theorem cmpZ_neg (a b : Int) : cmpZ (-b) (-a) = cmpZ a b := by unfold cmpZ; repeat' split <;> omega
theorem cmpZ_same (a b : Int) : decide (a = b) = decide (cmpZ a b = 0) := by
  unfold cmpZ
  repeat' split
  all_goals simp; try omega
theorem cmpZ_add (a b c : Int) : cmpZ (a + c) (b + c) = cmpZ a b := by unfold cmpZ; repeat' split <;> omega
theorem cmpZ_le {a b : Int} : cmpZ a b ≤ 0 ↔ a ≤ b := by unfold cmpZ; repeat' split <;> omega
theorem cmpZ_three (a b : Int) : cmpZ a b = -1 ∨ cmpZ a b = 0 ∨ cmpZ a b = 1 := by unfold cmpZ; repeat' split <;> omega
theorem r_leq {t : TypeId} {q : Int} {r : Bool} (h : decide (q ≤ 0) = r) : ∀ w, (binOp .leq t (.int .i64 q) (.int .i64 0)).run Try.prog w = .ok (.bool r) w := by
  intro w; subst h; simp [binOp, go_sem]
theorem r_gtr {t : TypeId} {q : Int} {r : Bool} (h : decide (0 < q) = r) : ∀ w, (binOp .gtr t (.int .i64 q) (.int .i64 0)).run Try.prog w = .ok (.bool r) w := by
  intro w; subst h; simp [binOp, go_sem]
set_option maxHeartbeats 25600000 in
set_option maxRecDepth 100000 in
theorem orders_walk (x z u : Value) (a b c : Int) (w : World) (hx : BigAt w x a) (hz : BigAt w z b) (hu : BigAt w u c) : Calls Try.prog 7 #[x, z, u] w (IsBool true w) := by
  obtain ⟨bx, vx, mx, rfl, rx, lx, gx⟩ := hx
  obtain ⟨Ax, cx, rfl⟩ := rx.form
  obtain ⟨bz, vz, mz, rfl, rz, lz, gz⟩ := hz
  obtain ⟨Az, cz, rfl⟩ := rz.form
  obtain ⟨bu, vu, mu, rfl, ru, lu, gu⟩ := hu
  obtain ⟨Au, cu, rfl⟩ := ru.form
  obtain ⟨w1, hw1, hN, hbx, hbz, hbu, -⟩ := three_boxes w 24 (.bool bx) (.slice Ax mx.length cx) (.bool bz) (.slice Az mz.length cz) (.bool bu) (.slice Au mu.length cu)
  have hzx : BigAt w1 (.agg #[.bool bx, .slice Ax mx.length cx]) a := ⟨_, _, _, rfl, rx.new_ hN, lx, gx⟩
  have hrx := rx.new_ hN
  clear rx lx gx
  have hzz : BigAt w1 (.agg #[.bool bz, .slice Az mz.length cz]) b := ⟨_, _, _, rfl, rz.new_ hN, lz, gz⟩
  have hrz := rz.new_ hN
  clear rz lz gz
  have hzu : BigAt w1 (.agg #[.bool bu, .slice Au mu.length cu]) c := ⟨_, _, _, rfl, ru.new_ hN, lu, gu⟩
  have hru := ru.new_ hN
  clear ru lu gu
  have Hw1 := hide hw1
  clear hw1
  go_enter Try.func7, Try.ntmps7
  go_wp2_with fail
  rw [← Hw1.out]
  obtain ⟨qx, hqx⟩ : ∃ q, q = w.heap.size := ⟨_, rfl⟩
  obtain ⟨qz, hqz⟩ : ∃ q, q = w.heap.size + 1 := ⟨_, rfl⟩
  obtain ⟨qu, hqu⟩ : ∃ q, q = w.heap.size + 2 := ⟨_, rfl⟩
  rw [← hqu] at hbu ⊢
  rw [← hqz] at hbz ⊢
  rw [← hqx] at hbx ⊢
  clear hqx hqz hqu
  refine (first_any _).mono ?_
  rintro e w1 ⟨rfl, hn⟩
  have h2 := hzx.new_ hn
  have h3 := hrx.new_ hn
  have h4 := hbx.new_ hn
  have h5 := hzz.new_ hn
  have h6 := hrz.new_ hn
  have h7 := hbz.new_ hn
  have h8 := hzu.new_ hn
  have h9 := hru.new_ hn
  have h10 := hbu.new_ hn
  have h11 := hN.transNew hn
  clear hzx hrx hbx hzz hrz hbz hzu hru hbu hN hn
  have k12 : w1.cell? ⟨qx, 0, none⟩ = some (.bool bx) := h4.cell 0
  have k13 : w1.cell? ⟨qx, 1, none⟩ = some (.slice Ax mx.length cx) := h4.cell 1
  go_wp2_with fail
  clear k12 k13
  refine (few_any _ _ mx _ h3).mono ?_
  rintro e w14 ⟨rfl, hn⟩
  have h15 := h2.new_ hn
  have h16 := h3.new_ hn
  have h17 := h4.new_ hn
  have h18 := h5.new_ hn
  have h19 := h6.new_ hn
  have h20 := h7.new_ hn
  have h21 := h8.new_ hn
  have h22 := h9.new_ hn
  have h23 := h10.new_ hn
  have h24 := h11.transNew hn
  clear h2 h3 h4 h5 h6 h7 h8 h9 h10 h11 hn
  obtain ⟨d, hd⟩ : ∃ d, d = decide (mx.length ≤ 40) := ⟨_, rfl⟩
  rw [← hd]
  clear hd
  cases d
  · skip
    go_wp2_with fail
    refine (first_any _).mono ?_
    rintro e w25 ⟨rfl, hn⟩
    have h26 := h15.new_ hn
    have h27 := h16.new_ hn
    have h28 := h17.new_ hn
    have h29 := h18.new_ hn
    have h30 := h19.new_ hn
    have h31 := h20.new_ hn
    have h32 := h21.new_ hn
    have h33 := h22.new_ hn
    have h34 := h23.new_ hn
    have h35 := h24.transNew hn
    clear h15 h16 h17 h18 h19 h20 h21 h22 h23 h24 hn
    go_wp2
    go_ret
    exact ⟨rfl, h35⟩
  have k36 : w14.cell? ⟨qz, 0, none⟩ = some (.bool bz) := h20.cell 0
  have k37 : w14.cell? ⟨qz, 1, none⟩ = some (.slice Az mz.length cz) := h20.cell 1
  go_wp2_with fail
  clear k36 k37
  refine (few_any _ _ mz _ h19).mono ?_
  rintro e w38 ⟨rfl, hn⟩
  have h39 := h15.new_ hn
  have h40 := h16.new_ hn
  have h41 := h17.new_ hn
  have h42 := h18.new_ hn
  have h43 := h19.new_ hn
  have h44 := h20.new_ hn
  have h45 := h21.new_ hn
  have h46 := h22.new_ hn
  have h47 := h23.new_ hn
  have h48 := h24.transNew hn
  clear h15 h16 h17 h18 h19 h20 h21 h22 h23 h24 hn
  obtain ⟨d, hd⟩ : ∃ d, d = decide (mz.length ≤ 40) := ⟨_, rfl⟩
  rw [← hd]
  clear hd
  cases d
  · skip
    go_wp2_with fail
    refine (first_any _).mono ?_
    rintro e w49 ⟨rfl, hn⟩
    have h50 := h39.new_ hn
    have h51 := h40.new_ hn
    have h52 := h41.new_ hn
    have h53 := h42.new_ hn
    have h54 := h43.new_ hn
    have h55 := h44.new_ hn
    have h56 := h45.new_ hn
    have h57 := h46.new_ hn
    have h58 := h47.new_ hn
    have h59 := h48.transNew hn
    clear h39 h40 h41 h42 h43 h44 h45 h46 h47 h48 hn
    go_wp2
    go_ret
    exact ⟨rfl, h59⟩
  have k60 : w38.cell? ⟨qu, 0, none⟩ = some (.bool bu) := h47.cell 0
  have k61 : w38.cell? ⟨qu, 1, none⟩ = some (.slice Au mu.length cu) := h47.cell 1
  go_wp2_with fail
  clear k60 k61
  refine (few_any _ _ mu _ h46).mono ?_
  rintro e w62 ⟨rfl, hn⟩
  have h63 := h39.new_ hn
  have h64 := h40.new_ hn
  have h65 := h41.new_ hn
  have h66 := h42.new_ hn
  have h67 := h43.new_ hn
  have h68 := h44.new_ hn
  have h69 := h45.new_ hn
  have h70 := h46.new_ hn
  have h71 := h47.new_ hn
  have h72 := h48.transNew hn
  clear h39 h40 h41 h42 h43 h44 h45 h46 h47 h48 hn
  obtain ⟨d, hd⟩ : ∃ d, d = decide (mu.length ≤ 40) := ⟨_, rfl⟩
  rw [← hd]
  clear hd
  cases d
  · skip
    go_wp2_with fail
    refine (first_any _).mono ?_
    rintro e w73 ⟨rfl, hn⟩
    have h74 := h63.new_ hn
    have h75 := h64.new_ hn
    have h76 := h65.new_ hn
    have h77 := h66.new_ hn
    have h78 := h67.new_ hn
    have h79 := h68.new_ hn
    have h80 := h69.new_ hn
    have h81 := h70.new_ hn
    have h82 := h71.new_ hn
    have h83 := h72.transNew hn
    clear h63 h64 h65 h66 h67 h68 h69 h70 h71 h72 hn
    go_wp2
    go_ret
    exact ⟨rfl, h83⟩
  obtain ⟨p, hp⟩ : ∃ p, p = cmpZ a b := ⟨_, rfl⟩
  obtain ⟨q, hq⟩ : ∃ p, p = cmpZ b c := ⟨_, rfl⟩
  obtain ⟨r, hr⟩ : ∃ p, p = cmpZ a c := ⟨_, rfl⟩
  have hP := hide hp
  have hQ := hide hq
  have hR := hide hr
  clear hp hq hr
  go_wp2_with fail
  have hS : ∀ w', New w62 w' → (Blk w' qx 24 [.bool bx, .slice Ax mx.length cx] ∧ Blk w' qz 24 [.bool bz, .slice Az mz.length cz] ∧ Blk w' qu 24 [.bool bu, .slice Au mu.length cu]) := fun w' hn => ⟨h65.new_ hn, h68.new_ hn, h71.new_ hn⟩
  refine wp_region_dm (fun w' => Blk w' qx 24 [.bool bx, .slice Ax mx.length cx] ∧ Blk w' qz 24 [.bool bz, .slice Az mz.length cz] ∧ Blk w' qu 24 [.bool bu, .slice Au mu.length cu]) [(0, true), (1, true), (3, true), (4, true), (6, true), (7, true), (2, false), (5, false), (8, false), (9, true), (10, true), (11, true)] (by kernel_rfl) (by kernel_rfl) (fun _ _ d _ _ h => by cases d <;> exact h) (hS _ (Upd.refl _ _).drew) ?_
  refine st_take (a' := ?_) rfl rfl (y_load2 rfl rfl Try.isAgg24 Try.sizeOf24 (fun _ h => h.1)) ?_ ?_
  rotate_left; (simp only [Act.put, List.setIfInBounds_toArray, List.set_cons_zero, List.set_cons_succ]; rfl)
  refine st_take (a' := ?_) rfl rfl (y_load2 rfl rfl Try.isAgg24 Try.sizeOf24 (fun _ h => h.2.1)) ?_ ?_
  rotate_left; (simp only [Act.put, List.setIfInBounds_toArray, List.set_cons_zero, List.set_cons_succ]; rfl)
  refine st_take (a' := ?_) rfl rfl (y_load2 rfl rfl Try.isAgg24 Try.sizeOf24 (fun _ h => h.2.1)) ?_ ?_
  rotate_left; (simp only [Act.put, List.setIfInBounds_toArray, List.set_cons_zero, List.set_cons_succ]; rfl)
  refine st_take (a' := ?_) rfl rfl (y_load2 rfl rfl Try.isAgg24 Try.sizeOf24 (fun _ h => h.2.2)) ?_ ?_
  rotate_left; (simp only [Act.put, List.setIfInBounds_toArray, List.set_cons_zero, List.set_cons_succ]; rfl)
  refine st_take (a' := ?_) rfl rfl (y_load2 rfl rfl Try.isAgg24 Try.sizeOf24 (fun _ h => h.1)) ?_ ?_
  rotate_left; (simp only [Act.put, List.setIfInBounds_toArray, List.set_cons_zero, List.set_cons_succ]; rfl)
  refine st_take (a' := ?_) rfl rfl (y_load2 rfl rfl Try.isAgg24 Try.sizeOf24 (fun _ h => h.2.2)) ?_ ?_
  rotate_left; (simp only [Act.put, List.setIfInBounds_toArray, List.set_cons_zero, List.set_cons_succ]; rfl)
  refine st_act rfl rfl fun K hK => a_call (args := #[.agg #[.bool bx, .slice Ax mx.length cx], .agg #[.bool bz, .slice Az mz.length cz]]) rfl rfl (fun w => by kernel_rfl) (cmpz_any _ _ a b _ (h63.new_ (Upd.refl _ _).drew) (h66.new_ (Upd.refl _ _).drew)) ?_
  rintro e w50 ⟨rfl, hm1⟩
  rw [← hP.out]
  have hq1_1 := (show New _ _ from (Upd.refl _ _).drew).transNew hm1
  refine ⟨_, rfl, hK _ _ (hS _ hq1_1) ?_⟩
  simp only [Act.put, List.setIfInBounds_toArray, List.set_cons_zero, List.set_cons_succ]
  refine st_act rfl rfl fun K hK => a_call (args := #[.agg #[.bool bz, .slice Az mz.length cz], .agg #[.bool bu, .slice Au mu.length cu]]) rfl rfl (fun w => by kernel_rfl) (cmpz_any _ _ b c _ (h66.new_ hq1_1) (h69.new_ hq1_1)) ?_
  rintro e w51 ⟨rfl, hm2⟩
  rw [← hQ.out]
  have hq1_2 := (show New _ _ from hq1_1).transNew hm2
  refine ⟨_, rfl, hK _ _ (hS _ hq1_2) ?_⟩
  simp only [Act.put, List.setIfInBounds_toArray, List.set_cons_zero, List.set_cons_succ]
  refine st_act rfl rfl fun K hK => a_call (args := #[.agg #[.bool bx, .slice Ax mx.length cx], .agg #[.bool bu, .slice Au mu.length cu]]) rfl rfl (fun w => by kernel_rfl) (cmpz_any _ _ a c _ (h63.new_ hq1_2) (h69.new_ hq1_2)) ?_
  rintro e w52 ⟨rfl, hm3⟩
  rw [← hR.out]
  have hq1_3 := (show New _ _ from hq1_2).transNew hm3
  refine ⟨_, rfl, hK _ _ (hS _ hq1_3) ?_⟩
  simp only [Act.put, List.setIfInBounds_toArray, List.set_cons_zero, List.set_cons_succ]
  refine st_take (a' := ?_) rfl rfl (y_assign (v := .int .i64 p) rfl rfl) ?_ ?_
  rotate_left; (simp only [Act.put, List.setIfInBounds_toArray, List.set_cons_zero, List.set_cons_succ]; rfl)
  refine st_take (a' := ?_) rfl rfl (y_assign (v := .int .i64 q) rfl rfl) ?_ ?_
  rotate_left; (simp only [Act.put, List.setIfInBounds_toArray, List.set_cons_zero, List.set_cons_succ]; rfl)
  refine st_take (a' := ?_) rfl rfl (y_assign (v := .int .i64 r) rfl rfl) ?_ ?_
  rotate_left; (simp only [Act.put, List.setIfInBounds_toArray, List.set_cons_zero, List.set_cons_succ]; rfl)
  refine st_nil ?_
  have hd84 := (show New _ _ from hq1_3)
  clear hS hq1_1 hq1_2 hq1_3
  have h85 := h63.new_ hd84
  have h86 := h64.new_ hd84
  have h87 := h65.new_ hd84
  have h88 := h66.new_ hd84
  have h89 := h67.new_ hd84
  have h90 := h68.new_ hd84
  have h91 := h69.new_ hd84
  have h92 := h70.new_ hd84
  have h93 := h71.new_ hd84
  have h94 := h72.transNew hd84
  clear h63 h64 h65 h66 h67 h68 h69 h70 h71 h72 hd84
  clear hm1 hm2 hm3
  have h3 : p = -1 ∨ p = 0 ∨ p = 1 := by rw [hP.out]; exact cmpZ_three a b
  rcases h3 with rfl | rfl | rfl
  · skip
    by_cases hq0 : q ≤ 0
    · skip
      have hqt : decide (q ≤ 0) = true := by simpa using hq0
      have hrf : decide (0 < r) = false := by
        have h1 : a ≤ b := cmpZ_le.mp (by rw [← hP.out]; decide)
        have h2 : b ≤ c := cmpZ_le.mp (by rw [← hQ.out]; exact hq0)
        have h3 : cmpZ a c ≤ 0 := cmpZ_le.mpr (by omega)
        rw [← hR.out] at h3
        simpa using h3
      clear hq0
      have HH := hide (And.intro hqt hrf)
      clear hqt hrf
      have hsw : cmpZ b a = 1 := by rw [cmpZ_swap, ← hP.out]; try rfl
      have hng : cmpZ (-b) (-a) = -1 := by rw [cmpZ_neg, ← hP.out]
      have hsm : decide (a = b) = false := by rw [cmpZ_same, ← hP.out]; try rfl
      have hla := h85.lt
      have hlb := h88.lt
      go_wp2_with fail
      have hS : ∀ w', New w52 w' → (Blk w' qx 24 [.bool bx, .slice Ax mx.length cx] ∧ Blk w' qz 24 [.bool bz, .slice Az mz.length cz]) := fun w' hn => ⟨h87.new_ hn, h90.new_ hn⟩
      refine wp_region_dm (fun w' => Blk w' qx 24 [.bool bx, .slice Ax mx.length cx] ∧ Blk w' qz 24 [.bool bz, .slice Az mz.length cz]) [(0, true), (1, true), (2, true), (3, true), (4, true), (5, true), (6, true), (7, true), (8, true), (9, true), (10, true), (11, true), (12, true), (13, true), (14, true), (15, true), (16, true), (17, true), (18, true), (19, true), (20, true), (22, true), (23, true), (21, false), (24, true), (25, true), (26, true), (27, true), (28, true), (29, true), (30, true), (31, false), (32, true), (33, true), (34, true), (35, true), (37, true), (40, true), (36, false), (38, false), (39, false), (41, true), (42, true)] (by kernel_rfl) (by kernel_rfl) (fun _ _ d _ _ h => by cases d <;> exact h) (hS _ (Upd.refl _ _).drew) ?_
      refine st_take (a' := ?_) rfl rfl (y_move (v := .int .i64 (-1)) rfl rfl) ?_ ?_
      rotate_left; (simp only [Act.put, List.setIfInBounds_toArray, List.set_cons_zero, List.set_cons_succ]; rfl)
      refine st_take (a' := ?_) rfl rfl (y_run (v := .bool true) fun w => by kernel_rfl) ?_ ?_
      rotate_left; (simp only [Act.put, List.setIfInBounds_toArray, List.set_cons_zero, List.set_cons_succ]; rfl)
      refine st_take (a' := ?_) rfl rfl (y_move (v := .bool true) rfl rfl) ?_ ?_
      rotate_left; (simp only [Act.put, List.setIfInBounds_toArray, List.set_cons_zero, List.set_cons_succ]; rfl)
      refine st_take (a' := ?_) rfl rfl (y_move (v := .int .i64 q) rfl rfl) ?_ ?_
      rotate_left; (simp only [Act.put, List.setIfInBounds_toArray, List.set_cons_zero, List.set_cons_succ]; rfl)
      refine st_take (a' := ?_) rfl rfl (y_bin (k := .i64) (m := q) (n := 0) (v := .bool true) rfl rfl rfl (r_leq HH.out.1)) ?_ ?_
      rotate_left; (simp only [Act.put, List.setIfInBounds_toArray, List.set_cons_zero, List.set_cons_succ]; rfl)
      refine st_take (a' := ?_) rfl rfl (y_pick (b := true) (v := .bool true) rfl rfl rfl) ?_ ?_
      rotate_left; (simp only [Act.put, List.setIfInBounds_toArray, List.set_cons_zero, List.set_cons_succ]; rfl)
      refine st_take (a' := ?_) rfl rfl (y_move (v := .bool true) rfl rfl) ?_ ?_
      rotate_left; (simp only [Act.put, List.setIfInBounds_toArray, List.set_cons_zero, List.set_cons_succ]; rfl)
      refine st_take (a' := ?_) rfl rfl (y_move (v := .int .i64 r) rfl rfl) ?_ ?_
      rotate_left; (simp only [Act.put, List.setIfInBounds_toArray, List.set_cons_zero, List.set_cons_succ]; rfl)
      refine st_take (a' := ?_) rfl rfl (y_bin (k := .i64) (m := r) (n := 0) (v := .bool false) rfl rfl rfl (r_gtr HH.out.2)) ?_ ?_
      rotate_left; (simp only [Act.put, List.setIfInBounds_toArray, List.set_cons_zero, List.set_cons_succ]; rfl)
      refine st_take (a' := ?_) rfl rfl (y_pick (b := true) (v := .bool false) rfl rfl rfl) ?_ ?_
      rotate_left; (simp only [Act.put, List.setIfInBounds_toArray, List.set_cons_zero, List.set_cons_succ]; rfl)
      refine st_take (a' := ?_) rfl rfl (y_move (v := .bool false) rfl rfl) ?_ ?_
      rotate_left; (simp only [Act.put, List.setIfInBounds_toArray, List.set_cons_zero, List.set_cons_succ]; rfl)
      refine st_take (a' := ?_) rfl rfl (y_move (v := .int .i64 (-1)) rfl rfl) ?_ ?_
      rotate_left; (simp only [Act.put, List.setIfInBounds_toArray, List.set_cons_zero, List.set_cons_succ]; rfl)
      refine st_take (a' := ?_) rfl rfl (y_run (v := .bool false) fun w => by kernel_rfl) ?_ ?_
      rotate_left; (simp only [Act.put, List.setIfInBounds_toArray, List.set_cons_zero, List.set_cons_succ]; rfl)
      refine st_take (a' := ?_) rfl rfl (y_pick (b := false) (v := .bool false) rfl rfl rfl) ?_ ?_
      rotate_left; (simp only [Act.put, List.setIfInBounds_toArray, List.set_cons_zero, List.set_cons_succ]; rfl)
      refine st_take (a' := ?_) rfl rfl (y_move (v := .bool false) rfl rfl) ?_ ?_
      rotate_left; (simp only [Act.put, List.setIfInBounds_toArray, List.set_cons_zero, List.set_cons_succ]; rfl)
      refine st_take (a' := ?_) rfl rfl (y_move (v := .int .i64 (-1)) rfl rfl) ?_ ?_
      rotate_left; (simp only [Act.put, List.setIfInBounds_toArray, List.set_cons_zero, List.set_cons_succ]; rfl)
      refine st_take (a' := ?_) rfl rfl (y_run (v := .bool false) fun w => by kernel_rfl) ?_ ?_
      rotate_left; (simp only [Act.put, List.setIfInBounds_toArray, List.set_cons_zero, List.set_cons_succ]; rfl)
      refine st_take (a' := ?_) rfl rfl (y_pick (b := false) (v := .bool false) rfl rfl rfl) ?_ ?_
      rotate_left; (simp only [Act.put, List.setIfInBounds_toArray, List.set_cons_zero, List.set_cons_succ]; rfl)
      refine st_take (a' := ?_) rfl rfl (y_move (v := .bool false) rfl rfl) ?_ ?_
      rotate_left; (simp only [Act.put, List.setIfInBounds_toArray, List.set_cons_zero, List.set_cons_succ]; rfl)
      refine st_take (a' := ?_) rfl rfl (y_load2 rfl rfl Try.isAgg24 Try.sizeOf24 (fun _ h => h.2)) ?_ ?_
      rotate_left; (simp only [Act.put, List.setIfInBounds_toArray, List.set_cons_zero, List.set_cons_succ]; rfl)
      refine st_take (a' := ?_) rfl rfl (y_load2 rfl rfl Try.isAgg24 Try.sizeOf24 (fun _ h => h.1)) ?_ ?_
      rotate_left; (simp only [Act.put, List.setIfInBounds_toArray, List.set_cons_zero, List.set_cons_succ]; rfl)
      refine st_take (a' := ?_) rfl rfl (y_move (v := .int .i64 (-1)) rfl rfl) ?_ ?_
      rotate_left; (simp only [Act.put, List.setIfInBounds_toArray, List.set_cons_zero, List.set_cons_succ]; rfl)
      refine st_take (a' := ?_) rfl rfl (y_run (v := .int .i64 1) fun w => by kernel_rfl) ?_ ?_
      rotate_left; (simp only [Act.put, List.setIfInBounds_toArray, List.set_cons_zero, List.set_cons_succ]; rfl)
      refine st_act rfl rfl fun K hK => a_call (args := #[.agg #[.bool bz, .slice Az mz.length cz], .agg #[.bool bx, .slice Ax mx.length cx]]) rfl rfl (fun w => by kernel_rfl) (cmpz_any _ _ b a _ (h88.new_ (Upd.refl _ _).drew) (h85.new_ (Upd.refl _ _).drew)) ?_
      rintro e w60 ⟨rfl, hm101⟩
      rw [hsw]
      have hq2_1 := (show New _ _ from (Upd.refl _ _).drew).transNew hm101
      refine ⟨_, rfl, hK _ _ (hS _ hq2_1) ?_⟩
      simp only [Act.put, List.setIfInBounds_toArray, List.set_cons_zero, List.set_cons_succ]
      refine st_take (a' := ?_) rfl rfl (y_run (v := .bool false) fun w => by kernel_rfl) ?_ ?_
      rotate_left; (simp only [Act.put, List.setIfInBounds_toArray, List.set_cons_zero, List.set_cons_succ]; rfl)
      refine st_take (a' := ?_) rfl rfl (y_pick (b := false) (v := .bool false) rfl rfl rfl) ?_ ?_
      rotate_left; (simp only [Act.put, List.setIfInBounds_toArray, List.set_cons_zero, List.set_cons_succ]; rfl)
      refine st_take (a' := ?_) rfl rfl (y_move (v := .bool false) rfl rfl) ?_ ?_
      rotate_left; (simp only [Act.put, List.setIfInBounds_toArray, List.set_cons_zero, List.set_cons_succ]; rfl)
      refine st_take (a' := ?_) rfl rfl (y_move (v := .int .i64 (-1)) rfl rfl) ?_ ?_
      rotate_left; (simp only [Act.put, List.setIfInBounds_toArray, List.set_cons_zero, List.set_cons_succ]; rfl)
      refine st_take (a' := ?_) rfl rfl (y_run (v := .bool false) fun w => by kernel_rfl) ?_ ?_
      rotate_left; (simp only [Act.put, List.setIfInBounds_toArray, List.set_cons_zero, List.set_cons_succ]; rfl)
      refine st_take (a' := ?_) rfl rfl (y_load2 rfl rfl Try.isAgg24 Try.sizeOf24 (fun _ h => h.1)) ?_ ?_
      rotate_left; (simp only [Act.put, List.setIfInBounds_toArray, List.set_cons_zero, List.set_cons_succ]; rfl)
      refine st_take (a' := ?_) rfl rfl (y_load2 rfl rfl Try.isAgg24 Try.sizeOf24 (fun _ h => h.2)) ?_ ?_
      rotate_left; (simp only [Act.put, List.setIfInBounds_toArray, List.set_cons_zero, List.set_cons_succ]; rfl)
      refine st_act rfl rfl fun K hK => a_call (args := #[.agg #[.bool bx, .slice Ax mx.length cx], .agg #[.bool bz, .slice Az mz.length cz]]) rfl rfl (fun w => by kernel_rfl) (same_any _ _ a b _ (h85.new_ hq2_1) (h88.new_ hq2_1)) ?_
      rintro e w61 ⟨rfl, hm102⟩
      rw [hsm]
      have hq2_2 := (show New _ _ from hq2_1).transNew hm102
      refine ⟨_, rfl, hK _ _ (hS _ hq2_2) ?_⟩
      simp only [Act.put, List.setIfInBounds_toArray, List.set_cons_zero, List.set_cons_succ]
      refine st_take (a' := ?_) rfl rfl (y_run (v := .bool false) fun w => by kernel_rfl) ?_ ?_
      rotate_left; (simp only [Act.put, List.setIfInBounds_toArray, List.set_cons_zero, List.set_cons_succ]; rfl)
      refine st_take (a' := ?_) rfl rfl (y_pick (b := false) (v := .bool false) rfl rfl rfl) ?_ ?_
      rotate_left; (simp only [Act.put, List.setIfInBounds_toArray, List.set_cons_zero, List.set_cons_succ]; rfl)
      refine st_take (a' := ?_) rfl rfl (y_move (v := .bool false) rfl rfl) ?_ ?_
      rotate_left; (simp only [Act.put, List.setIfInBounds_toArray, List.set_cons_zero, List.set_cons_succ]; rfl)
      refine st_take (a' := ?_) rfl rfl (y_load2 rfl rfl Try.isAgg24 Try.sizeOf24 (fun _ h => h.2)) ?_ ?_
      rotate_left; (simp only [Act.put, List.setIfInBounds_toArray, List.set_cons_zero, List.set_cons_succ]; rfl)
      refine st_take (a' := ?_) rfl rfl (y_load2 rfl rfl Try.isAgg24 Try.sizeOf24 (fun _ h => h.1)) ?_ ?_
      rotate_left; (simp only [Act.put, List.setIfInBounds_toArray, List.set_cons_zero, List.set_cons_succ]; rfl)
      refine st_take (a' := ?_) rfl rfl (y_move (v := .int .i64 (-1)) rfl rfl) ?_ ?_
      rotate_left; (simp only [Act.put, List.setIfInBounds_toArray, List.set_cons_zero, List.set_cons_succ]; rfl)
      refine st_act rfl rfl fun K hK => a_call (args := #[.agg #[.bool bz, .slice Az mz.length cz]]) rfl rfl (fun w => by kernel_rfl) (negz_any _ b _ (h88.new_ hq2_2)) ?_
      rintro e w62 ⟨f103, A103, n103, c103, rfl, hc103, hm103⟩
      have hq2_3 := (show New _ _ from hq2_2).transNew hm103
      refine ⟨_, rfl, hK _ _ (hS _ hq2_3) ?_⟩
      simp only [Act.put, List.setIfInBounds_toArray, List.set_cons_zero, List.set_cons_succ]
      refine st_act rfl rfl fun K hK => a_call (args := #[.agg #[.bool bx, .slice Ax mx.length cx]]) rfl rfl (fun w => by kernel_rfl) (negz_any _ a _ (h85.new_ hq2_3)) ?_
      rintro e w63 ⟨f104, A104, n104, c104, rfl, hc104, hm104⟩
      have hq2_4 := (show New _ _ from hq2_3).transNew hm104
      refine ⟨_, rfl, hK _ _ (hS _ hq2_4) ?_⟩
      simp only [Act.put, List.setIfInBounds_toArray, List.set_cons_zero, List.set_cons_succ]
      refine st_act rfl rfl fun K hK => a_call (args := #[.agg #[.bool f103, .slice A103 n103 c103], .agg #[.bool f104, .slice A104 n104 c104]]) rfl rfl (fun w => by kernel_rfl) (cmpz_any _ _ (-b) (-a) _ ((hc103.big (by rw [Int.natAbs_neg]; exact hlb)).new_ hm104) (hc104.big (by rw [Int.natAbs_neg]; exact hla))) ?_
      rintro e w64 ⟨rfl, hm105⟩
      rw [hng]
      have hq2_5 := (show New _ _ from hq2_4).transNew hm105
      refine ⟨_, rfl, hK _ _ (hS _ hq2_5) ?_⟩
      simp only [Act.put, List.setIfInBounds_toArray, List.set_cons_zero, List.set_cons_succ]
      refine st_take (a' := ?_) rfl rfl (y_run (v := .bool false) fun w => by kernel_rfl) ?_ ?_
      rotate_left; (simp only [Act.put, List.setIfInBounds_toArray, List.set_cons_zero, List.set_cons_succ]; rfl)
      refine st_take (a' := ?_) rfl rfl (y_pick (b := false) (v := .bool false) rfl rfl rfl) ?_ ?_
      rotate_left; (simp only [Act.put, List.setIfInBounds_toArray, List.set_cons_zero, List.set_cons_succ]; rfl)
      refine st_nil ?_
      have hd95 := (show New _ _ from hq2_5)
      clear hS hq2_1 hq2_2 hq2_3 hq2_4 hq2_5
      have h96 := h85.new_ hd95
      have h97 := h86.new_ hd95
      have h98 := h87.new_ hd95
      have h99 := h88.new_ hd95
      have h100 := h89.new_ hd95
      have h101 := h90.new_ hd95
      have h102 := h91.new_ hd95
      have h103 := h92.new_ hd95
      have h104 := h93.new_ hd95
      have h105 := h94.transNew hd95
      clear h85 h86 h87 h88 h89 h90 h91 h92 h93 h94 hd95
      clear hm101 hm102 hm103 hm104 hm105 hsw hng hsm hla hlb hc103 hc104
      have k111 : w64.cell? ⟨qx, 0, none⟩ = some (.bool bx) := h98.cell 0
      have k112 : w64.cell? ⟨qx, 1, none⟩ = some (.slice Ax mx.length cx) := h98.cell 1
      have k113 : w64.cell? ⟨qu, 0, none⟩ = some (.bool bu) := h104.cell 0
      have k114 : w64.cell? ⟨qu, 1, none⟩ = some (.slice Au mu.length cu) := h104.cell 1
      go_wp2_with fail
      clear k111 k112 k113 k114
      refine (add_any _ _ (a) (c) _ h96 h102).mono ?_
      rintro e w115 ⟨f106, A107, n108, c109, rfl, hc110, hn⟩
      have h116 := h96.new_ hn
      have h117 := h97.new_ hn
      have h118 := h98.new_ hn
      have h119 := h99.new_ hn
      have h120 := h100.new_ hn
      have h121 := h101.new_ hn
      have h122 := h102.new_ hn
      have h123 := h103.new_ hn
      have h124 := h104.new_ hn
      have h125 := h105.transNew hn
      clear h96 h97 h98 h99 h100 h101 h102 h103 h104 h105 hn
      obtain ⟨e1, hk⟩ : ∃ o, o = okI (a + c) := ⟨_, rfl⟩
      rw [← hk]
      have He1 := hide hk
      clear hk
      have hz126 := hc110.big (capI_lt _)
      clear hc110
      go_upto_region 9 with (fail)
      obtain ⟨w127, hw⟩ : ∃ w', w' = w115.alloc (.cells #[.bool f106, .slice A107 n108 c109] 24) := ⟨_, rfl⟩
      have hn : New w115 w127 := by rw [hw]; exact (Upd.refl _ _).alloc _
      have hb128 : Blk w127 w115.heap.size 24 [.bool f106, .slice A107 n108 c109] := by rw [hw]; exact Blk.new w115 _ _
      rw [← hw]
      clear hw
      obtain ⟨q129, hq⟩ : ∃ q, q = w115.heap.size := ⟨_, rfl⟩
      rw [← hq] at hb128 ⊢
      clear hq
      have h130 := h116.new_ hn
      have h131 := h117.new_ hn
      have h132 := h118.new_ hn
      have h133 := h119.new_ hn
      have h134 := h120.new_ hn
      have h135 := h121.new_ hn
      have h136 := h122.new_ hn
      have h137 := h123.new_ hn
      have h138 := h124.new_ hn
      have h139 := h125.transNew hn
      have h140 := hz126.new_ hn
      clear h116 h117 h118 h119 h120 h121 h122 h123 h124 h125 hz126 hn
      have k146 : w127.cell? ⟨qz, 0, none⟩ = some (.bool bz) := h135.cell 0
      have k147 : w127.cell? ⟨qz, 1, none⟩ = some (.slice Az mz.length cz) := h135.cell 1
      have k148 : w127.cell? ⟨qu, 0, none⟩ = some (.bool bu) := h138.cell 0
      have k149 : w127.cell? ⟨qu, 1, none⟩ = some (.slice Au mu.length cu) := h138.cell 1
      go_wp2_with fail
      clear k146 k147 k148 k149
      refine (add_any _ _ (b) (c) _ h133 h136).mono ?_
      rintro e w150 ⟨f141, A142, n143, c144, rfl, hc145, hn⟩
      have h151 := h130.new_ hn
      have h152 := h131.new_ hn
      have h153 := h132.new_ hn
      have h154 := h133.new_ hn
      have h155 := h134.new_ hn
      have h156 := h135.new_ hn
      have h157 := h136.new_ hn
      have h158 := h137.new_ hn
      have h159 := h138.new_ hn
      have h160 := h139.transNew hn
      have h161 := h140.new_ hn
      have h162 := hb128.new_ hn
      clear h130 h131 h132 h133 h134 h135 h136 h137 h138 h139 h140 hb128 hn
      obtain ⟨e2, hk⟩ : ∃ o, o = okI (b + c) := ⟨_, rfl⟩
      rw [← hk]
      have He2 := hide hk
      clear hk
      have hz163 := hc145.big (capI_lt _)
      clear hc145
      go_upto_region 10 with (fail)
      obtain ⟨w164, hw⟩ : ∃ w', w' = w150.alloc (.cells #[.bool f141, .slice A142 n143 c144] 24) := ⟨_, rfl⟩
      have hn : New w150 w164 := by rw [hw]; exact (Upd.refl _ _).alloc _
      have hb165 : Blk w164 w150.heap.size 24 [.bool f141, .slice A142 n143 c144] := by rw [hw]; exact Blk.new w150 _ _
      rw [← hw]
      clear hw
      obtain ⟨q166, hq⟩ : ∃ q, q = w150.heap.size := ⟨_, rfl⟩
      rw [← hq] at hb165 ⊢
      clear hq
      have h167 := h151.new_ hn
      have h168 := h152.new_ hn
      have h169 := h153.new_ hn
      have h170 := h154.new_ hn
      have h171 := h155.new_ hn
      have h172 := h156.new_ hn
      have h173 := h157.new_ hn
      have h174 := h158.new_ hn
      have h175 := h159.new_ hn
      have h176 := h160.transNew hn
      have h177 := h161.new_ hn
      have h178 := h162.new_ hn
      have h179 := hz163.new_ hn
      clear h151 h152 h153 h154 h155 h156 h157 h158 h159 h160 h161 h162 hz163 hn
      go_wp2_with fail
      refine (first_any _).mono ?_
      rintro e w180 ⟨rfl, hn⟩
      have h181 := h167.new_ hn
      have h182 := h168.new_ hn
      have h183 := h169.new_ hn
      have h184 := h170.new_ hn
      have h185 := h171.new_ hn
      have h186 := h172.new_ hn
      have h187 := h173.new_ hn
      have h188 := h174.new_ hn
      have h189 := h175.new_ hn
      have h190 := h176.transNew hn
      have h191 := h177.new_ hn
      have h192 := h178.new_ hn
      have h193 := h179.new_ hn
      have h194 := hb165.new_ hn
      clear h167 h168 h169 h170 h171 h172 h173 h174 h175 h176 h177 h178 h179 hb165 hn
      cases e1
      · skip
        go_wp2
        go_ret
        exact ⟨rfl, h190⟩
      cases e2
      · skip
        go_wp2
        go_ret
        exact ⟨rfl, h190⟩
      have k195 : w180.cell? ⟨q129, 0, none⟩ = some (.bool f106) := h192.cell 0
      have k196 : w180.cell? ⟨q129, 1, none⟩ = some (.slice A107 n108 c109) := h192.cell 1
      have k197 : w180.cell? ⟨q166, 0, none⟩ = some (.bool f141) := h194.cell 0
      have k198 : w180.cell? ⟨q166, 1, none⟩ = some (.slice A142 n143 c144) := h194.cell 1
      go_wp2_with fail
      clear k195 k196 k197 k198
      refine (cmpz_any _ _ (capI (a + c)) (capI (b + c)) _ h191 h193).mono ?_
      rintro e w199 ⟨rfl, hn⟩
      have h200 := h181.new_ hn
      have h201 := h182.new_ hn
      have h202 := h183.new_ hn
      have h203 := h184.new_ hn
      have h204 := h185.new_ hn
      have h205 := h186.new_ hn
      have h206 := h187.new_ hn
      have h207 := h188.new_ hn
      have h208 := h189.new_ hn
      have h209 := h190.transNew hn
      have h210 := h191.new_ hn
      have h211 := h192.new_ hn
      have h212 := h193.new_ hn
      have h213 := h194.new_ hn
      clear h181 h182 h183 h184 h185 h186 h187 h188 h189 h190 h191 h192 h193 h194 hn
      rw [capI_ok He1.out, capI_ok He2.out, cmpZ_add, ← hP.out]
      go_wp2
      go_ret
      exact ⟨rfl, h209⟩
    · skip
      have hqf : decide (q ≤ 0) = false := by simpa using hq0
      clear hq0
      have HH := hide hqf
      clear hqf
      have hsw : cmpZ b a = 1 := by rw [cmpZ_swap, ← hP.out]; try rfl
      have hng : cmpZ (-b) (-a) = -1 := by rw [cmpZ_neg, ← hP.out]
      have hsm : decide (a = b) = false := by rw [cmpZ_same, ← hP.out]; try rfl
      have hla := h85.lt
      have hlb := h88.lt
      go_wp2_with fail
      have hS : ∀ w', New w52 w' → (Blk w' qx 24 [.bool bx, .slice Ax mx.length cx] ∧ Blk w' qz 24 [.bool bz, .slice Az mz.length cz]) := fun w' hn => ⟨h87.new_ hn, h90.new_ hn⟩
      refine wp_region_dm (fun w' => Blk w' qx 24 [.bool bx, .slice Ax mx.length cx] ∧ Blk w' qz 24 [.bool bz, .slice Az mz.length cz]) [(0, true), (1, true), (2, true), (3, true), (4, true), (5, true), (6, true), (7, true), (8, true), (9, true), (10, true), (11, true), (12, true), (13, true), (14, true), (15, true), (16, true), (17, true), (18, true), (19, true), (20, true), (22, true), (23, true), (21, false), (24, true), (25, true), (26, true), (27, true), (28, true), (29, true), (30, true), (31, false), (32, true), (33, true), (34, true), (35, true), (37, true), (40, true), (36, false), (38, false), (39, false), (41, true), (42, true)] (by kernel_rfl) (by kernel_rfl) (fun _ _ d _ _ h => by cases d <;> exact h) (hS _ (Upd.refl _ _).drew) ?_
      refine st_take (a' := ?_) rfl rfl (y_move (v := .int .i64 (-1)) rfl rfl) ?_ ?_
      rotate_left; (simp only [Act.put, List.setIfInBounds_toArray, List.set_cons_zero, List.set_cons_succ]; rfl)
      refine st_take (a' := ?_) rfl rfl (y_run (v := .bool true) fun w => by kernel_rfl) ?_ ?_
      rotate_left; (simp only [Act.put, List.setIfInBounds_toArray, List.set_cons_zero, List.set_cons_succ]; rfl)
      refine st_take (a' := ?_) rfl rfl (y_move (v := .bool true) rfl rfl) ?_ ?_
      rotate_left; (simp only [Act.put, List.setIfInBounds_toArray, List.set_cons_zero, List.set_cons_succ]; rfl)
      refine st_take (a' := ?_) rfl rfl (y_move (v := .int .i64 q) rfl rfl) ?_ ?_
      rotate_left; (simp only [Act.put, List.setIfInBounds_toArray, List.set_cons_zero, List.set_cons_succ]; rfl)
      refine st_take (a' := ?_) rfl rfl (y_bin (k := .i64) (m := q) (n := 0) (v := .bool false) rfl rfl rfl (r_leq HH.out)) ?_ ?_
      rotate_left; (simp only [Act.put, List.setIfInBounds_toArray, List.set_cons_zero, List.set_cons_succ]; rfl)
      refine st_take (a' := ?_) rfl rfl (y_pick (b := true) (v := .bool false) rfl rfl rfl) ?_ ?_
      rotate_left; (simp only [Act.put, List.setIfInBounds_toArray, List.set_cons_zero, List.set_cons_succ]; rfl)
      refine st_take (a' := ?_) rfl rfl (y_move (v := .bool false) rfl rfl) ?_ ?_
      rotate_left; (simp only [Act.put, List.setIfInBounds_toArray, List.set_cons_zero, List.set_cons_succ]; rfl)
      refine st_skip (a' := ?_) rfl rfl ?_ ?_
      rotate_left; (simp only [Act.put, List.setIfInBounds_toArray, List.set_cons_zero, List.set_cons_succ]; rfl)
      refine st_skip (a' := ?_) rfl rfl ?_ ?_
      rotate_left; (simp only [Act.put, List.setIfInBounds_toArray, List.set_cons_zero, List.set_cons_succ]; rfl)
      refine st_take (a' := ?_) rfl rfl (y_pick (b := false) (v := .bool false) rfl rfl rfl) ?_ ?_
      rotate_left; (simp only [Act.put, List.setIfInBounds_toArray, List.set_cons_zero, List.set_cons_succ]; rfl)
      refine st_take (a' := ?_) rfl rfl (y_move (v := .bool false) rfl rfl) ?_ ?_
      rotate_left; (simp only [Act.put, List.setIfInBounds_toArray, List.set_cons_zero, List.set_cons_succ]; rfl)
      refine st_take (a' := ?_) rfl rfl (y_move (v := .int .i64 (-1)) rfl rfl) ?_ ?_
      rotate_left; (simp only [Act.put, List.setIfInBounds_toArray, List.set_cons_zero, List.set_cons_succ]; rfl)
      refine st_take (a' := ?_) rfl rfl (y_run (v := .bool false) fun w => by kernel_rfl) ?_ ?_
      rotate_left; (simp only [Act.put, List.setIfInBounds_toArray, List.set_cons_zero, List.set_cons_succ]; rfl)
      refine st_take (a' := ?_) rfl rfl (y_pick (b := false) (v := .bool false) rfl rfl rfl) ?_ ?_
      rotate_left; (simp only [Act.put, List.setIfInBounds_toArray, List.set_cons_zero, List.set_cons_succ]; rfl)
      refine st_take (a' := ?_) rfl rfl (y_move (v := .bool false) rfl rfl) ?_ ?_
      rotate_left; (simp only [Act.put, List.setIfInBounds_toArray, List.set_cons_zero, List.set_cons_succ]; rfl)
      refine st_take (a' := ?_) rfl rfl (y_move (v := .int .i64 (-1)) rfl rfl) ?_ ?_
      rotate_left; (simp only [Act.put, List.setIfInBounds_toArray, List.set_cons_zero, List.set_cons_succ]; rfl)
      refine st_take (a' := ?_) rfl rfl (y_run (v := .bool false) fun w => by kernel_rfl) ?_ ?_
      rotate_left; (simp only [Act.put, List.setIfInBounds_toArray, List.set_cons_zero, List.set_cons_succ]; rfl)
      refine st_take (a' := ?_) rfl rfl (y_pick (b := false) (v := .bool false) rfl rfl rfl) ?_ ?_
      rotate_left; (simp only [Act.put, List.setIfInBounds_toArray, List.set_cons_zero, List.set_cons_succ]; rfl)
      refine st_take (a' := ?_) rfl rfl (y_move (v := .bool false) rfl rfl) ?_ ?_
      rotate_left; (simp only [Act.put, List.setIfInBounds_toArray, List.set_cons_zero, List.set_cons_succ]; rfl)
      refine st_take (a' := ?_) rfl rfl (y_load2 rfl rfl Try.isAgg24 Try.sizeOf24 (fun _ h => h.2)) ?_ ?_
      rotate_left; (simp only [Act.put, List.setIfInBounds_toArray, List.set_cons_zero, List.set_cons_succ]; rfl)
      refine st_take (a' := ?_) rfl rfl (y_load2 rfl rfl Try.isAgg24 Try.sizeOf24 (fun _ h => h.1)) ?_ ?_
      rotate_left; (simp only [Act.put, List.setIfInBounds_toArray, List.set_cons_zero, List.set_cons_succ]; rfl)
      refine st_take (a' := ?_) rfl rfl (y_move (v := .int .i64 (-1)) rfl rfl) ?_ ?_
      rotate_left; (simp only [Act.put, List.setIfInBounds_toArray, List.set_cons_zero, List.set_cons_succ]; rfl)
      refine st_take (a' := ?_) rfl rfl (y_run (v := .int .i64 1) fun w => by kernel_rfl) ?_ ?_
      rotate_left; (simp only [Act.put, List.setIfInBounds_toArray, List.set_cons_zero, List.set_cons_succ]; rfl)
      refine st_act rfl rfl fun K hK => a_call (args := #[.agg #[.bool bz, .slice Az mz.length cz], .agg #[.bool bx, .slice Ax mx.length cx]]) rfl rfl (fun w => by kernel_rfl) (cmpz_any _ _ b a _ (h88.new_ (Upd.refl _ _).drew) (h85.new_ (Upd.refl _ _).drew)) ?_
      rintro e w60 ⟨rfl, hm101⟩
      rw [hsw]
      have hq3_1 := (show New _ _ from (Upd.refl _ _).drew).transNew hm101
      refine ⟨_, rfl, hK _ _ (hS _ hq3_1) ?_⟩
      simp only [Act.put, List.setIfInBounds_toArray, List.set_cons_zero, List.set_cons_succ]
      refine st_take (a' := ?_) rfl rfl (y_run (v := .bool false) fun w => by kernel_rfl) ?_ ?_
      rotate_left; (simp only [Act.put, List.setIfInBounds_toArray, List.set_cons_zero, List.set_cons_succ]; rfl)
      refine st_take (a' := ?_) rfl rfl (y_pick (b := false) (v := .bool false) rfl rfl rfl) ?_ ?_
      rotate_left; (simp only [Act.put, List.setIfInBounds_toArray, List.set_cons_zero, List.set_cons_succ]; rfl)
      refine st_take (a' := ?_) rfl rfl (y_move (v := .bool false) rfl rfl) ?_ ?_
      rotate_left; (simp only [Act.put, List.setIfInBounds_toArray, List.set_cons_zero, List.set_cons_succ]; rfl)
      refine st_take (a' := ?_) rfl rfl (y_move (v := .int .i64 (-1)) rfl rfl) ?_ ?_
      rotate_left; (simp only [Act.put, List.setIfInBounds_toArray, List.set_cons_zero, List.set_cons_succ]; rfl)
      refine st_take (a' := ?_) rfl rfl (y_run (v := .bool false) fun w => by kernel_rfl) ?_ ?_
      rotate_left; (simp only [Act.put, List.setIfInBounds_toArray, List.set_cons_zero, List.set_cons_succ]; rfl)
      refine st_take (a' := ?_) rfl rfl (y_load2 rfl rfl Try.isAgg24 Try.sizeOf24 (fun _ h => h.1)) ?_ ?_
      rotate_left; (simp only [Act.put, List.setIfInBounds_toArray, List.set_cons_zero, List.set_cons_succ]; rfl)
      refine st_take (a' := ?_) rfl rfl (y_load2 rfl rfl Try.isAgg24 Try.sizeOf24 (fun _ h => h.2)) ?_ ?_
      rotate_left; (simp only [Act.put, List.setIfInBounds_toArray, List.set_cons_zero, List.set_cons_succ]; rfl)
      refine st_act rfl rfl fun K hK => a_call (args := #[.agg #[.bool bx, .slice Ax mx.length cx], .agg #[.bool bz, .slice Az mz.length cz]]) rfl rfl (fun w => by kernel_rfl) (same_any _ _ a b _ (h85.new_ hq3_1) (h88.new_ hq3_1)) ?_
      rintro e w61 ⟨rfl, hm102⟩
      rw [hsm]
      have hq3_2 := (show New _ _ from hq3_1).transNew hm102
      refine ⟨_, rfl, hK _ _ (hS _ hq3_2) ?_⟩
      simp only [Act.put, List.setIfInBounds_toArray, List.set_cons_zero, List.set_cons_succ]
      refine st_take (a' := ?_) rfl rfl (y_run (v := .bool false) fun w => by kernel_rfl) ?_ ?_
      rotate_left; (simp only [Act.put, List.setIfInBounds_toArray, List.set_cons_zero, List.set_cons_succ]; rfl)
      refine st_take (a' := ?_) rfl rfl (y_pick (b := false) (v := .bool false) rfl rfl rfl) ?_ ?_
      rotate_left; (simp only [Act.put, List.setIfInBounds_toArray, List.set_cons_zero, List.set_cons_succ]; rfl)
      refine st_take (a' := ?_) rfl rfl (y_move (v := .bool false) rfl rfl) ?_ ?_
      rotate_left; (simp only [Act.put, List.setIfInBounds_toArray, List.set_cons_zero, List.set_cons_succ]; rfl)
      refine st_take (a' := ?_) rfl rfl (y_load2 rfl rfl Try.isAgg24 Try.sizeOf24 (fun _ h => h.2)) ?_ ?_
      rotate_left; (simp only [Act.put, List.setIfInBounds_toArray, List.set_cons_zero, List.set_cons_succ]; rfl)
      refine st_take (a' := ?_) rfl rfl (y_load2 rfl rfl Try.isAgg24 Try.sizeOf24 (fun _ h => h.1)) ?_ ?_
      rotate_left; (simp only [Act.put, List.setIfInBounds_toArray, List.set_cons_zero, List.set_cons_succ]; rfl)
      refine st_take (a' := ?_) rfl rfl (y_move (v := .int .i64 (-1)) rfl rfl) ?_ ?_
      rotate_left; (simp only [Act.put, List.setIfInBounds_toArray, List.set_cons_zero, List.set_cons_succ]; rfl)
      refine st_act rfl rfl fun K hK => a_call (args := #[.agg #[.bool bz, .slice Az mz.length cz]]) rfl rfl (fun w => by kernel_rfl) (negz_any _ b _ (h88.new_ hq3_2)) ?_
      rintro e w62 ⟨f103, A103, n103, c103, rfl, hc103, hm103⟩
      have hq3_3 := (show New _ _ from hq3_2).transNew hm103
      refine ⟨_, rfl, hK _ _ (hS _ hq3_3) ?_⟩
      simp only [Act.put, List.setIfInBounds_toArray, List.set_cons_zero, List.set_cons_succ]
      refine st_act rfl rfl fun K hK => a_call (args := #[.agg #[.bool bx, .slice Ax mx.length cx]]) rfl rfl (fun w => by kernel_rfl) (negz_any _ a _ (h85.new_ hq3_3)) ?_
      rintro e w63 ⟨f104, A104, n104, c104, rfl, hc104, hm104⟩
      have hq3_4 := (show New _ _ from hq3_3).transNew hm104
      refine ⟨_, rfl, hK _ _ (hS _ hq3_4) ?_⟩
      simp only [Act.put, List.setIfInBounds_toArray, List.set_cons_zero, List.set_cons_succ]
      refine st_act rfl rfl fun K hK => a_call (args := #[.agg #[.bool f103, .slice A103 n103 c103], .agg #[.bool f104, .slice A104 n104 c104]]) rfl rfl (fun w => by kernel_rfl) (cmpz_any _ _ (-b) (-a) _ ((hc103.big (by rw [Int.natAbs_neg]; exact hlb)).new_ hm104) (hc104.big (by rw [Int.natAbs_neg]; exact hla))) ?_
      rintro e w64 ⟨rfl, hm105⟩
      rw [hng]
      have hq3_5 := (show New _ _ from hq3_4).transNew hm105
      refine ⟨_, rfl, hK _ _ (hS _ hq3_5) ?_⟩
      simp only [Act.put, List.setIfInBounds_toArray, List.set_cons_zero, List.set_cons_succ]
      refine st_take (a' := ?_) rfl rfl (y_run (v := .bool false) fun w => by kernel_rfl) ?_ ?_
      rotate_left; (simp only [Act.put, List.setIfInBounds_toArray, List.set_cons_zero, List.set_cons_succ]; rfl)
      refine st_take (a' := ?_) rfl rfl (y_pick (b := false) (v := .bool false) rfl rfl rfl) ?_ ?_
      rotate_left; (simp only [Act.put, List.setIfInBounds_toArray, List.set_cons_zero, List.set_cons_succ]; rfl)
      refine st_nil ?_
      have hd214 := (show New _ _ from hq3_5)
      clear hS hq3_1 hq3_2 hq3_3 hq3_4 hq3_5
      have h215 := h85.new_ hd214
      have h216 := h86.new_ hd214
      have h217 := h87.new_ hd214
      have h218 := h88.new_ hd214
      have h219 := h89.new_ hd214
      have h220 := h90.new_ hd214
      have h221 := h91.new_ hd214
      have h222 := h92.new_ hd214
      have h223 := h93.new_ hd214
      have h224 := h94.transNew hd214
      clear h85 h86 h87 h88 h89 h90 h91 h92 h93 h94 hd214
      clear hm101 hm102 hm103 hm104 hm105 hsw hng hsm hla hlb hc103 hc104
      have k230 : w64.cell? ⟨qx, 0, none⟩ = some (.bool bx) := h217.cell 0
      have k231 : w64.cell? ⟨qx, 1, none⟩ = some (.slice Ax mx.length cx) := h217.cell 1
      have k232 : w64.cell? ⟨qu, 0, none⟩ = some (.bool bu) := h223.cell 0
      have k233 : w64.cell? ⟨qu, 1, none⟩ = some (.slice Au mu.length cu) := h223.cell 1
      go_wp2_with fail
      clear k230 k231 k232 k233
      refine (add_any _ _ (a) (c) _ h215 h221).mono ?_
      rintro e w234 ⟨f225, A226, n227, c228, rfl, hc229, hn⟩
      have h235 := h215.new_ hn
      have h236 := h216.new_ hn
      have h237 := h217.new_ hn
      have h238 := h218.new_ hn
      have h239 := h219.new_ hn
      have h240 := h220.new_ hn
      have h241 := h221.new_ hn
      have h242 := h222.new_ hn
      have h243 := h223.new_ hn
      have h244 := h224.transNew hn
      clear h215 h216 h217 h218 h219 h220 h221 h222 h223 h224 hn
      obtain ⟨e1, hk⟩ : ∃ o, o = okI (a + c) := ⟨_, rfl⟩
      rw [← hk]
      have He1 := hide hk
      clear hk
      have hz245 := hc229.big (capI_lt _)
      clear hc229
      go_upto_region 9 with (fail)
      obtain ⟨w246, hw⟩ : ∃ w', w' = w234.alloc (.cells #[.bool f225, .slice A226 n227 c228] 24) := ⟨_, rfl⟩
      have hn : New w234 w246 := by rw [hw]; exact (Upd.refl _ _).alloc _
      have hb247 : Blk w246 w234.heap.size 24 [.bool f225, .slice A226 n227 c228] := by rw [hw]; exact Blk.new w234 _ _
      rw [← hw]
      clear hw
      obtain ⟨q248, hq⟩ : ∃ q, q = w234.heap.size := ⟨_, rfl⟩
      rw [← hq] at hb247 ⊢
      clear hq
      have h249 := h235.new_ hn
      have h250 := h236.new_ hn
      have h251 := h237.new_ hn
      have h252 := h238.new_ hn
      have h253 := h239.new_ hn
      have h254 := h240.new_ hn
      have h255 := h241.new_ hn
      have h256 := h242.new_ hn
      have h257 := h243.new_ hn
      have h258 := h244.transNew hn
      have h259 := hz245.new_ hn
      clear h235 h236 h237 h238 h239 h240 h241 h242 h243 h244 hz245 hn
      have k265 : w246.cell? ⟨qz, 0, none⟩ = some (.bool bz) := h254.cell 0
      have k266 : w246.cell? ⟨qz, 1, none⟩ = some (.slice Az mz.length cz) := h254.cell 1
      have k267 : w246.cell? ⟨qu, 0, none⟩ = some (.bool bu) := h257.cell 0
      have k268 : w246.cell? ⟨qu, 1, none⟩ = some (.slice Au mu.length cu) := h257.cell 1
      go_wp2_with fail
      clear k265 k266 k267 k268
      refine (add_any _ _ (b) (c) _ h252 h255).mono ?_
      rintro e w269 ⟨f260, A261, n262, c263, rfl, hc264, hn⟩
      have h270 := h249.new_ hn
      have h271 := h250.new_ hn
      have h272 := h251.new_ hn
      have h273 := h252.new_ hn
      have h274 := h253.new_ hn
      have h275 := h254.new_ hn
      have h276 := h255.new_ hn
      have h277 := h256.new_ hn
      have h278 := h257.new_ hn
      have h279 := h258.transNew hn
      have h280 := h259.new_ hn
      have h281 := hb247.new_ hn
      clear h249 h250 h251 h252 h253 h254 h255 h256 h257 h258 h259 hb247 hn
      obtain ⟨e2, hk⟩ : ∃ o, o = okI (b + c) := ⟨_, rfl⟩
      rw [← hk]
      have He2 := hide hk
      clear hk
      have hz282 := hc264.big (capI_lt _)
      clear hc264
      go_upto_region 10 with (fail)
      obtain ⟨w283, hw⟩ : ∃ w', w' = w269.alloc (.cells #[.bool f260, .slice A261 n262 c263] 24) := ⟨_, rfl⟩
      have hn : New w269 w283 := by rw [hw]; exact (Upd.refl _ _).alloc _
      have hb284 : Blk w283 w269.heap.size 24 [.bool f260, .slice A261 n262 c263] := by rw [hw]; exact Blk.new w269 _ _
      rw [← hw]
      clear hw
      obtain ⟨q285, hq⟩ : ∃ q, q = w269.heap.size := ⟨_, rfl⟩
      rw [← hq] at hb284 ⊢
      clear hq
      have h286 := h270.new_ hn
      have h287 := h271.new_ hn
      have h288 := h272.new_ hn
      have h289 := h273.new_ hn
      have h290 := h274.new_ hn
      have h291 := h275.new_ hn
      have h292 := h276.new_ hn
      have h293 := h277.new_ hn
      have h294 := h278.new_ hn
      have h295 := h279.transNew hn
      have h296 := h280.new_ hn
      have h297 := h281.new_ hn
      have h298 := hz282.new_ hn
      clear h270 h271 h272 h273 h274 h275 h276 h277 h278 h279 h280 h281 hz282 hn
      go_wp2_with fail
      refine (first_any _).mono ?_
      rintro e w299 ⟨rfl, hn⟩
      have h300 := h286.new_ hn
      have h301 := h287.new_ hn
      have h302 := h288.new_ hn
      have h303 := h289.new_ hn
      have h304 := h290.new_ hn
      have h305 := h291.new_ hn
      have h306 := h292.new_ hn
      have h307 := h293.new_ hn
      have h308 := h294.new_ hn
      have h309 := h295.transNew hn
      have h310 := h296.new_ hn
      have h311 := h297.new_ hn
      have h312 := h298.new_ hn
      have h313 := hb284.new_ hn
      clear h286 h287 h288 h289 h290 h291 h292 h293 h294 h295 h296 h297 h298 hb284 hn
      cases e1
      · skip
        go_wp2
        go_ret
        exact ⟨rfl, h309⟩
      cases e2
      · skip
        go_wp2
        go_ret
        exact ⟨rfl, h309⟩
      have k314 : w299.cell? ⟨q248, 0, none⟩ = some (.bool f225) := h311.cell 0
      have k315 : w299.cell? ⟨q248, 1, none⟩ = some (.slice A226 n227 c228) := h311.cell 1
      have k316 : w299.cell? ⟨q285, 0, none⟩ = some (.bool f260) := h313.cell 0
      have k317 : w299.cell? ⟨q285, 1, none⟩ = some (.slice A261 n262 c263) := h313.cell 1
      go_wp2_with fail
      clear k314 k315 k316 k317
      refine (cmpz_any _ _ (capI (a + c)) (capI (b + c)) _ h310 h312).mono ?_
      rintro e w318 ⟨rfl, hn⟩
      have h319 := h300.new_ hn
      have h320 := h301.new_ hn
      have h321 := h302.new_ hn
      have h322 := h303.new_ hn
      have h323 := h304.new_ hn
      have h324 := h305.new_ hn
      have h325 := h306.new_ hn
      have h326 := h307.new_ hn
      have h327 := h308.new_ hn
      have h328 := h309.transNew hn
      have h329 := h310.new_ hn
      have h330 := h311.new_ hn
      have h331 := h312.new_ hn
      have h332 := h313.new_ hn
      clear h300 h301 h302 h303 h304 h305 h306 h307 h308 h309 h310 h311 h312 h313 hn
      rw [capI_ok He1.out, capI_ok He2.out, cmpZ_add, ← hP.out]
      go_wp2
      go_ret
      exact ⟨rfl, h328⟩
  · skip
    by_cases hq0 : q ≤ 0
    · skip
      have hqt : decide (q ≤ 0) = true := by simpa using hq0
      have hrf : decide (0 < r) = false := by
        have h1 : a ≤ b := cmpZ_le.mp (by rw [← hP.out]; decide)
        have h2 : b ≤ c := cmpZ_le.mp (by rw [← hQ.out]; exact hq0)
        have h3 : cmpZ a c ≤ 0 := cmpZ_le.mpr (by omega)
        rw [← hR.out] at h3
        simpa using h3
      clear hq0
      have HH := hide (And.intro hqt hrf)
      clear hqt hrf
      have hsw : cmpZ b a = 0 := by rw [cmpZ_swap, ← hP.out]; try rfl
      have hng : cmpZ (-b) (-a) = 0 := by rw [cmpZ_neg, ← hP.out]
      have hsm : decide (a = b) = true := by rw [cmpZ_same, ← hP.out]; try rfl
      have hla := h85.lt
      have hlb := h88.lt
      go_wp2_with fail
      have hS : ∀ w', New w52 w' → (Blk w' qx 24 [.bool bx, .slice Ax mx.length cx] ∧ Blk w' qz 24 [.bool bz, .slice Az mz.length cz]) := fun w' hn => ⟨h87.new_ hn, h90.new_ hn⟩
      refine wp_region_dm (fun w' => Blk w' qx 24 [.bool bx, .slice Ax mx.length cx] ∧ Blk w' qz 24 [.bool bz, .slice Az mz.length cz]) [(0, true), (1, true), (2, true), (3, true), (4, true), (5, true), (6, true), (7, true), (8, true), (9, true), (10, true), (11, true), (12, true), (13, true), (14, true), (15, true), (16, true), (17, true), (18, true), (19, true), (20, true), (22, true), (23, true), (21, false), (24, true), (25, true), (26, true), (27, true), (28, true), (29, true), (30, true), (31, false), (32, true), (33, true), (34, true), (35, true), (37, true), (40, true), (36, false), (38, false), (39, false), (41, true), (42, true)] (by kernel_rfl) (by kernel_rfl) (fun _ _ d _ _ h => by cases d <;> exact h) (hS _ (Upd.refl _ _).drew) ?_
      refine st_take (a' := ?_) rfl rfl (y_move (v := .int .i64 0) rfl rfl) ?_ ?_
      rotate_left; (simp only [Act.put, List.setIfInBounds_toArray, List.set_cons_zero, List.set_cons_succ]; rfl)
      refine st_take (a' := ?_) rfl rfl (y_run (v := .bool true) fun w => by kernel_rfl) ?_ ?_
      rotate_left; (simp only [Act.put, List.setIfInBounds_toArray, List.set_cons_zero, List.set_cons_succ]; rfl)
      refine st_take (a' := ?_) rfl rfl (y_move (v := .bool true) rfl rfl) ?_ ?_
      rotate_left; (simp only [Act.put, List.setIfInBounds_toArray, List.set_cons_zero, List.set_cons_succ]; rfl)
      refine st_take (a' := ?_) rfl rfl (y_move (v := .int .i64 q) rfl rfl) ?_ ?_
      rotate_left; (simp only [Act.put, List.setIfInBounds_toArray, List.set_cons_zero, List.set_cons_succ]; rfl)
      refine st_take (a' := ?_) rfl rfl (y_bin (k := .i64) (m := q) (n := 0) (v := .bool true) rfl rfl rfl (r_leq HH.out.1)) ?_ ?_
      rotate_left; (simp only [Act.put, List.setIfInBounds_toArray, List.set_cons_zero, List.set_cons_succ]; rfl)
      refine st_take (a' := ?_) rfl rfl (y_pick (b := true) (v := .bool true) rfl rfl rfl) ?_ ?_
      rotate_left; (simp only [Act.put, List.setIfInBounds_toArray, List.set_cons_zero, List.set_cons_succ]; rfl)
      refine st_take (a' := ?_) rfl rfl (y_move (v := .bool true) rfl rfl) ?_ ?_
      rotate_left; (simp only [Act.put, List.setIfInBounds_toArray, List.set_cons_zero, List.set_cons_succ]; rfl)
      refine st_take (a' := ?_) rfl rfl (y_move (v := .int .i64 r) rfl rfl) ?_ ?_
      rotate_left; (simp only [Act.put, List.setIfInBounds_toArray, List.set_cons_zero, List.set_cons_succ]; rfl)
      refine st_take (a' := ?_) rfl rfl (y_bin (k := .i64) (m := r) (n := 0) (v := .bool false) rfl rfl rfl (r_gtr HH.out.2)) ?_ ?_
      rotate_left; (simp only [Act.put, List.setIfInBounds_toArray, List.set_cons_zero, List.set_cons_succ]; rfl)
      refine st_take (a' := ?_) rfl rfl (y_pick (b := true) (v := .bool false) rfl rfl rfl) ?_ ?_
      rotate_left; (simp only [Act.put, List.setIfInBounds_toArray, List.set_cons_zero, List.set_cons_succ]; rfl)
      refine st_take (a' := ?_) rfl rfl (y_move (v := .bool false) rfl rfl) ?_ ?_
      rotate_left; (simp only [Act.put, List.setIfInBounds_toArray, List.set_cons_zero, List.set_cons_succ]; rfl)
      refine st_take (a' := ?_) rfl rfl (y_move (v := .int .i64 0) rfl rfl) ?_ ?_
      rotate_left; (simp only [Act.put, List.setIfInBounds_toArray, List.set_cons_zero, List.set_cons_succ]; rfl)
      refine st_take (a' := ?_) rfl rfl (y_run (v := .bool false) fun w => by kernel_rfl) ?_ ?_
      rotate_left; (simp only [Act.put, List.setIfInBounds_toArray, List.set_cons_zero, List.set_cons_succ]; rfl)
      refine st_take (a' := ?_) rfl rfl (y_pick (b := false) (v := .bool false) rfl rfl rfl) ?_ ?_
      rotate_left; (simp only [Act.put, List.setIfInBounds_toArray, List.set_cons_zero, List.set_cons_succ]; rfl)
      refine st_take (a' := ?_) rfl rfl (y_move (v := .bool false) rfl rfl) ?_ ?_
      rotate_left; (simp only [Act.put, List.setIfInBounds_toArray, List.set_cons_zero, List.set_cons_succ]; rfl)
      refine st_take (a' := ?_) rfl rfl (y_move (v := .int .i64 0) rfl rfl) ?_ ?_
      rotate_left; (simp only [Act.put, List.setIfInBounds_toArray, List.set_cons_zero, List.set_cons_succ]; rfl)
      refine st_take (a' := ?_) rfl rfl (y_run (v := .bool false) fun w => by kernel_rfl) ?_ ?_
      rotate_left; (simp only [Act.put, List.setIfInBounds_toArray, List.set_cons_zero, List.set_cons_succ]; rfl)
      refine st_take (a' := ?_) rfl rfl (y_pick (b := false) (v := .bool false) rfl rfl rfl) ?_ ?_
      rotate_left; (simp only [Act.put, List.setIfInBounds_toArray, List.set_cons_zero, List.set_cons_succ]; rfl)
      refine st_take (a' := ?_) rfl rfl (y_move (v := .bool false) rfl rfl) ?_ ?_
      rotate_left; (simp only [Act.put, List.setIfInBounds_toArray, List.set_cons_zero, List.set_cons_succ]; rfl)
      refine st_take (a' := ?_) rfl rfl (y_load2 rfl rfl Try.isAgg24 Try.sizeOf24 (fun _ h => h.2)) ?_ ?_
      rotate_left; (simp only [Act.put, List.setIfInBounds_toArray, List.set_cons_zero, List.set_cons_succ]; rfl)
      refine st_take (a' := ?_) rfl rfl (y_load2 rfl rfl Try.isAgg24 Try.sizeOf24 (fun _ h => h.1)) ?_ ?_
      rotate_left; (simp only [Act.put, List.setIfInBounds_toArray, List.set_cons_zero, List.set_cons_succ]; rfl)
      refine st_take (a' := ?_) rfl rfl (y_move (v := .int .i64 0) rfl rfl) ?_ ?_
      rotate_left; (simp only [Act.put, List.setIfInBounds_toArray, List.set_cons_zero, List.set_cons_succ]; rfl)
      refine st_take (a' := ?_) rfl rfl (y_run (v := .int .i64 0) fun w => by kernel_rfl) ?_ ?_
      rotate_left; (simp only [Act.put, List.setIfInBounds_toArray, List.set_cons_zero, List.set_cons_succ]; rfl)
      refine st_act rfl rfl fun K hK => a_call (args := #[.agg #[.bool bz, .slice Az mz.length cz], .agg #[.bool bx, .slice Ax mx.length cx]]) rfl rfl (fun w => by kernel_rfl) (cmpz_any _ _ b a _ (h88.new_ (Upd.refl _ _).drew) (h85.new_ (Upd.refl _ _).drew)) ?_
      rintro e w60 ⟨rfl, hm101⟩
      rw [hsw]
      have hq4_1 := (show New _ _ from (Upd.refl _ _).drew).transNew hm101
      refine ⟨_, rfl, hK _ _ (hS _ hq4_1) ?_⟩
      simp only [Act.put, List.setIfInBounds_toArray, List.set_cons_zero, List.set_cons_succ]
      refine st_take (a' := ?_) rfl rfl (y_run (v := .bool false) fun w => by kernel_rfl) ?_ ?_
      rotate_left; (simp only [Act.put, List.setIfInBounds_toArray, List.set_cons_zero, List.set_cons_succ]; rfl)
      refine st_take (a' := ?_) rfl rfl (y_pick (b := false) (v := .bool false) rfl rfl rfl) ?_ ?_
      rotate_left; (simp only [Act.put, List.setIfInBounds_toArray, List.set_cons_zero, List.set_cons_succ]; rfl)
      refine st_take (a' := ?_) rfl rfl (y_move (v := .bool false) rfl rfl) ?_ ?_
      rotate_left; (simp only [Act.put, List.setIfInBounds_toArray, List.set_cons_zero, List.set_cons_succ]; rfl)
      refine st_take (a' := ?_) rfl rfl (y_move (v := .int .i64 0) rfl rfl) ?_ ?_
      rotate_left; (simp only [Act.put, List.setIfInBounds_toArray, List.set_cons_zero, List.set_cons_succ]; rfl)
      refine st_take (a' := ?_) rfl rfl (y_run (v := .bool true) fun w => by kernel_rfl) ?_ ?_
      rotate_left; (simp only [Act.put, List.setIfInBounds_toArray, List.set_cons_zero, List.set_cons_succ]; rfl)
      refine st_take (a' := ?_) rfl rfl (y_load2 rfl rfl Try.isAgg24 Try.sizeOf24 (fun _ h => h.1)) ?_ ?_
      rotate_left; (simp only [Act.put, List.setIfInBounds_toArray, List.set_cons_zero, List.set_cons_succ]; rfl)
      refine st_take (a' := ?_) rfl rfl (y_load2 rfl rfl Try.isAgg24 Try.sizeOf24 (fun _ h => h.2)) ?_ ?_
      rotate_left; (simp only [Act.put, List.setIfInBounds_toArray, List.set_cons_zero, List.set_cons_succ]; rfl)
      refine st_act rfl rfl fun K hK => a_call (args := #[.agg #[.bool bx, .slice Ax mx.length cx], .agg #[.bool bz, .slice Az mz.length cz]]) rfl rfl (fun w => by kernel_rfl) (same_any _ _ a b _ (h85.new_ hq4_1) (h88.new_ hq4_1)) ?_
      rintro e w61 ⟨rfl, hm102⟩
      rw [hsm]
      have hq4_2 := (show New _ _ from hq4_1).transNew hm102
      refine ⟨_, rfl, hK _ _ (hS _ hq4_2) ?_⟩
      simp only [Act.put, List.setIfInBounds_toArray, List.set_cons_zero, List.set_cons_succ]
      refine st_take (a' := ?_) rfl rfl (y_run (v := .bool false) fun w => by kernel_rfl) ?_ ?_
      rotate_left; (simp only [Act.put, List.setIfInBounds_toArray, List.set_cons_zero, List.set_cons_succ]; rfl)
      refine st_take (a' := ?_) rfl rfl (y_pick (b := false) (v := .bool false) rfl rfl rfl) ?_ ?_
      rotate_left; (simp only [Act.put, List.setIfInBounds_toArray, List.set_cons_zero, List.set_cons_succ]; rfl)
      refine st_take (a' := ?_) rfl rfl (y_move (v := .bool false) rfl rfl) ?_ ?_
      rotate_left; (simp only [Act.put, List.setIfInBounds_toArray, List.set_cons_zero, List.set_cons_succ]; rfl)
      refine st_take (a' := ?_) rfl rfl (y_load2 rfl rfl Try.isAgg24 Try.sizeOf24 (fun _ h => h.2)) ?_ ?_
      rotate_left; (simp only [Act.put, List.setIfInBounds_toArray, List.set_cons_zero, List.set_cons_succ]; rfl)
      refine st_take (a' := ?_) rfl rfl (y_load2 rfl rfl Try.isAgg24 Try.sizeOf24 (fun _ h => h.1)) ?_ ?_
      rotate_left; (simp only [Act.put, List.setIfInBounds_toArray, List.set_cons_zero, List.set_cons_succ]; rfl)
      refine st_take (a' := ?_) rfl rfl (y_move (v := .int .i64 0) rfl rfl) ?_ ?_
      rotate_left; (simp only [Act.put, List.setIfInBounds_toArray, List.set_cons_zero, List.set_cons_succ]; rfl)
      refine st_act rfl rfl fun K hK => a_call (args := #[.agg #[.bool bz, .slice Az mz.length cz]]) rfl rfl (fun w => by kernel_rfl) (negz_any _ b _ (h88.new_ hq4_2)) ?_
      rintro e w62 ⟨f103, A103, n103, c103, rfl, hc103, hm103⟩
      have hq4_3 := (show New _ _ from hq4_2).transNew hm103
      refine ⟨_, rfl, hK _ _ (hS _ hq4_3) ?_⟩
      simp only [Act.put, List.setIfInBounds_toArray, List.set_cons_zero, List.set_cons_succ]
      refine st_act rfl rfl fun K hK => a_call (args := #[.agg #[.bool bx, .slice Ax mx.length cx]]) rfl rfl (fun w => by kernel_rfl) (negz_any _ a _ (h85.new_ hq4_3)) ?_
      rintro e w63 ⟨f104, A104, n104, c104, rfl, hc104, hm104⟩
      have hq4_4 := (show New _ _ from hq4_3).transNew hm104
      refine ⟨_, rfl, hK _ _ (hS _ hq4_4) ?_⟩
      simp only [Act.put, List.setIfInBounds_toArray, List.set_cons_zero, List.set_cons_succ]
      refine st_act rfl rfl fun K hK => a_call (args := #[.agg #[.bool f103, .slice A103 n103 c103], .agg #[.bool f104, .slice A104 n104 c104]]) rfl rfl (fun w => by kernel_rfl) (cmpz_any _ _ (-b) (-a) _ ((hc103.big (by rw [Int.natAbs_neg]; exact hlb)).new_ hm104) (hc104.big (by rw [Int.natAbs_neg]; exact hla))) ?_
      rintro e w64 ⟨rfl, hm105⟩
      rw [hng]
      have hq4_5 := (show New _ _ from hq4_4).transNew hm105
      refine ⟨_, rfl, hK _ _ (hS _ hq4_5) ?_⟩
      simp only [Act.put, List.setIfInBounds_toArray, List.set_cons_zero, List.set_cons_succ]
      refine st_take (a' := ?_) rfl rfl (y_run (v := .bool false) fun w => by kernel_rfl) ?_ ?_
      rotate_left; (simp only [Act.put, List.setIfInBounds_toArray, List.set_cons_zero, List.set_cons_succ]; rfl)
      refine st_take (a' := ?_) rfl rfl (y_pick (b := false) (v := .bool false) rfl rfl rfl) ?_ ?_
      rotate_left; (simp only [Act.put, List.setIfInBounds_toArray, List.set_cons_zero, List.set_cons_succ]; rfl)
      refine st_nil ?_
      have hd333 := (show New _ _ from hq4_5)
      clear hS hq4_1 hq4_2 hq4_3 hq4_4 hq4_5
      have h334 := h85.new_ hd333
      have h335 := h86.new_ hd333
      have h336 := h87.new_ hd333
      have h337 := h88.new_ hd333
      have h338 := h89.new_ hd333
      have h339 := h90.new_ hd333
      have h340 := h91.new_ hd333
      have h341 := h92.new_ hd333
      have h342 := h93.new_ hd333
      have h343 := h94.transNew hd333
      clear h85 h86 h87 h88 h89 h90 h91 h92 h93 h94 hd333
      clear hm101 hm102 hm103 hm104 hm105 hsw hng hsm hla hlb hc103 hc104
      have k349 : w64.cell? ⟨qx, 0, none⟩ = some (.bool bx) := h336.cell 0
      have k350 : w64.cell? ⟨qx, 1, none⟩ = some (.slice Ax mx.length cx) := h336.cell 1
      have k351 : w64.cell? ⟨qu, 0, none⟩ = some (.bool bu) := h342.cell 0
      have k352 : w64.cell? ⟨qu, 1, none⟩ = some (.slice Au mu.length cu) := h342.cell 1
      go_wp2_with fail
      clear k349 k350 k351 k352
      refine (add_any _ _ (a) (c) _ h334 h340).mono ?_
      rintro e w353 ⟨f344, A345, n346, c347, rfl, hc348, hn⟩
      have h354 := h334.new_ hn
      have h355 := h335.new_ hn
      have h356 := h336.new_ hn
      have h357 := h337.new_ hn
      have h358 := h338.new_ hn
      have h359 := h339.new_ hn
      have h360 := h340.new_ hn
      have h361 := h341.new_ hn
      have h362 := h342.new_ hn
      have h363 := h343.transNew hn
      clear h334 h335 h336 h337 h338 h339 h340 h341 h342 h343 hn
      obtain ⟨e1, hk⟩ : ∃ o, o = okI (a + c) := ⟨_, rfl⟩
      rw [← hk]
      have He1 := hide hk
      clear hk
      have hz364 := hc348.big (capI_lt _)
      clear hc348
      go_upto_region 9 with (fail)
      obtain ⟨w365, hw⟩ : ∃ w', w' = w353.alloc (.cells #[.bool f344, .slice A345 n346 c347] 24) := ⟨_, rfl⟩
      have hn : New w353 w365 := by rw [hw]; exact (Upd.refl _ _).alloc _
      have hb366 : Blk w365 w353.heap.size 24 [.bool f344, .slice A345 n346 c347] := by rw [hw]; exact Blk.new w353 _ _
      rw [← hw]
      clear hw
      obtain ⟨q367, hq⟩ : ∃ q, q = w353.heap.size := ⟨_, rfl⟩
      rw [← hq] at hb366 ⊢
      clear hq
      have h368 := h354.new_ hn
      have h369 := h355.new_ hn
      have h370 := h356.new_ hn
      have h371 := h357.new_ hn
      have h372 := h358.new_ hn
      have h373 := h359.new_ hn
      have h374 := h360.new_ hn
      have h375 := h361.new_ hn
      have h376 := h362.new_ hn
      have h377 := h363.transNew hn
      have h378 := hz364.new_ hn
      clear h354 h355 h356 h357 h358 h359 h360 h361 h362 h363 hz364 hn
      have k384 : w365.cell? ⟨qz, 0, none⟩ = some (.bool bz) := h373.cell 0
      have k385 : w365.cell? ⟨qz, 1, none⟩ = some (.slice Az mz.length cz) := h373.cell 1
      have k386 : w365.cell? ⟨qu, 0, none⟩ = some (.bool bu) := h376.cell 0
      have k387 : w365.cell? ⟨qu, 1, none⟩ = some (.slice Au mu.length cu) := h376.cell 1
      go_wp2_with fail
      clear k384 k385 k386 k387
      refine (add_any _ _ (b) (c) _ h371 h374).mono ?_
      rintro e w388 ⟨f379, A380, n381, c382, rfl, hc383, hn⟩
      have h389 := h368.new_ hn
      have h390 := h369.new_ hn
      have h391 := h370.new_ hn
      have h392 := h371.new_ hn
      have h393 := h372.new_ hn
      have h394 := h373.new_ hn
      have h395 := h374.new_ hn
      have h396 := h375.new_ hn
      have h397 := h376.new_ hn
      have h398 := h377.transNew hn
      have h399 := h378.new_ hn
      have h400 := hb366.new_ hn
      clear h368 h369 h370 h371 h372 h373 h374 h375 h376 h377 h378 hb366 hn
      obtain ⟨e2, hk⟩ : ∃ o, o = okI (b + c) := ⟨_, rfl⟩
      rw [← hk]
      have He2 := hide hk
      clear hk
      have hz401 := hc383.big (capI_lt _)
      clear hc383
      go_upto_region 10 with (fail)
      obtain ⟨w402, hw⟩ : ∃ w', w' = w388.alloc (.cells #[.bool f379, .slice A380 n381 c382] 24) := ⟨_, rfl⟩
      have hn : New w388 w402 := by rw [hw]; exact (Upd.refl _ _).alloc _
      have hb403 : Blk w402 w388.heap.size 24 [.bool f379, .slice A380 n381 c382] := by rw [hw]; exact Blk.new w388 _ _
      rw [← hw]
      clear hw
      obtain ⟨q404, hq⟩ : ∃ q, q = w388.heap.size := ⟨_, rfl⟩
      rw [← hq] at hb403 ⊢
      clear hq
      have h405 := h389.new_ hn
      have h406 := h390.new_ hn
      have h407 := h391.new_ hn
      have h408 := h392.new_ hn
      have h409 := h393.new_ hn
      have h410 := h394.new_ hn
      have h411 := h395.new_ hn
      have h412 := h396.new_ hn
      have h413 := h397.new_ hn
      have h414 := h398.transNew hn
      have h415 := h399.new_ hn
      have h416 := h400.new_ hn
      have h417 := hz401.new_ hn
      clear h389 h390 h391 h392 h393 h394 h395 h396 h397 h398 h399 h400 hz401 hn
      go_wp2_with fail
      refine (first_any _).mono ?_
      rintro e w418 ⟨rfl, hn⟩
      have h419 := h405.new_ hn
      have h420 := h406.new_ hn
      have h421 := h407.new_ hn
      have h422 := h408.new_ hn
      have h423 := h409.new_ hn
      have h424 := h410.new_ hn
      have h425 := h411.new_ hn
      have h426 := h412.new_ hn
      have h427 := h413.new_ hn
      have h428 := h414.transNew hn
      have h429 := h415.new_ hn
      have h430 := h416.new_ hn
      have h431 := h417.new_ hn
      have h432 := hb403.new_ hn
      clear h405 h406 h407 h408 h409 h410 h411 h412 h413 h414 h415 h416 h417 hb403 hn
      cases e1
      · skip
        go_wp2
        go_ret
        exact ⟨rfl, h428⟩
      cases e2
      · skip
        go_wp2
        go_ret
        exact ⟨rfl, h428⟩
      have k433 : w418.cell? ⟨q367, 0, none⟩ = some (.bool f344) := h430.cell 0
      have k434 : w418.cell? ⟨q367, 1, none⟩ = some (.slice A345 n346 c347) := h430.cell 1
      have k435 : w418.cell? ⟨q404, 0, none⟩ = some (.bool f379) := h432.cell 0
      have k436 : w418.cell? ⟨q404, 1, none⟩ = some (.slice A380 n381 c382) := h432.cell 1
      go_wp2_with fail
      clear k433 k434 k435 k436
      refine (cmpz_any _ _ (capI (a + c)) (capI (b + c)) _ h429 h431).mono ?_
      rintro e w437 ⟨rfl, hn⟩
      have h438 := h419.new_ hn
      have h439 := h420.new_ hn
      have h440 := h421.new_ hn
      have h441 := h422.new_ hn
      have h442 := h423.new_ hn
      have h443 := h424.new_ hn
      have h444 := h425.new_ hn
      have h445 := h426.new_ hn
      have h446 := h427.new_ hn
      have h447 := h428.transNew hn
      have h448 := h429.new_ hn
      have h449 := h430.new_ hn
      have h450 := h431.new_ hn
      have h451 := h432.new_ hn
      clear h419 h420 h421 h422 h423 h424 h425 h426 h427 h428 h429 h430 h431 h432 hn
      rw [capI_ok He1.out, capI_ok He2.out, cmpZ_add, ← hP.out]
      go_wp2
      go_ret
      exact ⟨rfl, h447⟩
    · skip
      have hqf : decide (q ≤ 0) = false := by simpa using hq0
      clear hq0
      have HH := hide hqf
      clear hqf
      have hsw : cmpZ b a = 0 := by rw [cmpZ_swap, ← hP.out]; try rfl
      have hng : cmpZ (-b) (-a) = 0 := by rw [cmpZ_neg, ← hP.out]
      have hsm : decide (a = b) = true := by rw [cmpZ_same, ← hP.out]; try rfl
      have hla := h85.lt
      have hlb := h88.lt
      go_wp2_with fail
      have hS : ∀ w', New w52 w' → (Blk w' qx 24 [.bool bx, .slice Ax mx.length cx] ∧ Blk w' qz 24 [.bool bz, .slice Az mz.length cz]) := fun w' hn => ⟨h87.new_ hn, h90.new_ hn⟩
      refine wp_region_dm (fun w' => Blk w' qx 24 [.bool bx, .slice Ax mx.length cx] ∧ Blk w' qz 24 [.bool bz, .slice Az mz.length cz]) [(0, true), (1, true), (2, true), (3, true), (4, true), (5, true), (6, true), (7, true), (8, true), (9, true), (10, true), (11, true), (12, true), (13, true), (14, true), (15, true), (16, true), (17, true), (18, true), (19, true), (20, true), (22, true), (23, true), (21, false), (24, true), (25, true), (26, true), (27, true), (28, true), (29, true), (30, true), (31, false), (32, true), (33, true), (34, true), (35, true), (37, true), (40, true), (36, false), (38, false), (39, false), (41, true), (42, true)] (by kernel_rfl) (by kernel_rfl) (fun _ _ d _ _ h => by cases d <;> exact h) (hS _ (Upd.refl _ _).drew) ?_
      refine st_take (a' := ?_) rfl rfl (y_move (v := .int .i64 0) rfl rfl) ?_ ?_
      rotate_left; (simp only [Act.put, List.setIfInBounds_toArray, List.set_cons_zero, List.set_cons_succ]; rfl)
      refine st_take (a' := ?_) rfl rfl (y_run (v := .bool true) fun w => by kernel_rfl) ?_ ?_
      rotate_left; (simp only [Act.put, List.setIfInBounds_toArray, List.set_cons_zero, List.set_cons_succ]; rfl)
      refine st_take (a' := ?_) rfl rfl (y_move (v := .bool true) rfl rfl) ?_ ?_
      rotate_left; (simp only [Act.put, List.setIfInBounds_toArray, List.set_cons_zero, List.set_cons_succ]; rfl)
      refine st_take (a' := ?_) rfl rfl (y_move (v := .int .i64 q) rfl rfl) ?_ ?_
      rotate_left; (simp only [Act.put, List.setIfInBounds_toArray, List.set_cons_zero, List.set_cons_succ]; rfl)
      refine st_take (a' := ?_) rfl rfl (y_bin (k := .i64) (m := q) (n := 0) (v := .bool false) rfl rfl rfl (r_leq HH.out)) ?_ ?_
      rotate_left; (simp only [Act.put, List.setIfInBounds_toArray, List.set_cons_zero, List.set_cons_succ]; rfl)
      refine st_take (a' := ?_) rfl rfl (y_pick (b := true) (v := .bool false) rfl rfl rfl) ?_ ?_
      rotate_left; (simp only [Act.put, List.setIfInBounds_toArray, List.set_cons_zero, List.set_cons_succ]; rfl)
      refine st_take (a' := ?_) rfl rfl (y_move (v := .bool false) rfl rfl) ?_ ?_
      rotate_left; (simp only [Act.put, List.setIfInBounds_toArray, List.set_cons_zero, List.set_cons_succ]; rfl)
      refine st_skip (a' := ?_) rfl rfl ?_ ?_
      rotate_left; (simp only [Act.put, List.setIfInBounds_toArray, List.set_cons_zero, List.set_cons_succ]; rfl)
      refine st_skip (a' := ?_) rfl rfl ?_ ?_
      rotate_left; (simp only [Act.put, List.setIfInBounds_toArray, List.set_cons_zero, List.set_cons_succ]; rfl)
      refine st_take (a' := ?_) rfl rfl (y_pick (b := false) (v := .bool false) rfl rfl rfl) ?_ ?_
      rotate_left; (simp only [Act.put, List.setIfInBounds_toArray, List.set_cons_zero, List.set_cons_succ]; rfl)
      refine st_take (a' := ?_) rfl rfl (y_move (v := .bool false) rfl rfl) ?_ ?_
      rotate_left; (simp only [Act.put, List.setIfInBounds_toArray, List.set_cons_zero, List.set_cons_succ]; rfl)
      refine st_take (a' := ?_) rfl rfl (y_move (v := .int .i64 0) rfl rfl) ?_ ?_
      rotate_left; (simp only [Act.put, List.setIfInBounds_toArray, List.set_cons_zero, List.set_cons_succ]; rfl)
      refine st_take (a' := ?_) rfl rfl (y_run (v := .bool false) fun w => by kernel_rfl) ?_ ?_
      rotate_left; (simp only [Act.put, List.setIfInBounds_toArray, List.set_cons_zero, List.set_cons_succ]; rfl)
      refine st_take (a' := ?_) rfl rfl (y_pick (b := false) (v := .bool false) rfl rfl rfl) ?_ ?_
      rotate_left; (simp only [Act.put, List.setIfInBounds_toArray, List.set_cons_zero, List.set_cons_succ]; rfl)
      refine st_take (a' := ?_) rfl rfl (y_move (v := .bool false) rfl rfl) ?_ ?_
      rotate_left; (simp only [Act.put, List.setIfInBounds_toArray, List.set_cons_zero, List.set_cons_succ]; rfl)
      refine st_take (a' := ?_) rfl rfl (y_move (v := .int .i64 0) rfl rfl) ?_ ?_
      rotate_left; (simp only [Act.put, List.setIfInBounds_toArray, List.set_cons_zero, List.set_cons_succ]; rfl)
      refine st_take (a' := ?_) rfl rfl (y_run (v := .bool false) fun w => by kernel_rfl) ?_ ?_
      rotate_left; (simp only [Act.put, List.setIfInBounds_toArray, List.set_cons_zero, List.set_cons_succ]; rfl)
      refine st_take (a' := ?_) rfl rfl (y_pick (b := false) (v := .bool false) rfl rfl rfl) ?_ ?_
      rotate_left; (simp only [Act.put, List.setIfInBounds_toArray, List.set_cons_zero, List.set_cons_succ]; rfl)
      refine st_take (a' := ?_) rfl rfl (y_move (v := .bool false) rfl rfl) ?_ ?_
      rotate_left; (simp only [Act.put, List.setIfInBounds_toArray, List.set_cons_zero, List.set_cons_succ]; rfl)
      refine st_take (a' := ?_) rfl rfl (y_load2 rfl rfl Try.isAgg24 Try.sizeOf24 (fun _ h => h.2)) ?_ ?_
      rotate_left; (simp only [Act.put, List.setIfInBounds_toArray, List.set_cons_zero, List.set_cons_succ]; rfl)
      refine st_take (a' := ?_) rfl rfl (y_load2 rfl rfl Try.isAgg24 Try.sizeOf24 (fun _ h => h.1)) ?_ ?_
      rotate_left; (simp only [Act.put, List.setIfInBounds_toArray, List.set_cons_zero, List.set_cons_succ]; rfl)
      refine st_take (a' := ?_) rfl rfl (y_move (v := .int .i64 0) rfl rfl) ?_ ?_
      rotate_left; (simp only [Act.put, List.setIfInBounds_toArray, List.set_cons_zero, List.set_cons_succ]; rfl)
      refine st_take (a' := ?_) rfl rfl (y_run (v := .int .i64 0) fun w => by kernel_rfl) ?_ ?_
      rotate_left; (simp only [Act.put, List.setIfInBounds_toArray, List.set_cons_zero, List.set_cons_succ]; rfl)
      refine st_act rfl rfl fun K hK => a_call (args := #[.agg #[.bool bz, .slice Az mz.length cz], .agg #[.bool bx, .slice Ax mx.length cx]]) rfl rfl (fun w => by kernel_rfl) (cmpz_any _ _ b a _ (h88.new_ (Upd.refl _ _).drew) (h85.new_ (Upd.refl _ _).drew)) ?_
      rintro e w60 ⟨rfl, hm101⟩
      rw [hsw]
      have hq5_1 := (show New _ _ from (Upd.refl _ _).drew).transNew hm101
      refine ⟨_, rfl, hK _ _ (hS _ hq5_1) ?_⟩
      simp only [Act.put, List.setIfInBounds_toArray, List.set_cons_zero, List.set_cons_succ]
      refine st_take (a' := ?_) rfl rfl (y_run (v := .bool false) fun w => by kernel_rfl) ?_ ?_
      rotate_left; (simp only [Act.put, List.setIfInBounds_toArray, List.set_cons_zero, List.set_cons_succ]; rfl)
      refine st_take (a' := ?_) rfl rfl (y_pick (b := false) (v := .bool false) rfl rfl rfl) ?_ ?_
      rotate_left; (simp only [Act.put, List.setIfInBounds_toArray, List.set_cons_zero, List.set_cons_succ]; rfl)
      refine st_take (a' := ?_) rfl rfl (y_move (v := .bool false) rfl rfl) ?_ ?_
      rotate_left; (simp only [Act.put, List.setIfInBounds_toArray, List.set_cons_zero, List.set_cons_succ]; rfl)
      refine st_take (a' := ?_) rfl rfl (y_move (v := .int .i64 0) rfl rfl) ?_ ?_
      rotate_left; (simp only [Act.put, List.setIfInBounds_toArray, List.set_cons_zero, List.set_cons_succ]; rfl)
      refine st_take (a' := ?_) rfl rfl (y_run (v := .bool true) fun w => by kernel_rfl) ?_ ?_
      rotate_left; (simp only [Act.put, List.setIfInBounds_toArray, List.set_cons_zero, List.set_cons_succ]; rfl)
      refine st_take (a' := ?_) rfl rfl (y_load2 rfl rfl Try.isAgg24 Try.sizeOf24 (fun _ h => h.1)) ?_ ?_
      rotate_left; (simp only [Act.put, List.setIfInBounds_toArray, List.set_cons_zero, List.set_cons_succ]; rfl)
      refine st_take (a' := ?_) rfl rfl (y_load2 rfl rfl Try.isAgg24 Try.sizeOf24 (fun _ h => h.2)) ?_ ?_
      rotate_left; (simp only [Act.put, List.setIfInBounds_toArray, List.set_cons_zero, List.set_cons_succ]; rfl)
      refine st_act rfl rfl fun K hK => a_call (args := #[.agg #[.bool bx, .slice Ax mx.length cx], .agg #[.bool bz, .slice Az mz.length cz]]) rfl rfl (fun w => by kernel_rfl) (same_any _ _ a b _ (h85.new_ hq5_1) (h88.new_ hq5_1)) ?_
      rintro e w61 ⟨rfl, hm102⟩
      rw [hsm]
      have hq5_2 := (show New _ _ from hq5_1).transNew hm102
      refine ⟨_, rfl, hK _ _ (hS _ hq5_2) ?_⟩
      simp only [Act.put, List.setIfInBounds_toArray, List.set_cons_zero, List.set_cons_succ]
      refine st_take (a' := ?_) rfl rfl (y_run (v := .bool false) fun w => by kernel_rfl) ?_ ?_
      rotate_left; (simp only [Act.put, List.setIfInBounds_toArray, List.set_cons_zero, List.set_cons_succ]; rfl)
      refine st_take (a' := ?_) rfl rfl (y_pick (b := false) (v := .bool false) rfl rfl rfl) ?_ ?_
      rotate_left; (simp only [Act.put, List.setIfInBounds_toArray, List.set_cons_zero, List.set_cons_succ]; rfl)
      refine st_take (a' := ?_) rfl rfl (y_move (v := .bool false) rfl rfl) ?_ ?_
      rotate_left; (simp only [Act.put, List.setIfInBounds_toArray, List.set_cons_zero, List.set_cons_succ]; rfl)
      refine st_take (a' := ?_) rfl rfl (y_load2 rfl rfl Try.isAgg24 Try.sizeOf24 (fun _ h => h.2)) ?_ ?_
      rotate_left; (simp only [Act.put, List.setIfInBounds_toArray, List.set_cons_zero, List.set_cons_succ]; rfl)
      refine st_take (a' := ?_) rfl rfl (y_load2 rfl rfl Try.isAgg24 Try.sizeOf24 (fun _ h => h.1)) ?_ ?_
      rotate_left; (simp only [Act.put, List.setIfInBounds_toArray, List.set_cons_zero, List.set_cons_succ]; rfl)
      refine st_take (a' := ?_) rfl rfl (y_move (v := .int .i64 0) rfl rfl) ?_ ?_
      rotate_left; (simp only [Act.put, List.setIfInBounds_toArray, List.set_cons_zero, List.set_cons_succ]; rfl)
      refine st_act rfl rfl fun K hK => a_call (args := #[.agg #[.bool bz, .slice Az mz.length cz]]) rfl rfl (fun w => by kernel_rfl) (negz_any _ b _ (h88.new_ hq5_2)) ?_
      rintro e w62 ⟨f103, A103, n103, c103, rfl, hc103, hm103⟩
      have hq5_3 := (show New _ _ from hq5_2).transNew hm103
      refine ⟨_, rfl, hK _ _ (hS _ hq5_3) ?_⟩
      simp only [Act.put, List.setIfInBounds_toArray, List.set_cons_zero, List.set_cons_succ]
      refine st_act rfl rfl fun K hK => a_call (args := #[.agg #[.bool bx, .slice Ax mx.length cx]]) rfl rfl (fun w => by kernel_rfl) (negz_any _ a _ (h85.new_ hq5_3)) ?_
      rintro e w63 ⟨f104, A104, n104, c104, rfl, hc104, hm104⟩
      have hq5_4 := (show New _ _ from hq5_3).transNew hm104
      refine ⟨_, rfl, hK _ _ (hS _ hq5_4) ?_⟩
      simp only [Act.put, List.setIfInBounds_toArray, List.set_cons_zero, List.set_cons_succ]
      refine st_act rfl rfl fun K hK => a_call (args := #[.agg #[.bool f103, .slice A103 n103 c103], .agg #[.bool f104, .slice A104 n104 c104]]) rfl rfl (fun w => by kernel_rfl) (cmpz_any _ _ (-b) (-a) _ ((hc103.big (by rw [Int.natAbs_neg]; exact hlb)).new_ hm104) (hc104.big (by rw [Int.natAbs_neg]; exact hla))) ?_
      rintro e w64 ⟨rfl, hm105⟩
      rw [hng]
      have hq5_5 := (show New _ _ from hq5_4).transNew hm105
      refine ⟨_, rfl, hK _ _ (hS _ hq5_5) ?_⟩
      simp only [Act.put, List.setIfInBounds_toArray, List.set_cons_zero, List.set_cons_succ]
      refine st_take (a' := ?_) rfl rfl (y_run (v := .bool false) fun w => by kernel_rfl) ?_ ?_
      rotate_left; (simp only [Act.put, List.setIfInBounds_toArray, List.set_cons_zero, List.set_cons_succ]; rfl)
      refine st_take (a' := ?_) rfl rfl (y_pick (b := false) (v := .bool false) rfl rfl rfl) ?_ ?_
      rotate_left; (simp only [Act.put, List.setIfInBounds_toArray, List.set_cons_zero, List.set_cons_succ]; rfl)
      refine st_nil ?_
      have hd452 := (show New _ _ from hq5_5)
      clear hS hq5_1 hq5_2 hq5_3 hq5_4 hq5_5
      have h453 := h85.new_ hd452
      have h454 := h86.new_ hd452
      have h455 := h87.new_ hd452
      have h456 := h88.new_ hd452
      have h457 := h89.new_ hd452
      have h458 := h90.new_ hd452
      have h459 := h91.new_ hd452
      have h460 := h92.new_ hd452
      have h461 := h93.new_ hd452
      have h462 := h94.transNew hd452
      clear h85 h86 h87 h88 h89 h90 h91 h92 h93 h94 hd452
      clear hm101 hm102 hm103 hm104 hm105 hsw hng hsm hla hlb hc103 hc104
      have k468 : w64.cell? ⟨qx, 0, none⟩ = some (.bool bx) := h455.cell 0
      have k469 : w64.cell? ⟨qx, 1, none⟩ = some (.slice Ax mx.length cx) := h455.cell 1
      have k470 : w64.cell? ⟨qu, 0, none⟩ = some (.bool bu) := h461.cell 0
      have k471 : w64.cell? ⟨qu, 1, none⟩ = some (.slice Au mu.length cu) := h461.cell 1
      go_wp2_with fail
      clear k468 k469 k470 k471
      refine (add_any _ _ (a) (c) _ h453 h459).mono ?_
      rintro e w472 ⟨f463, A464, n465, c466, rfl, hc467, hn⟩
      have h473 := h453.new_ hn
      have h474 := h454.new_ hn
      have h475 := h455.new_ hn
      have h476 := h456.new_ hn
      have h477 := h457.new_ hn
      have h478 := h458.new_ hn
      have h479 := h459.new_ hn
      have h480 := h460.new_ hn
      have h481 := h461.new_ hn
      have h482 := h462.transNew hn
      clear h453 h454 h455 h456 h457 h458 h459 h460 h461 h462 hn
      obtain ⟨e1, hk⟩ : ∃ o, o = okI (a + c) := ⟨_, rfl⟩
      rw [← hk]
      have He1 := hide hk
      clear hk
      have hz483 := hc467.big (capI_lt _)
      clear hc467
      go_upto_region 9 with (fail)
      obtain ⟨w484, hw⟩ : ∃ w', w' = w472.alloc (.cells #[.bool f463, .slice A464 n465 c466] 24) := ⟨_, rfl⟩
      have hn : New w472 w484 := by rw [hw]; exact (Upd.refl _ _).alloc _
      have hb485 : Blk w484 w472.heap.size 24 [.bool f463, .slice A464 n465 c466] := by rw [hw]; exact Blk.new w472 _ _
      rw [← hw]
      clear hw
      obtain ⟨q486, hq⟩ : ∃ q, q = w472.heap.size := ⟨_, rfl⟩
      rw [← hq] at hb485 ⊢
      clear hq
      have h487 := h473.new_ hn
      have h488 := h474.new_ hn
      have h489 := h475.new_ hn
      have h490 := h476.new_ hn
      have h491 := h477.new_ hn
      have h492 := h478.new_ hn
      have h493 := h479.new_ hn
      have h494 := h480.new_ hn
      have h495 := h481.new_ hn
      have h496 := h482.transNew hn
      have h497 := hz483.new_ hn
      clear h473 h474 h475 h476 h477 h478 h479 h480 h481 h482 hz483 hn
      have k503 : w484.cell? ⟨qz, 0, none⟩ = some (.bool bz) := h492.cell 0
      have k504 : w484.cell? ⟨qz, 1, none⟩ = some (.slice Az mz.length cz) := h492.cell 1
      have k505 : w484.cell? ⟨qu, 0, none⟩ = some (.bool bu) := h495.cell 0
      have k506 : w484.cell? ⟨qu, 1, none⟩ = some (.slice Au mu.length cu) := h495.cell 1
      go_wp2_with fail
      clear k503 k504 k505 k506
      refine (add_any _ _ (b) (c) _ h490 h493).mono ?_
      rintro e w507 ⟨f498, A499, n500, c501, rfl, hc502, hn⟩
      have h508 := h487.new_ hn
      have h509 := h488.new_ hn
      have h510 := h489.new_ hn
      have h511 := h490.new_ hn
      have h512 := h491.new_ hn
      have h513 := h492.new_ hn
      have h514 := h493.new_ hn
      have h515 := h494.new_ hn
      have h516 := h495.new_ hn
      have h517 := h496.transNew hn
      have h518 := h497.new_ hn
      have h519 := hb485.new_ hn
      clear h487 h488 h489 h490 h491 h492 h493 h494 h495 h496 h497 hb485 hn
      obtain ⟨e2, hk⟩ : ∃ o, o = okI (b + c) := ⟨_, rfl⟩
      rw [← hk]
      have He2 := hide hk
      clear hk
      have hz520 := hc502.big (capI_lt _)
      clear hc502
      go_upto_region 10 with (fail)
      obtain ⟨w521, hw⟩ : ∃ w', w' = w507.alloc (.cells #[.bool f498, .slice A499 n500 c501] 24) := ⟨_, rfl⟩
      have hn : New w507 w521 := by rw [hw]; exact (Upd.refl _ _).alloc _
      have hb522 : Blk w521 w507.heap.size 24 [.bool f498, .slice A499 n500 c501] := by rw [hw]; exact Blk.new w507 _ _
      rw [← hw]
      clear hw
      obtain ⟨q523, hq⟩ : ∃ q, q = w507.heap.size := ⟨_, rfl⟩
      rw [← hq] at hb522 ⊢
      clear hq
      have h524 := h508.new_ hn
      have h525 := h509.new_ hn
      have h526 := h510.new_ hn
      have h527 := h511.new_ hn
      have h528 := h512.new_ hn
      have h529 := h513.new_ hn
      have h530 := h514.new_ hn
      have h531 := h515.new_ hn
      have h532 := h516.new_ hn
      have h533 := h517.transNew hn
      have h534 := h518.new_ hn
      have h535 := h519.new_ hn
      have h536 := hz520.new_ hn
      clear h508 h509 h510 h511 h512 h513 h514 h515 h516 h517 h518 h519 hz520 hn
      go_wp2_with fail
      refine (first_any _).mono ?_
      rintro e w537 ⟨rfl, hn⟩
      have h538 := h524.new_ hn
      have h539 := h525.new_ hn
      have h540 := h526.new_ hn
      have h541 := h527.new_ hn
      have h542 := h528.new_ hn
      have h543 := h529.new_ hn
      have h544 := h530.new_ hn
      have h545 := h531.new_ hn
      have h546 := h532.new_ hn
      have h547 := h533.transNew hn
      have h548 := h534.new_ hn
      have h549 := h535.new_ hn
      have h550 := h536.new_ hn
      have h551 := hb522.new_ hn
      clear h524 h525 h526 h527 h528 h529 h530 h531 h532 h533 h534 h535 h536 hb522 hn
      cases e1
      · skip
        go_wp2
        go_ret
        exact ⟨rfl, h547⟩
      cases e2
      · skip
        go_wp2
        go_ret
        exact ⟨rfl, h547⟩
      have k552 : w537.cell? ⟨q486, 0, none⟩ = some (.bool f463) := h549.cell 0
      have k553 : w537.cell? ⟨q486, 1, none⟩ = some (.slice A464 n465 c466) := h549.cell 1
      have k554 : w537.cell? ⟨q523, 0, none⟩ = some (.bool f498) := h551.cell 0
      have k555 : w537.cell? ⟨q523, 1, none⟩ = some (.slice A499 n500 c501) := h551.cell 1
      go_wp2_with fail
      clear k552 k553 k554 k555
      refine (cmpz_any _ _ (capI (a + c)) (capI (b + c)) _ h548 h550).mono ?_
      rintro e w556 ⟨rfl, hn⟩
      have h557 := h538.new_ hn
      have h558 := h539.new_ hn
      have h559 := h540.new_ hn
      have h560 := h541.new_ hn
      have h561 := h542.new_ hn
      have h562 := h543.new_ hn
      have h563 := h544.new_ hn
      have h564 := h545.new_ hn
      have h565 := h546.new_ hn
      have h566 := h547.transNew hn
      have h567 := h548.new_ hn
      have h568 := h549.new_ hn
      have h569 := h550.new_ hn
      have h570 := h551.new_ hn
      clear h538 h539 h540 h541 h542 h543 h544 h545 h546 h547 h548 h549 h550 h551 hn
      rw [capI_ok He1.out, capI_ok He2.out, cmpZ_add, ← hP.out]
      go_wp2
      go_ret
      exact ⟨rfl, h566⟩
  · skip
    have hsw : cmpZ b a = -1 := by rw [cmpZ_swap, ← hP.out]; try rfl
    have hng : cmpZ (-b) (-a) = 1 := by rw [cmpZ_neg, ← hP.out]
    have hsm : decide (a = b) = false := by rw [cmpZ_same, ← hP.out]; try rfl
    have hla := h85.lt
    have hlb := h88.lt
    go_wp2_with fail
    have hS : ∀ w', New w52 w' → (Blk w' qx 24 [.bool bx, .slice Ax mx.length cx] ∧ Blk w' qz 24 [.bool bz, .slice Az mz.length cz]) := fun w' hn => ⟨h87.new_ hn, h90.new_ hn⟩
    refine wp_region_dm (fun w' => Blk w' qx 24 [.bool bx, .slice Ax mx.length cx] ∧ Blk w' qz 24 [.bool bz, .slice Az mz.length cz]) [(0, true), (1, true), (2, true), (3, true), (4, true), (5, true), (6, true), (7, true), (8, true), (9, true), (10, true), (11, true), (12, true), (13, true), (14, true), (15, true), (16, true), (17, true), (18, true), (19, true), (20, true), (22, true), (23, true), (21, false), (24, true), (25, true), (26, true), (27, true), (28, true), (29, true), (30, true), (31, false), (32, true), (33, true), (34, true), (35, true), (37, true), (40, true), (36, false), (38, false), (39, false), (41, true), (42, true)] (by kernel_rfl) (by kernel_rfl) (fun _ _ d _ _ h => by cases d <;> exact h) (hS _ (Upd.refl _ _).drew) ?_
    refine st_take (a' := ?_) rfl rfl (y_move (v := .int .i64 1) rfl rfl) ?_ ?_
    rotate_left; (simp only [Act.put, List.setIfInBounds_toArray, List.set_cons_zero, List.set_cons_succ]; rfl)
    refine st_take (a' := ?_) rfl rfl (y_run (v := .bool false) fun w => by kernel_rfl) ?_ ?_
    rotate_left; (simp only [Act.put, List.setIfInBounds_toArray, List.set_cons_zero, List.set_cons_succ]; rfl)
    refine st_take (a' := ?_) rfl rfl (y_move (v := .bool false) rfl rfl) ?_ ?_
    rotate_left; (simp only [Act.put, List.setIfInBounds_toArray, List.set_cons_zero, List.set_cons_succ]; rfl)
    refine st_skip (a' := ?_) rfl rfl ?_ ?_
    rotate_left; (simp only [Act.put, List.setIfInBounds_toArray, List.set_cons_zero, List.set_cons_succ]; rfl)
    refine st_skip (a' := ?_) rfl rfl ?_ ?_
    rotate_left; (simp only [Act.put, List.setIfInBounds_toArray, List.set_cons_zero, List.set_cons_succ]; rfl)
    refine st_take (a' := ?_) rfl rfl (y_pick (b := false) (v := .bool false) rfl rfl rfl) ?_ ?_
    rotate_left; (simp only [Act.put, List.setIfInBounds_toArray, List.set_cons_zero, List.set_cons_succ]; rfl)
    refine st_take (a' := ?_) rfl rfl (y_move (v := .bool false) rfl rfl) ?_ ?_
    rotate_left; (simp only [Act.put, List.setIfInBounds_toArray, List.set_cons_zero, List.set_cons_succ]; rfl)
    refine st_skip (a' := ?_) rfl rfl ?_ ?_
    rotate_left; (simp only [Act.put, List.setIfInBounds_toArray, List.set_cons_zero, List.set_cons_succ]; rfl)
    refine st_skip (a' := ?_) rfl rfl ?_ ?_
    rotate_left; (simp only [Act.put, List.setIfInBounds_toArray, List.set_cons_zero, List.set_cons_succ]; rfl)
    refine st_take (a' := ?_) rfl rfl (y_pick (b := false) (v := .bool false) rfl rfl rfl) ?_ ?_
    rotate_left; (simp only [Act.put, List.setIfInBounds_toArray, List.set_cons_zero, List.set_cons_succ]; rfl)
    refine st_take (a' := ?_) rfl rfl (y_move (v := .bool false) rfl rfl) ?_ ?_
    rotate_left; (simp only [Act.put, List.setIfInBounds_toArray, List.set_cons_zero, List.set_cons_succ]; rfl)
    refine st_take (a' := ?_) rfl rfl (y_move (v := .int .i64 1) rfl rfl) ?_ ?_
    rotate_left; (simp only [Act.put, List.setIfInBounds_toArray, List.set_cons_zero, List.set_cons_succ]; rfl)
    refine st_take (a' := ?_) rfl rfl (y_run (v := .bool false) fun w => by kernel_rfl) ?_ ?_
    rotate_left; (simp only [Act.put, List.setIfInBounds_toArray, List.set_cons_zero, List.set_cons_succ]; rfl)
    refine st_take (a' := ?_) rfl rfl (y_pick (b := false) (v := .bool false) rfl rfl rfl) ?_ ?_
    rotate_left; (simp only [Act.put, List.setIfInBounds_toArray, List.set_cons_zero, List.set_cons_succ]; rfl)
    refine st_take (a' := ?_) rfl rfl (y_move (v := .bool false) rfl rfl) ?_ ?_
    rotate_left; (simp only [Act.put, List.setIfInBounds_toArray, List.set_cons_zero, List.set_cons_succ]; rfl)
    refine st_take (a' := ?_) rfl rfl (y_move (v := .int .i64 1) rfl rfl) ?_ ?_
    rotate_left; (simp only [Act.put, List.setIfInBounds_toArray, List.set_cons_zero, List.set_cons_succ]; rfl)
    refine st_take (a' := ?_) rfl rfl (y_run (v := .bool false) fun w => by kernel_rfl) ?_ ?_
    rotate_left; (simp only [Act.put, List.setIfInBounds_toArray, List.set_cons_zero, List.set_cons_succ]; rfl)
    refine st_take (a' := ?_) rfl rfl (y_pick (b := false) (v := .bool false) rfl rfl rfl) ?_ ?_
    rotate_left; (simp only [Act.put, List.setIfInBounds_toArray, List.set_cons_zero, List.set_cons_succ]; rfl)
    refine st_take (a' := ?_) rfl rfl (y_move (v := .bool false) rfl rfl) ?_ ?_
    rotate_left; (simp only [Act.put, List.setIfInBounds_toArray, List.set_cons_zero, List.set_cons_succ]; rfl)
    refine st_take (a' := ?_) rfl rfl (y_load2 rfl rfl Try.isAgg24 Try.sizeOf24 (fun _ h => h.2)) ?_ ?_
    rotate_left; (simp only [Act.put, List.setIfInBounds_toArray, List.set_cons_zero, List.set_cons_succ]; rfl)
    refine st_take (a' := ?_) rfl rfl (y_load2 rfl rfl Try.isAgg24 Try.sizeOf24 (fun _ h => h.1)) ?_ ?_
    rotate_left; (simp only [Act.put, List.setIfInBounds_toArray, List.set_cons_zero, List.set_cons_succ]; rfl)
    refine st_take (a' := ?_) rfl rfl (y_move (v := .int .i64 1) rfl rfl) ?_ ?_
    rotate_left; (simp only [Act.put, List.setIfInBounds_toArray, List.set_cons_zero, List.set_cons_succ]; rfl)
    refine st_take (a' := ?_) rfl rfl (y_run (v := .int .i64 (-1)) fun w => by kernel_rfl) ?_ ?_
    rotate_left; (simp only [Act.put, List.setIfInBounds_toArray, List.set_cons_zero, List.set_cons_succ]; rfl)
    refine st_act rfl rfl fun K hK => a_call (args := #[.agg #[.bool bz, .slice Az mz.length cz], .agg #[.bool bx, .slice Ax mx.length cx]]) rfl rfl (fun w => by kernel_rfl) (cmpz_any _ _ b a _ (h88.new_ (Upd.refl _ _).drew) (h85.new_ (Upd.refl _ _).drew)) ?_
    rintro e w60 ⟨rfl, hm101⟩
    rw [hsw]
    have hq6_1 := (show New _ _ from (Upd.refl _ _).drew).transNew hm101
    refine ⟨_, rfl, hK _ _ (hS _ hq6_1) ?_⟩
    simp only [Act.put, List.setIfInBounds_toArray, List.set_cons_zero, List.set_cons_succ]
    refine st_take (a' := ?_) rfl rfl (y_run (v := .bool false) fun w => by kernel_rfl) ?_ ?_
    rotate_left; (simp only [Act.put, List.setIfInBounds_toArray, List.set_cons_zero, List.set_cons_succ]; rfl)
    refine st_take (a' := ?_) rfl rfl (y_pick (b := false) (v := .bool false) rfl rfl rfl) ?_ ?_
    rotate_left; (simp only [Act.put, List.setIfInBounds_toArray, List.set_cons_zero, List.set_cons_succ]; rfl)
    refine st_take (a' := ?_) rfl rfl (y_move (v := .bool false) rfl rfl) ?_ ?_
    rotate_left; (simp only [Act.put, List.setIfInBounds_toArray, List.set_cons_zero, List.set_cons_succ]; rfl)
    refine st_take (a' := ?_) rfl rfl (y_move (v := .int .i64 1) rfl rfl) ?_ ?_
    rotate_left; (simp only [Act.put, List.setIfInBounds_toArray, List.set_cons_zero, List.set_cons_succ]; rfl)
    refine st_take (a' := ?_) rfl rfl (y_run (v := .bool false) fun w => by kernel_rfl) ?_ ?_
    rotate_left; (simp only [Act.put, List.setIfInBounds_toArray, List.set_cons_zero, List.set_cons_succ]; rfl)
    refine st_take (a' := ?_) rfl rfl (y_load2 rfl rfl Try.isAgg24 Try.sizeOf24 (fun _ h => h.1)) ?_ ?_
    rotate_left; (simp only [Act.put, List.setIfInBounds_toArray, List.set_cons_zero, List.set_cons_succ]; rfl)
    refine st_take (a' := ?_) rfl rfl (y_load2 rfl rfl Try.isAgg24 Try.sizeOf24 (fun _ h => h.2)) ?_ ?_
    rotate_left; (simp only [Act.put, List.setIfInBounds_toArray, List.set_cons_zero, List.set_cons_succ]; rfl)
    refine st_act rfl rfl fun K hK => a_call (args := #[.agg #[.bool bx, .slice Ax mx.length cx], .agg #[.bool bz, .slice Az mz.length cz]]) rfl rfl (fun w => by kernel_rfl) (same_any _ _ a b _ (h85.new_ hq6_1) (h88.new_ hq6_1)) ?_
    rintro e w61 ⟨rfl, hm102⟩
    rw [hsm]
    have hq6_2 := (show New _ _ from hq6_1).transNew hm102
    refine ⟨_, rfl, hK _ _ (hS _ hq6_2) ?_⟩
    simp only [Act.put, List.setIfInBounds_toArray, List.set_cons_zero, List.set_cons_succ]
    refine st_take (a' := ?_) rfl rfl (y_run (v := .bool false) fun w => by kernel_rfl) ?_ ?_
    rotate_left; (simp only [Act.put, List.setIfInBounds_toArray, List.set_cons_zero, List.set_cons_succ]; rfl)
    refine st_take (a' := ?_) rfl rfl (y_pick (b := false) (v := .bool false) rfl rfl rfl) ?_ ?_
    rotate_left; (simp only [Act.put, List.setIfInBounds_toArray, List.set_cons_zero, List.set_cons_succ]; rfl)
    refine st_take (a' := ?_) rfl rfl (y_move (v := .bool false) rfl rfl) ?_ ?_
    rotate_left; (simp only [Act.put, List.setIfInBounds_toArray, List.set_cons_zero, List.set_cons_succ]; rfl)
    refine st_take (a' := ?_) rfl rfl (y_load2 rfl rfl Try.isAgg24 Try.sizeOf24 (fun _ h => h.2)) ?_ ?_
    rotate_left; (simp only [Act.put, List.setIfInBounds_toArray, List.set_cons_zero, List.set_cons_succ]; rfl)
    refine st_take (a' := ?_) rfl rfl (y_load2 rfl rfl Try.isAgg24 Try.sizeOf24 (fun _ h => h.1)) ?_ ?_
    rotate_left; (simp only [Act.put, List.setIfInBounds_toArray, List.set_cons_zero, List.set_cons_succ]; rfl)
    refine st_take (a' := ?_) rfl rfl (y_move (v := .int .i64 1) rfl rfl) ?_ ?_
    rotate_left; (simp only [Act.put, List.setIfInBounds_toArray, List.set_cons_zero, List.set_cons_succ]; rfl)
    refine st_act rfl rfl fun K hK => a_call (args := #[.agg #[.bool bz, .slice Az mz.length cz]]) rfl rfl (fun w => by kernel_rfl) (negz_any _ b _ (h88.new_ hq6_2)) ?_
    rintro e w62 ⟨f103, A103, n103, c103, rfl, hc103, hm103⟩
    have hq6_3 := (show New _ _ from hq6_2).transNew hm103
    refine ⟨_, rfl, hK _ _ (hS _ hq6_3) ?_⟩
    simp only [Act.put, List.setIfInBounds_toArray, List.set_cons_zero, List.set_cons_succ]
    refine st_act rfl rfl fun K hK => a_call (args := #[.agg #[.bool bx, .slice Ax mx.length cx]]) rfl rfl (fun w => by kernel_rfl) (negz_any _ a _ (h85.new_ hq6_3)) ?_
    rintro e w63 ⟨f104, A104, n104, c104, rfl, hc104, hm104⟩
    have hq6_4 := (show New _ _ from hq6_3).transNew hm104
    refine ⟨_, rfl, hK _ _ (hS _ hq6_4) ?_⟩
    simp only [Act.put, List.setIfInBounds_toArray, List.set_cons_zero, List.set_cons_succ]
    refine st_act rfl rfl fun K hK => a_call (args := #[.agg #[.bool f103, .slice A103 n103 c103], .agg #[.bool f104, .slice A104 n104 c104]]) rfl rfl (fun w => by kernel_rfl) (cmpz_any _ _ (-b) (-a) _ ((hc103.big (by rw [Int.natAbs_neg]; exact hlb)).new_ hm104) (hc104.big (by rw [Int.natAbs_neg]; exact hla))) ?_
    rintro e w64 ⟨rfl, hm105⟩
    rw [hng]
    have hq6_5 := (show New _ _ from hq6_4).transNew hm105
    refine ⟨_, rfl, hK _ _ (hS _ hq6_5) ?_⟩
    simp only [Act.put, List.setIfInBounds_toArray, List.set_cons_zero, List.set_cons_succ]
    refine st_take (a' := ?_) rfl rfl (y_run (v := .bool false) fun w => by kernel_rfl) ?_ ?_
    rotate_left; (simp only [Act.put, List.setIfInBounds_toArray, List.set_cons_zero, List.set_cons_succ]; rfl)
    refine st_take (a' := ?_) rfl rfl (y_pick (b := false) (v := .bool false) rfl rfl rfl) ?_ ?_
    rotate_left; (simp only [Act.put, List.setIfInBounds_toArray, List.set_cons_zero, List.set_cons_succ]; rfl)
    refine st_nil ?_
    have hd571 := (show New _ _ from hq6_5)
    clear hS hq6_1 hq6_2 hq6_3 hq6_4 hq6_5
    have h572 := h85.new_ hd571
    have h573 := h86.new_ hd571
    have h574 := h87.new_ hd571
    have h575 := h88.new_ hd571
    have h576 := h89.new_ hd571
    have h577 := h90.new_ hd571
    have h578 := h91.new_ hd571
    have h579 := h92.new_ hd571
    have h580 := h93.new_ hd571
    have h581 := h94.transNew hd571
    clear h85 h86 h87 h88 h89 h90 h91 h92 h93 h94 hd571
    clear hm101 hm102 hm103 hm104 hm105 hsw hng hsm hla hlb hc103 hc104
    have k587 : w64.cell? ⟨qx, 0, none⟩ = some (.bool bx) := h574.cell 0
    have k588 : w64.cell? ⟨qx, 1, none⟩ = some (.slice Ax mx.length cx) := h574.cell 1
    have k589 : w64.cell? ⟨qu, 0, none⟩ = some (.bool bu) := h580.cell 0
    have k590 : w64.cell? ⟨qu, 1, none⟩ = some (.slice Au mu.length cu) := h580.cell 1
    go_wp2_with fail
    clear k587 k588 k589 k590
    refine (add_any _ _ (a) (c) _ h572 h578).mono ?_
    rintro e w591 ⟨f582, A583, n584, c585, rfl, hc586, hn⟩
    have h592 := h572.new_ hn
    have h593 := h573.new_ hn
    have h594 := h574.new_ hn
    have h595 := h575.new_ hn
    have h596 := h576.new_ hn
    have h597 := h577.new_ hn
    have h598 := h578.new_ hn
    have h599 := h579.new_ hn
    have h600 := h580.new_ hn
    have h601 := h581.transNew hn
    clear h572 h573 h574 h575 h576 h577 h578 h579 h580 h581 hn
    obtain ⟨e1, hk⟩ : ∃ o, o = okI (a + c) := ⟨_, rfl⟩
    rw [← hk]
    have He1 := hide hk
    clear hk
    have hz602 := hc586.big (capI_lt _)
    clear hc586
    go_upto_region 9 with (fail)
    obtain ⟨w603, hw⟩ : ∃ w', w' = w591.alloc (.cells #[.bool f582, .slice A583 n584 c585] 24) := ⟨_, rfl⟩
    have hn : New w591 w603 := by rw [hw]; exact (Upd.refl _ _).alloc _
    have hb604 : Blk w603 w591.heap.size 24 [.bool f582, .slice A583 n584 c585] := by rw [hw]; exact Blk.new w591 _ _
    rw [← hw]
    clear hw
    obtain ⟨q605, hq⟩ : ∃ q, q = w591.heap.size := ⟨_, rfl⟩
    rw [← hq] at hb604 ⊢
    clear hq
    have h606 := h592.new_ hn
    have h607 := h593.new_ hn
    have h608 := h594.new_ hn
    have h609 := h595.new_ hn
    have h610 := h596.new_ hn
    have h611 := h597.new_ hn
    have h612 := h598.new_ hn
    have h613 := h599.new_ hn
    have h614 := h600.new_ hn
    have h615 := h601.transNew hn
    have h616 := hz602.new_ hn
    clear h592 h593 h594 h595 h596 h597 h598 h599 h600 h601 hz602 hn
    have k622 : w603.cell? ⟨qz, 0, none⟩ = some (.bool bz) := h611.cell 0
    have k623 : w603.cell? ⟨qz, 1, none⟩ = some (.slice Az mz.length cz) := h611.cell 1
    have k624 : w603.cell? ⟨qu, 0, none⟩ = some (.bool bu) := h614.cell 0
    have k625 : w603.cell? ⟨qu, 1, none⟩ = some (.slice Au mu.length cu) := h614.cell 1
    go_wp2_with fail
    clear k622 k623 k624 k625
    refine (add_any _ _ (b) (c) _ h609 h612).mono ?_
    rintro e w626 ⟨f617, A618, n619, c620, rfl, hc621, hn⟩
    have h627 := h606.new_ hn
    have h628 := h607.new_ hn
    have h629 := h608.new_ hn
    have h630 := h609.new_ hn
    have h631 := h610.new_ hn
    have h632 := h611.new_ hn
    have h633 := h612.new_ hn
    have h634 := h613.new_ hn
    have h635 := h614.new_ hn
    have h636 := h615.transNew hn
    have h637 := h616.new_ hn
    have h638 := hb604.new_ hn
    clear h606 h607 h608 h609 h610 h611 h612 h613 h614 h615 h616 hb604 hn
    obtain ⟨e2, hk⟩ : ∃ o, o = okI (b + c) := ⟨_, rfl⟩
    rw [← hk]
    have He2 := hide hk
    clear hk
    have hz639 := hc621.big (capI_lt _)
    clear hc621
    go_upto_region 10 with (fail)
    obtain ⟨w640, hw⟩ : ∃ w', w' = w626.alloc (.cells #[.bool f617, .slice A618 n619 c620] 24) := ⟨_, rfl⟩
    have hn : New w626 w640 := by rw [hw]; exact (Upd.refl _ _).alloc _
    have hb641 : Blk w640 w626.heap.size 24 [.bool f617, .slice A618 n619 c620] := by rw [hw]; exact Blk.new w626 _ _
    rw [← hw]
    clear hw
    obtain ⟨q642, hq⟩ : ∃ q, q = w626.heap.size := ⟨_, rfl⟩
    rw [← hq] at hb641 ⊢
    clear hq
    have h643 := h627.new_ hn
    have h644 := h628.new_ hn
    have h645 := h629.new_ hn
    have h646 := h630.new_ hn
    have h647 := h631.new_ hn
    have h648 := h632.new_ hn
    have h649 := h633.new_ hn
    have h650 := h634.new_ hn
    have h651 := h635.new_ hn
    have h652 := h636.transNew hn
    have h653 := h637.new_ hn
    have h654 := h638.new_ hn
    have h655 := hz639.new_ hn
    clear h627 h628 h629 h630 h631 h632 h633 h634 h635 h636 h637 h638 hz639 hn
    go_wp2_with fail
    refine (first_any _).mono ?_
    rintro e w656 ⟨rfl, hn⟩
    have h657 := h643.new_ hn
    have h658 := h644.new_ hn
    have h659 := h645.new_ hn
    have h660 := h646.new_ hn
    have h661 := h647.new_ hn
    have h662 := h648.new_ hn
    have h663 := h649.new_ hn
    have h664 := h650.new_ hn
    have h665 := h651.new_ hn
    have h666 := h652.transNew hn
    have h667 := h653.new_ hn
    have h668 := h654.new_ hn
    have h669 := h655.new_ hn
    have h670 := hb641.new_ hn
    clear h643 h644 h645 h646 h647 h648 h649 h650 h651 h652 h653 h654 h655 hb641 hn
    cases e1
    · skip
      go_wp2
      go_ret
      exact ⟨rfl, h666⟩
    cases e2
    · skip
      go_wp2
      go_ret
      exact ⟨rfl, h666⟩
    have k671 : w656.cell? ⟨q605, 0, none⟩ = some (.bool f582) := h668.cell 0
    have k672 : w656.cell? ⟨q605, 1, none⟩ = some (.slice A583 n584 c585) := h668.cell 1
    have k673 : w656.cell? ⟨q642, 0, none⟩ = some (.bool f617) := h670.cell 0
    have k674 : w656.cell? ⟨q642, 1, none⟩ = some (.slice A618 n619 c620) := h670.cell 1
    go_wp2_with fail
    clear k671 k672 k673 k674
    refine (cmpz_any _ _ (capI (a + c)) (capI (b + c)) _ h667 h669).mono ?_
    rintro e w675 ⟨rfl, hn⟩
    have h676 := h657.new_ hn
    have h677 := h658.new_ hn
    have h678 := h659.new_ hn
    have h679 := h660.new_ hn
    have h680 := h661.new_ hn
    have h681 := h662.new_ hn
    have h682 := h663.new_ hn
    have h683 := h664.new_ hn
    have h684 := h665.new_ hn
    have h685 := h666.transNew hn
    have h686 := h667.new_ hn
    have h687 := h668.new_ hn
    have h688 := h669.new_ hn
    have h689 := h670.new_ hn
    clear h657 h658 h659 h660 h661 h662 h663 h664 h665 h666 h667 h668 h669 h670 hn
    rw [capI_ok He1.out, capI_ok He2.out, cmpZ_add, ← hP.out]
    go_wp2
    go_ret
    exact ⟨rfl, h685⟩
end Go.Proofs.Ytfhflpchfgkgcaa
