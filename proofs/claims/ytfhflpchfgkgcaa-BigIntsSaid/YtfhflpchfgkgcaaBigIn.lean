/- The law BigInts: the walk. -/
import Derived.Test.YtfhflpchfgkgcaaBigSg
import Derived.Test.YtfhflpchfgkgcaaBigDc
namespace Go.Proofs.Ytfhflpchfgkgcaa
open Go.RowKit
section
variable {P : Program} {S : World → Prop} {o : Oper} {a : Act}
theorem y_op {op : BinOp} {t t' : TypeId} {x y : Operand} {u v r : Value} (ho : o.op = .binOp op t x y t') (hx : a.eval x = u) (hy : a.eval y = v) (hg : ∀ w, (eqGuard op t x y u v).run P w = .ok () w) (h : ∀ w, (binOp op t u v).run P w = .ok r w) : ∀ w, S w → (execOp a.eval o).run P w = .ok (.value r) w := by
  intro w _; simp [execOp, ho, hx, hy, hg, h]
theorem r_neqs {t : TypeId} (s : ByteArray) : ∀ w, (binOp .neq t (.string s) (.string s)).run P w = .ok (.bool false) w := by
  intro w; simp [binOp, Op.stringOp]
theorem r_neqb (b : Bool) : ∀ w, (binOp .neq 4 (.bool b) (.bool b)).run Try.prog w = .ok (.bool false) w := by
  intro w; cases b <;> kernel_rfl
theorem r_lss {t : TypeId} {x y : Int} {r : Bool} (h : decide (x < y) = r) : ∀ w, (binOp .lss t (.int .i64 x) (.int .i64 y)).run P w = .ok (.bool r) w := by
  intro w; subst h; simp [binOp, go_sem]
theorem r_mul {t : TypeId} {x y r : Int} (h : x * y = r) (hr : -9223372036854775808 ≤ r ∧ r ≤ 9223372036854775807) : ∀ w, (binOp .mul t (.int .i64 x) (.int .i64 y)).run P w = .ok (.int .i64 r) w := by
  intro w; simp [binOp, Op.intArith, h, IntWalk.i64_in r hr]
end
theorem cmpZ_lt (a b : Int) : decide (cmpZ a b < 0) = decide (a < b) := by
  unfold cmpZ
  repeat' split
  all_goals simp; try omega
theorem mul_abs {m n : Int} (h1 : m.natAbs ≤ 1073741824) (h2 : n.natAbs ≤ 1073741824) : (m * n).natAbs ≤ 1152921504606846976 := by
  rw [Int.natAbs_mul]
  exact Nat.mul_le_mul h1 h2
set_option maxHeartbeats 25600000 in
set_option maxRecDepth 100000 in
theorem ints_walk (m n : Int) (w : World) : Calls Try.prog 13 #[.int .i64 m, .int .i64 n] w (IsBool true w) := by
  have hN : New w w := Upd.refl _ _
  go_enter Try.func13, Try.ntmps13
  go_wp2_with fail
  refine (first_any _).mono ?_
  rintro e w1 ⟨rfl, hn⟩
  have h2 := hN.transNew hn
  clear hN hn
  by_cases hc : m < -1073741824
  · skip
    go_wp2_with fail
    refine (first_any _).mono ?_
    rintro e w3 ⟨rfl, hn⟩
    have h4 := h2.transNew hn
    clear h2 hn
    go_wp2
    go_ret
    exact ⟨rfl, h4⟩
  · skip
    have hm1 : -1073741824 ≤ m := by omega
    clear hc
    by_cases hc : 1073741824 < m
    · skip
      go_wp2_with fail
      refine (first_any _).mono ?_
      rintro e w5 ⟨rfl, hn⟩
      have h6 := h2.transNew hn
      clear h2 hn
      go_wp2
      go_ret
      exact ⟨rfl, h6⟩
    · skip
      have hm2 : m ≤ 1073741824 := by omega
      clear hc
      by_cases hc : n < -1073741824
      · skip
        go_wp2_with fail
        refine (first_any _).mono ?_
        rintro e w7 ⟨rfl, hn⟩
        have h8 := h2.transNew hn
        clear h2 hn
        go_wp2
        go_ret
        exact ⟨rfl, h8⟩
      · skip
        have hn1 : -1073741824 ≤ n := by omega
        clear hc
        by_cases hc : 1073741824 < n
        · skip
          go_wp2_with fail
          refine (first_any _).mono ?_
          rintro e w9 ⟨rfl, hn⟩
          have h10 := h2.transNew hn
          clear h2 hn
          go_wp2
          go_ret
          exact ⟨rfl, h10⟩
        · skip
          have hn2 : n ≤ 1073741824 := by omega
          clear hc
          go_wp2_with fail
          refine (of_any m _ (by omega) (by omega)).mono ?_
          rintro e w11 ⟨f1, A1, n1, c1, rfl, hc1, hn⟩
          have h12 := h2.transNew hn
          clear h2 hn
          have hz1 := hc1.big (by omega)
          clear hc1
          go_wp2_with fail
          refine (of_any n _ (by omega) (by omega)).mono ?_
          rintro e w13 ⟨f2, A2, n2, c2, rfl, hc2, hn⟩
          have h14 := h12.transNew hn
          have h15 := hz1.new_ hn
          clear h12 hz1 hn
          have hz2 := hc2.big (by omega)
          clear hc2
          go_upto_region 6 with (fail)
          obtain ⟨w3, hw3, hn, hba, hbb, -⟩ := two_boxes w13 24 (.bool f1) (.slice A1 n1 c1) (.bool f2) (.slice A2 n2 c2)
          rw [← hw3]
          clear hw3
          obtain ⟨qa, hqa⟩ : ∃ q, q = w13.heap.size := ⟨_, rfl⟩
          rw [← hqa] at hba hbb ⊢
          clear hqa
          have h16 := h14.transNew hn
          have h17 := h15.new_ hn
          have h18 := hz2.new_ hn
          clear h14 h15 hz2 hn
          have hab := mul_abs (m := m) (n := n) (by omega) (by omega)
          obtain ⟨p, hp⟩ : ∃ p, p = m * n := ⟨_, rfl⟩
          rw [← hp] at hab
          have Hp := hide hp
          clear hp
          have k24 : w3.cell? ⟨qa, 0, none⟩ = some (.bool f1) := hba.cell 0
          have k25 : w3.cell? ⟨qa, 1, none⟩ = some (.slice A1 n1 c1) := hba.cell 1
          have k26 : w3.cell? ⟨(qa + 1), 0, none⟩ = some (.bool f2) := hbb.cell 0
          have k27 : w3.cell? ⟨(qa + 1), 1, none⟩ = some (.slice A2 n2 c2) := hbb.cell 1
          go_wp2_with fail
          clear k24 k25 k26 k27
          refine (add_any _ _ m n _ h17 h18).mono ?_
          rintro e w28 ⟨f19, A20, n21, c22, rfl, hc23, hn⟩
          have h29 := h16.transNew hn
          have h30 := h17.new_ hn
          have h31 := h18.new_ hn
          have h32 := hba.new_ hn
          have h33 := hbb.new_ hn
          clear h16 h17 h18 hba hbb hn
          have hs : (m + n).natAbs < 2 ^ 256 := by omega
          rw [capI_of hs] at hc23
          rw [okI_of hs]
          clear hs
          have hz34 : BigAt _ _ (m + n) := hc23.big (by omega)
          clear hc23
          go_upto_region 7 with (fail)
          obtain ⟨w35, hw⟩ : ∃ w', w' = w28.alloc (.cells #[.bool f19, .slice A20 n21 c22] 24) := ⟨_, rfl⟩
          have hn : New w28 w35 := by rw [hw]; exact (Upd.refl _ _).alloc _
          have hb36 : Blk w35 w28.heap.size 24 [.bool f19, .slice A20 n21 c22] := by rw [hw]; exact Blk.new w28 _ _
          rw [← hw]
          clear hw
          obtain ⟨q37, hq⟩ : ∃ q, q = w28.heap.size := ⟨_, rfl⟩
          rw [← hq] at hb36 ⊢
          clear hq
          have h38 := h29.transNew hn
          have h39 := h30.new_ hn
          have h40 := h31.new_ hn
          have h41 := h32.new_ hn
          have h42 := h33.new_ hn
          have h43 := hz34.new_ hn
          clear h29 h30 h31 h32 h33 hz34 hn
          have k49 : w35.cell? ⟨qa, 0, none⟩ = some (.bool f1) := h41.cell 0
          have k50 : w35.cell? ⟨qa, 1, none⟩ = some (.slice A1 n1 c1) := h41.cell 1
          have k51 : w35.cell? ⟨(qa + 1), 0, none⟩ = some (.bool f2) := h42.cell 0
          have k52 : w35.cell? ⟨(qa + 1), 1, none⟩ = some (.slice A2 n2 c2) := h42.cell 1
          go_wp2_with fail
          clear k49 k50 k51 k52
          refine (sub_any _ _ m n _ h39 h40).mono ?_
          rintro e w53 ⟨f44, A45, n46, c47, rfl, hc48, hn⟩
          have h54 := h38.transNew hn
          have h55 := h39.new_ hn
          have h56 := h40.new_ hn
          have h57 := h41.new_ hn
          have h58 := h42.new_ hn
          have h59 := h43.new_ hn
          have h60 := hb36.new_ hn
          clear h38 h39 h40 h41 h42 h43 hb36 hn
          have hs : (m - n).natAbs < 2 ^ 256 := by omega
          rw [capI_of hs] at hc48
          rw [okI_of hs]
          clear hs
          have hz61 : BigAt _ _ (m - n) := hc48.big (by omega)
          clear hc48
          go_upto_region 8 with (fail)
          obtain ⟨w62, hw⟩ : ∃ w', w' = w53.alloc (.cells #[.bool f44, .slice A45 n46 c47] 24) := ⟨_, rfl⟩
          have hn : New w53 w62 := by rw [hw]; exact (Upd.refl _ _).alloc _
          have hb63 : Blk w62 w53.heap.size 24 [.bool f44, .slice A45 n46 c47] := by rw [hw]; exact Blk.new w53 _ _
          rw [← hw]
          clear hw
          obtain ⟨q64, hq⟩ : ∃ q, q = w53.heap.size := ⟨_, rfl⟩
          rw [← hq] at hb63 ⊢
          clear hq
          have h65 := h54.transNew hn
          have h66 := h55.new_ hn
          have h67 := h56.new_ hn
          have h68 := h57.new_ hn
          have h69 := h58.new_ hn
          have h70 := h59.new_ hn
          have h71 := h60.new_ hn
          have h72 := hz61.new_ hn
          clear h54 h55 h56 h57 h58 h59 h60 hz61 hn
          have k78 : w62.cell? ⟨qa, 0, none⟩ = some (.bool f1) := h68.cell 0
          have k79 : w62.cell? ⟨qa, 1, none⟩ = some (.slice A1 n1 c1) := h68.cell 1
          have k80 : w62.cell? ⟨(qa + 1), 0, none⟩ = some (.bool f2) := h69.cell 0
          have k81 : w62.cell? ⟨(qa + 1), 1, none⟩ = some (.slice A2 n2 c2) := h69.cell 1
          go_wp2_with fail
          clear k78 k79 k80 k81
          refine (mul_any _ _ m n _ h66 h67).mono ?_
          rintro e w82 ⟨f73, A74, n75, c76, rfl, hc77, hn⟩
          have h83 := h65.transNew hn
          have h84 := h66.new_ hn
          have h85 := h67.new_ hn
          have h86 := h68.new_ hn
          have h87 := h69.new_ hn
          have h88 := h70.new_ hn
          have h89 := h71.new_ hn
          have h90 := h72.new_ hn
          have h91 := hb63.new_ hn
          clear h65 h66 h67 h68 h69 h70 h71 h72 hb63 hn
          rw [← Hp.out] at hc77
          rw [← Hp.out]
          have hs : (p).natAbs < 2 ^ 256 := by omega
          rw [capI_of hs] at hc77
          rw [okI_of hs]
          clear hs
          have hz92 : BigAt _ _ (p) := hc77.big (by omega)
          clear hc77
          go_upto_region 9 with (fail)
          obtain ⟨w93, hw⟩ : ∃ w', w' = w82.alloc (.cells #[.bool f73, .slice A74 n75 c76] 24) := ⟨_, rfl⟩
          have hn : New w82 w93 := by rw [hw]; exact (Upd.refl _ _).alloc _
          have hb94 : Blk w93 w82.heap.size 24 [.bool f73, .slice A74 n75 c76] := by rw [hw]; exact Blk.new w82 _ _
          rw [← hw]
          clear hw
          obtain ⟨q95, hq⟩ : ∃ q, q = w82.heap.size := ⟨_, rfl⟩
          rw [← hq] at hb94 ⊢
          clear hq
          have h96 := h83.transNew hn
          have h97 := h84.new_ hn
          have h98 := h85.new_ hn
          have h99 := h86.new_ hn
          have h100 := h87.new_ hn
          have h101 := h88.new_ hn
          have h102 := h89.new_ hn
          have h103 := h90.new_ hn
          have h104 := h91.new_ hn
          have h105 := hz92.new_ hn
          clear h83 h84 h85 h86 h87 h88 h89 h90 h91 hz92 hn
          have hS : ∀ w', New w93 w' → (Blk w' qa 24 [.bool f1, .slice A1 n1 c1] ∧ Blk w' (qa + 1) 24 [.bool f2, .slice A2 n2 c2] ∧ Blk w' q37 24 [.bool f19, .slice A20 n21 c22] ∧ Blk w' q64 24 [.bool f44, .slice A45 n46 c47] ∧ Blk w' q95 24 [.bool f73, .slice A74 n75 c76]) := fun w' hn => ⟨h99.new_ hn, h100.new_ hn, h102.new_ hn, h104.new_ hn, hb94.new_ hn⟩
          refine wp_region_dm (fun w' => Blk w' qa 24 [.bool f1, .slice A1 n1 c1] ∧ Blk w' (qa + 1) 24 [.bool f2, .slice A2 n2 c2] ∧ Blk w' q37 24 [.bool f19, .slice A20 n21 c22] ∧ Blk w' q64 24 [.bool f44, .slice A45 n46 c47] ∧ Blk w' q95 24 [.bool f73, .slice A74 n75 c76]) [(0, true), (1, true), (2, true), (3, true), (4, true), (5, true), (6, true), (7, true), (8, true), (9, true), (10, true), (11, true), (12, true), (13, true), (14, true), (15, false), (16, false), (17, true), (18, true), (19, true), (20, true), (21, true), (22, true), (23, true), (24, false), (25, false), (26, true), (27, true), (28, true), (29, true), (30, true), (31, true), (32, true), (33, false), (34, false), (35, true), (36, true), (37, true), (38, true), (40, true), (39, false), (41, false), (42, true), (43, true), (44, true), (45, true), (46, true), (49, true), (50, true), (51, true), (47, false), (48, true), (52, true), (53, true)] (by kernel_rfl) (by kernel_rfl) (fun _ _ d _ _ h => by cases d <;> exact h) (hS _ (Upd.refl _ _).drew) ?_
          refine st_take (a' := ?_) rfl rfl (y_move (v := .bool true) rfl rfl) ?_ ?_
          rotate_left; (simp only [Act.put, List.setIfInBounds_toArray, List.set_cons_zero, List.set_cons_succ]; rfl)
          refine st_take (a' := ?_) rfl rfl (y_run (v := .bool false) fun w => by kernel_rfl) ?_ ?_
          rotate_left; (simp only [Act.put, List.setIfInBounds_toArray, List.set_cons_zero, List.set_cons_succ]; rfl)
          refine st_take (a' := ?_) rfl rfl (y_move (v := .bool false) rfl rfl) ?_ ?_
          rotate_left; (simp only [Act.put, List.setIfInBounds_toArray, List.set_cons_zero, List.set_cons_succ]; rfl)
          refine st_take (a' := ?_) rfl rfl (y_move (v := .bool true) rfl rfl) ?_ ?_
          rotate_left; (simp only [Act.put, List.setIfInBounds_toArray, List.set_cons_zero, List.set_cons_succ]; rfl)
          refine st_take (a' := ?_) rfl rfl (y_run (v := .bool false) fun w => by kernel_rfl) ?_ ?_
          rotate_left; (simp only [Act.put, List.setIfInBounds_toArray, List.set_cons_zero, List.set_cons_succ]; rfl)
          refine st_take (a' := ?_) rfl rfl (y_pick (b := false) (v := .bool false) rfl rfl rfl) ?_ ?_
          rotate_left; (simp only [Act.put, List.setIfInBounds_toArray, List.set_cons_zero, List.set_cons_succ]; rfl)
          refine st_take (a' := ?_) rfl rfl (y_move (v := .bool false) rfl rfl) ?_ ?_
          rotate_left; (simp only [Act.put, List.setIfInBounds_toArray, List.set_cons_zero, List.set_cons_succ]; rfl)
          refine st_take (a' := ?_) rfl rfl (y_move (v := .bool true) rfl rfl) ?_ ?_
          rotate_left; (simp only [Act.put, List.setIfInBounds_toArray, List.set_cons_zero, List.set_cons_succ]; rfl)
          refine st_take (a' := ?_) rfl rfl (y_run (v := .bool false) fun w => by kernel_rfl) ?_ ?_
          rotate_left; (simp only [Act.put, List.setIfInBounds_toArray, List.set_cons_zero, List.set_cons_succ]; rfl)
          refine st_take (a' := ?_) rfl rfl (y_pick (b := false) (v := .bool false) rfl rfl rfl) ?_ ?_
          rotate_left; (simp only [Act.put, List.setIfInBounds_toArray, List.set_cons_zero, List.set_cons_succ]; rfl)
          refine st_take (a' := ?_) rfl rfl (y_move (v := .bool false) rfl rfl) ?_ ?_
          rotate_left; (simp only [Act.put, List.setIfInBounds_toArray, List.set_cons_zero, List.set_cons_succ]; rfl)
          refine st_take (a' := ?_) rfl rfl (y_load2 rfl rfl Try.isAgg24 Try.sizeOf24 (fun _ h => h.2.2.1)) ?_ ?_
          rotate_left; (simp only [Act.put, List.setIfInBounds_toArray, List.set_cons_zero, List.set_cons_succ]; rfl)
          refine st_take (a' := ?_) rfl rfl (y_move (v := .int .i64 m) rfl rfl) ?_ ?_
          rotate_left; (simp only [Act.put, List.setIfInBounds_toArray, List.set_cons_zero, List.set_cons_succ]; rfl)
          refine st_take (a' := ?_) rfl rfl (y_move (v := .int .i64 n) rfl rfl) ?_ ?_
          rotate_left; (simp only [Act.put, List.setIfInBounds_toArray, List.set_cons_zero, List.set_cons_succ]; rfl)
          refine st_take (a' := ?_) rfl rfl (y_bin (k := .i64) (m := m) (n := n) (v := .int .i64 (m + n)) rfl rfl rfl (r_add rfl (by omega))) ?_ ?_
          rotate_left; (simp only [Act.put, List.setIfInBounds_toArray, List.set_cons_zero, List.set_cons_succ]; rfl)
          refine st_act rfl rfl fun K hK => a_call (args := #[.int .i64 (m + n)]) rfl rfl (fun w => by kernel_rfl) (of_any (m + n) _ (by omega) (by omega)) ?_
          rintro e w101 ⟨f101, A101, n101, c101, rfl, hc101, hm101⟩
          have hq1_1 := (show New _ _ from (Upd.refl _ _).drew).transNew hm101
          refine ⟨_, rfl, hK _ _ (hS _ hq1_1) ?_⟩
          simp only [Act.put, List.setIfInBounds_toArray, List.set_cons_zero, List.set_cons_succ]
          refine st_act rfl rfl fun K hK => a_call (args := #[.agg #[.bool f19, .slice A20 n21 c22], .agg #[.bool f101, .slice A101 n101 c101]]) rfl rfl (fun w => by kernel_rfl) (same_any _ _ (m + n) (m + n) _ (h101.new_ hq1_1) (hc101.big (by omega))) ?_
          rintro e w102 ⟨rfl, hm102⟩
          rw [decide_eq_true (rfl : (m + n) = m + n)]
          have hq1_2 := (show New _ _ from hq1_1).transNew hm102
          refine ⟨_, rfl, hK _ _ (hS _ hq1_2) ?_⟩
          simp only [Act.put, List.setIfInBounds_toArray, List.set_cons_zero, List.set_cons_succ]
          refine st_take (a' := ?_) rfl rfl (y_run (v := .bool false) fun w => by kernel_rfl) ?_ ?_
          rotate_left; (simp only [Act.put, List.setIfInBounds_toArray, List.set_cons_zero, List.set_cons_succ]; rfl)
          refine st_take (a' := ?_) rfl rfl (y_pick (b := false) (v := .bool false) rfl rfl rfl) ?_ ?_
          rotate_left; (simp only [Act.put, List.setIfInBounds_toArray, List.set_cons_zero, List.set_cons_succ]; rfl)
          refine st_take (a' := ?_) rfl rfl (y_move (v := .bool false) rfl rfl) ?_ ?_
          rotate_left; (simp only [Act.put, List.setIfInBounds_toArray, List.set_cons_zero, List.set_cons_succ]; rfl)
          refine st_take (a' := ?_) rfl rfl (y_load2 rfl rfl Try.isAgg24 Try.sizeOf24 (fun _ h => h.2.2.2.1)) ?_ ?_
          rotate_left; (simp only [Act.put, List.setIfInBounds_toArray, List.set_cons_zero, List.set_cons_succ]; rfl)
          refine st_take (a' := ?_) rfl rfl (y_move (v := .int .i64 m) rfl rfl) ?_ ?_
          rotate_left; (simp only [Act.put, List.setIfInBounds_toArray, List.set_cons_zero, List.set_cons_succ]; rfl)
          refine st_take (a' := ?_) rfl rfl (y_move (v := .int .i64 n) rfl rfl) ?_ ?_
          rotate_left; (simp only [Act.put, List.setIfInBounds_toArray, List.set_cons_zero, List.set_cons_succ]; rfl)
          refine st_take (a' := ?_) rfl rfl (y_bin (k := .i64) (m := m) (n := n) (v := .int .i64 (m - n)) rfl rfl rfl (r_sub rfl (by omega))) ?_ ?_
          rotate_left; (simp only [Act.put, List.setIfInBounds_toArray, List.set_cons_zero, List.set_cons_succ]; rfl)
          refine st_act rfl rfl fun K hK => a_call (args := #[.int .i64 (m - n)]) rfl rfl (fun w => by kernel_rfl) (of_any (m - n) _ (by omega) (by omega)) ?_
          rintro e w103 ⟨f103, A103, n103, c103, rfl, hc103, hm103⟩
          have hq1_3 := (show New _ _ from hq1_2).transNew hm103
          refine ⟨_, rfl, hK _ _ (hS _ hq1_3) ?_⟩
          simp only [Act.put, List.setIfInBounds_toArray, List.set_cons_zero, List.set_cons_succ]
          refine st_act rfl rfl fun K hK => a_call (args := #[.agg #[.bool f44, .slice A45 n46 c47], .agg #[.bool f103, .slice A103 n103 c103]]) rfl rfl (fun w => by kernel_rfl) (same_any _ _ (m - n) (m - n) _ (h103.new_ hq1_3) (hc103.big (by omega))) ?_
          rintro e w104 ⟨rfl, hm104⟩
          rw [decide_eq_true (rfl : (m - n) = m - n)]
          have hq1_4 := (show New _ _ from hq1_3).transNew hm104
          refine ⟨_, rfl, hK _ _ (hS _ hq1_4) ?_⟩
          simp only [Act.put, List.setIfInBounds_toArray, List.set_cons_zero, List.set_cons_succ]
          refine st_take (a' := ?_) rfl rfl (y_run (v := .bool false) fun w => by kernel_rfl) ?_ ?_
          rotate_left; (simp only [Act.put, List.setIfInBounds_toArray, List.set_cons_zero, List.set_cons_succ]; rfl)
          refine st_take (a' := ?_) rfl rfl (y_pick (b := false) (v := .bool false) rfl rfl rfl) ?_ ?_
          rotate_left; (simp only [Act.put, List.setIfInBounds_toArray, List.set_cons_zero, List.set_cons_succ]; rfl)
          refine st_take (a' := ?_) rfl rfl (y_move (v := .bool false) rfl rfl) ?_ ?_
          rotate_left; (simp only [Act.put, List.setIfInBounds_toArray, List.set_cons_zero, List.set_cons_succ]; rfl)
          refine st_take (a' := ?_) rfl rfl (y_load2 rfl rfl Try.isAgg24 Try.sizeOf24 (fun _ h => h.2.2.2.2)) ?_ ?_
          rotate_left; (simp only [Act.put, List.setIfInBounds_toArray, List.set_cons_zero, List.set_cons_succ]; rfl)
          refine st_take (a' := ?_) rfl rfl (y_move (v := .int .i64 m) rfl rfl) ?_ ?_
          rotate_left; (simp only [Act.put, List.setIfInBounds_toArray, List.set_cons_zero, List.set_cons_succ]; rfl)
          refine st_take (a' := ?_) rfl rfl (y_move (v := .int .i64 n) rfl rfl) ?_ ?_
          rotate_left; (simp only [Act.put, List.setIfInBounds_toArray, List.set_cons_zero, List.set_cons_succ]; rfl)
          refine st_take (a' := ?_) rfl rfl (y_bin (k := .i64) (m := m) (n := n) (v := .int .i64 p) rfl rfl rfl (r_mul Hp.out.symm (by omega))) ?_ ?_
          rotate_left; (simp only [Act.put, List.setIfInBounds_toArray, List.set_cons_zero, List.set_cons_succ]; rfl)
          refine st_act rfl rfl fun K hK => a_call (args := #[.int .i64 p]) rfl rfl (fun w => by kernel_rfl) (of_any (p) _ (by omega) (by omega)) ?_
          rintro e w105 ⟨f105, A105, n105, c105, rfl, hc105, hm105⟩
          have hq1_5 := (show New _ _ from hq1_4).transNew hm105
          refine ⟨_, rfl, hK _ _ (hS _ hq1_5) ?_⟩
          simp only [Act.put, List.setIfInBounds_toArray, List.set_cons_zero, List.set_cons_succ]
          refine st_act rfl rfl fun K hK => a_call (args := #[.agg #[.bool f73, .slice A74 n75 c76], .agg #[.bool f105, .slice A105 n105 c105]]) rfl rfl (fun w => by kernel_rfl) (same_any _ _ (p) (p) _ (h105.new_ hq1_5) (hc105.big (by omega))) ?_
          rintro e w106 ⟨rfl, hm106⟩
          rw [decide_eq_true (rfl : (p) = p)]
          have hq1_6 := (show New _ _ from hq1_5).transNew hm106
          refine ⟨_, rfl, hK _ _ (hS _ hq1_6) ?_⟩
          simp only [Act.put, List.setIfInBounds_toArray, List.set_cons_zero, List.set_cons_succ]
          refine st_take (a' := ?_) rfl rfl (y_run (v := .bool false) fun w => by kernel_rfl) ?_ ?_
          rotate_left; (simp only [Act.put, List.setIfInBounds_toArray, List.set_cons_zero, List.set_cons_succ]; rfl)
          refine st_take (a' := ?_) rfl rfl (y_pick (b := false) (v := .bool false) rfl rfl rfl) ?_ ?_
          rotate_left; (simp only [Act.put, List.setIfInBounds_toArray, List.set_cons_zero, List.set_cons_succ]; rfl)
          refine st_take (a' := ?_) rfl rfl (y_move (v := .bool false) rfl rfl) ?_ ?_
          rotate_left; (simp only [Act.put, List.setIfInBounds_toArray, List.set_cons_zero, List.set_cons_succ]; rfl)
          refine st_take (a' := ?_) rfl rfl (y_load2 rfl rfl Try.isAgg24 Try.sizeOf24 (fun _ h => h.1)) ?_ ?_
          rotate_left; (simp only [Act.put, List.setIfInBounds_toArray, List.set_cons_zero, List.set_cons_succ]; rfl)
          refine st_take (a' := ?_) rfl rfl (y_move (v := .int .i64 m) rfl rfl) ?_ ?_
          rotate_left; (simp only [Act.put, List.setIfInBounds_toArray, List.set_cons_zero, List.set_cons_succ]; rfl)
          refine st_act rfl rfl fun K hK => a_call (args := #[.agg #[.bool f1, .slice A1 n1 c1]]) rfl rfl (fun w => by kernel_rfl) (text_any _ m _ (h97.new_ hq1_6)) ?_
          rintro e w107 ⟨rfl, hm107⟩
          have hq1_7 := (show New _ _ from hq1_6).transNew hm107
          refine ⟨_, rfl, hK _ _ (hS _ hq1_7) ?_⟩
          simp only [Act.put, List.setIfInBounds_toArray, List.set_cons_zero, List.set_cons_succ]
          refine st_act rfl rfl fun K hK => a_call (args := #[.int .i64 m]) rfl rfl (fun w => by kernel_rfl) (dec_any m _ (by omega) (by omega)) ?_
          rintro e w108 ⟨rfl, hm108⟩
          have hq1_8 := (show New _ _ from hq1_7).transNew hm108
          refine ⟨_, rfl, hK _ _ (hS _ hq1_8) ?_⟩
          simp only [Act.put, List.setIfInBounds_toArray, List.set_cons_zero, List.set_cons_succ]
          refine st_take (a' := ?_) rfl rfl (y_op (u := .string (strOfNums (textI m))) (v := .string (strOfNums (textI m))) (r := .bool false) rfl rfl rfl (fun _ => rfl) (r_neqs _)) ?_ ?_
          rotate_left; (simp only [Act.put, List.setIfInBounds_toArray, List.set_cons_zero, List.set_cons_succ]; rfl)
          refine st_take (a' := ?_) rfl rfl (y_pick (b := false) (v := .bool false) rfl rfl rfl) ?_ ?_
          rotate_left; (simp only [Act.put, List.setIfInBounds_toArray, List.set_cons_zero, List.set_cons_succ]; rfl)
          refine st_take (a' := ?_) rfl rfl (y_move (v := .bool false) rfl rfl) ?_ ?_
          rotate_left; (simp only [Act.put, List.setIfInBounds_toArray, List.set_cons_zero, List.set_cons_succ]; rfl)
          refine st_take (a' := ?_) rfl rfl (y_load2 rfl rfl Try.isAgg24 Try.sizeOf24 (fun _ h => h.1)) ?_ ?_
          rotate_left; (simp only [Act.put, List.setIfInBounds_toArray, List.set_cons_zero, List.set_cons_succ]; rfl)
          refine st_take (a' := ?_) rfl rfl (y_load2 rfl rfl Try.isAgg24 Try.sizeOf24 (fun _ h => h.2.1)) ?_ ?_
          rotate_left; (simp only [Act.put, List.setIfInBounds_toArray, List.set_cons_zero, List.set_cons_succ]; rfl)
          refine st_take (a' := ?_) rfl rfl (y_move (v := .int .i64 m) rfl rfl) ?_ ?_
          rotate_left; (simp only [Act.put, List.setIfInBounds_toArray, List.set_cons_zero, List.set_cons_succ]; rfl)
          refine st_take (a' := ?_) rfl rfl (y_move (v := .int .i64 n) rfl rfl) ?_ ?_
          rotate_left; (simp only [Act.put, List.setIfInBounds_toArray, List.set_cons_zero, List.set_cons_succ]; rfl)
          refine st_take (a' := ?_) rfl rfl (y_bin (k := .i64) (m := m) (n := n) (v := .bool (decide (m < n))) rfl rfl rfl (r_lss rfl)) ?_ ?_
          rotate_left; (simp only [Act.put, List.setIfInBounds_toArray, List.set_cons_zero, List.set_cons_succ]; rfl)
          refine st_act rfl rfl fun K hK => a_call (args := #[.agg #[.bool f1, .slice A1 n1 c1], .agg #[.bool f2, .slice A2 n2 c2]]) rfl rfl (fun w => by kernel_rfl) (cmpz_any _ _ m n _ (h97.new_ hq1_8) (h98.new_ hq1_8)) ?_
          rintro e w109 ⟨rfl, hm109⟩
          have hq1_9 := (show New _ _ from hq1_8).transNew hm109
          refine ⟨_, rfl, hK _ _ (hS _ hq1_9) ?_⟩
          simp only [Act.put, List.setIfInBounds_toArray, List.set_cons_zero, List.set_cons_succ]
          refine st_take (a' := ?_) rfl rfl (y_bin (k := .i64) (m := cmpZ m n) (n := 0) (v := .bool (decide (m < n))) rfl rfl rfl (r_lss (cmpZ_lt m n))) ?_ ?_
          rotate_left; (simp only [Act.put, List.setIfInBounds_toArray, List.set_cons_zero, List.set_cons_succ]; rfl)
          refine st_take (a' := ?_) rfl rfl (y_op (u := .bool (decide (m < n))) (v := .bool (decide (m < n))) (r := .bool false) rfl rfl rfl (fun _ => rfl) (r_neqb _)) ?_ ?_
          rotate_left; (simp only [Act.put, List.setIfInBounds_toArray, List.set_cons_zero, List.set_cons_succ]; rfl)
          refine st_take (a' := ?_) rfl rfl (y_pick (b := false) (v := .bool false) rfl rfl rfl) ?_ ?_
          rotate_left; (simp only [Act.put, List.setIfInBounds_toArray, List.set_cons_zero, List.set_cons_succ]; rfl)
          refine st_nil ?_
          have hd106 := (show New _ _ from hq1_9)
          clear hS hq1_1 hq1_2 hq1_3 hq1_4 hq1_5 hq1_6 hq1_7 hq1_8 hq1_9
          have h107 := h96.transNew hd106
          have h108 := h97.new_ hd106
          have h109 := h98.new_ hd106
          have h110 := h99.new_ hd106
          have h111 := h100.new_ hd106
          have h112 := h101.new_ hd106
          have h113 := h102.new_ hd106
          have h114 := h103.new_ hd106
          have h115 := h104.new_ hd106
          have h116 := h105.new_ hd106
          have h117 := hb94.new_ hd106
          clear h96 h97 h98 h99 h100 h101 h102 h103 h104 h105 hb94 hd106
          clear hm107 hm108 hm109 hm101 hm102 hm103 hm104 hm105 hm106 hc101 hc103 hc105
          clear h112
          clear h114
          clear h116
          clear h113
          clear h115
          clear h117
          clear hab Hp
          go_upto_region 11 with (fail)
          by_cases hn0 : n = 0
          · skip
            subst hn0
            have k123 : w109.cell? ⟨qa, 0, none⟩ = some (.bool f1) := h110.cell 0
            have k124 : w109.cell? ⟨qa, 1, none⟩ = some (.slice A1 n1 c1) := h110.cell 1
            have k125 : w109.cell? ⟨(qa + 1), 0, none⟩ = some (.bool f2) := h111.cell 0
            have k126 : w109.cell? ⟨(qa + 1), 1, none⟩ = some (.slice A2 n2 c2) := h111.cell 1
            go_wp2_with fail
            clear k123 k124 k125 k126
            refine (div_any _ _ m 0 _ h108 h109).mono ?_
            rintro e w127 ⟨f118, A119, n120, c121, rfl, hc122, hn⟩
            have h128 := h107.transNew hn
            have h129 := h108.new_ hn
            have h130 := h109.new_ hn
            have h131 := h110.new_ hn
            have h132 := h111.new_ hn
            clear h107 h108 h109 h110 h111 hn
            rw [show zeroE 0 = 4 from rfl]
            have hz133 : BigAt _ _ (divZ m 0) := hc122.big (Nat.lt_of_le_of_lt (divZ_abs m 0) (by omega))
            clear hc122
            go_upto_region 12 with (fail)
            obtain ⟨w134, hw⟩ : ∃ w', w' = w127.alloc (.cells #[.bool f118, .slice A119 n120 c121] 24) := ⟨_, rfl⟩
            have hn : New w127 w134 := by rw [hw]; exact (Upd.refl _ _).alloc _
            have hb135 : Blk w134 w127.heap.size 24 [.bool f118, .slice A119 n120 c121] := by rw [hw]; exact Blk.new w127 _ _
            rw [← hw]
            clear hw
            obtain ⟨q136, hq⟩ : ∃ q, q = w127.heap.size := ⟨_, rfl⟩
            rw [← hq] at hb135 ⊢
            clear hq
            have h137 := h128.transNew hn
            have h138 := h129.new_ hn
            have h139 := h130.new_ hn
            have h140 := h131.new_ hn
            have h141 := h132.new_ hn
            have h142 := hz133.new_ hn
            clear h128 h129 h130 h131 h132 hz133 hn
            have k148 : w134.cell? ⟨qa, 0, none⟩ = some (.bool f1) := h140.cell 0
            have k149 : w134.cell? ⟨qa, 1, none⟩ = some (.slice A1 n1 c1) := h140.cell 1
            have k150 : w134.cell? ⟨(qa + 1), 0, none⟩ = some (.bool f2) := h141.cell 0
            have k151 : w134.cell? ⟨(qa + 1), 1, none⟩ = some (.slice A2 n2 c2) := h141.cell 1
            go_wp2_with fail
            clear k148 k149 k150 k151
            refine (rem_any _ _ m 0 _ h138 h139).mono ?_
            rintro e w152 ⟨f143, A144, n145, c146, rfl, hc147, hn⟩
            have h153 := h137.transNew hn
            have h154 := h138.new_ hn
            have h155 := h139.new_ hn
            have h156 := h140.new_ hn
            have h157 := h141.new_ hn
            have h158 := h142.new_ hn
            have h159 := hb135.new_ hn
            clear h137 h138 h139 h140 h141 h142 hb135 hn
            rw [show zeroE 0 = 4 from rfl]
            have hz160 : BigAt _ _ (remZ m 0) := hc147.big (Nat.lt_of_le_of_lt (remZ_abs m 0) (by omega))
            clear hc147
            go_upto_region 13 with (fail)
            obtain ⟨w161, hw⟩ : ∃ w', w' = w152.alloc (.cells #[.bool f143, .slice A144 n145 c146] 24) := ⟨_, rfl⟩
            have hn : New w152 w161 := by rw [hw]; exact (Upd.refl _ _).alloc _
            have hb162 : Blk w161 w152.heap.size 24 [.bool f143, .slice A144 n145 c146] := by rw [hw]; exact Blk.new w152 _ _
            rw [← hw]
            clear hw
            obtain ⟨q163, hq⟩ : ∃ q, q = w152.heap.size := ⟨_, rfl⟩
            rw [← hq] at hb162 ⊢
            clear hq
            have h164 := h153.transNew hn
            have h165 := h154.new_ hn
            have h166 := h155.new_ hn
            have h167 := h156.new_ hn
            have h168 := h157.new_ hn
            have h169 := h158.new_ hn
            have h170 := h159.new_ hn
            have h171 := hz160.new_ hn
            clear h153 h154 h155 h156 h157 h158 h159 hz160 hn
            go_wp2_with fail
            refine (first_any _).mono ?_
            rintro e w172 ⟨rfl, hn⟩
            have h173 := h164.transNew hn
            have h174 := h165.new_ hn
            have h175 := h166.new_ hn
            have h176 := h167.new_ hn
            have h177 := h168.new_ hn
            have h178 := h169.new_ hn
            have h179 := h170.new_ hn
            have h180 := h171.new_ hn
            have h181 := hb162.new_ hn
            clear h164 h165 h166 h167 h168 h169 h170 h171 hb162 hn
            go_wp2
            go_ret
            exact ⟨rfl, h173⟩
          · skip
            have Hn0 := hide hn0
            have hne : (n == 0) = false := by simpa using hn0
            clear hn0
            have k187 : w109.cell? ⟨qa, 0, none⟩ = some (.bool f1) := h110.cell 0
            have k188 : w109.cell? ⟨qa, 1, none⟩ = some (.slice A1 n1 c1) := h110.cell 1
            have k189 : w109.cell? ⟨(qa + 1), 0, none⟩ = some (.bool f2) := h111.cell 0
            have k190 : w109.cell? ⟨(qa + 1), 1, none⟩ = some (.slice A2 n2 c2) := h111.cell 1
            go_wp2_with fail
            clear k187 k188 k189 k190
            refine (div_any _ _ m n _ h108 h109).mono ?_
            rintro e w191 ⟨f182, A183, n184, c185, rfl, hc186, hn⟩
            have h192 := h107.transNew hn
            have h193 := h108.new_ hn
            have h194 := h109.new_ hn
            have h195 := h110.new_ hn
            have h196 := h111.new_ hn
            clear h107 h108 h109 h110 h111 hn
            rw [zeroE_pos Hn0.out]
            have hz197 : BigAt _ _ (divZ m n) := hc186.big (Nat.lt_of_le_of_lt (divZ_abs m n) (by omega))
            clear hc186
            go_upto_region 12 with (fail)
            obtain ⟨w198, hw⟩ : ∃ w', w' = w191.alloc (.cells #[.bool f182, .slice A183 n184 c185] 24) := ⟨_, rfl⟩
            have hn : New w191 w198 := by rw [hw]; exact (Upd.refl _ _).alloc _
            have hb199 : Blk w198 w191.heap.size 24 [.bool f182, .slice A183 n184 c185] := by rw [hw]; exact Blk.new w191 _ _
            rw [← hw]
            clear hw
            obtain ⟨q200, hq⟩ : ∃ q, q = w191.heap.size := ⟨_, rfl⟩
            rw [← hq] at hb199 ⊢
            clear hq
            have h201 := h192.transNew hn
            have h202 := h193.new_ hn
            have h203 := h194.new_ hn
            have h204 := h195.new_ hn
            have h205 := h196.new_ hn
            have h206 := hz197.new_ hn
            clear h192 h193 h194 h195 h196 hz197 hn
            have k212 : w198.cell? ⟨qa, 0, none⟩ = some (.bool f1) := h204.cell 0
            have k213 : w198.cell? ⟨qa, 1, none⟩ = some (.slice A1 n1 c1) := h204.cell 1
            have k214 : w198.cell? ⟨(qa + 1), 0, none⟩ = some (.bool f2) := h205.cell 0
            have k215 : w198.cell? ⟨(qa + 1), 1, none⟩ = some (.slice A2 n2 c2) := h205.cell 1
            go_wp2_with fail
            clear k212 k213 k214 k215
            refine (rem_any _ _ m n _ h202 h203).mono ?_
            rintro e w216 ⟨f207, A208, n209, c210, rfl, hc211, hn⟩
            have h217 := h201.transNew hn
            have h218 := h202.new_ hn
            have h219 := h203.new_ hn
            have h220 := h204.new_ hn
            have h221 := h205.new_ hn
            have h222 := h206.new_ hn
            have h223 := hb199.new_ hn
            clear h201 h202 h203 h204 h205 h206 hb199 hn
            rw [zeroE_pos Hn0.out]
            have hz224 : BigAt _ _ (remZ m n) := hc211.big (Nat.lt_of_le_of_lt (remZ_abs m n) (by omega))
            clear hc211
            go_upto_region 13 with (fail)
            obtain ⟨w225, hw⟩ : ∃ w', w' = w216.alloc (.cells #[.bool f207, .slice A208 n209 c210] 24) := ⟨_, rfl⟩
            have hn : New w216 w225 := by rw [hw]; exact (Upd.refl _ _).alloc _
            have hb226 : Blk w225 w216.heap.size 24 [.bool f207, .slice A208 n209 c210] := by rw [hw]; exact Blk.new w216 _ _
            rw [← hw]
            clear hw
            obtain ⟨q227, hq⟩ : ∃ q, q = w216.heap.size := ⟨_, rfl⟩
            rw [← hq] at hb226 ⊢
            clear hq
            have h228 := h217.transNew hn
            have h229 := h218.new_ hn
            have h230 := h219.new_ hn
            have h231 := h220.new_ hn
            have h232 := h221.new_ hn
            have h233 := h222.new_ hn
            have h234 := h223.new_ hn
            have h235 := hz224.new_ hn
            clear h217 h218 h219 h220 h221 h222 h223 hz224 hn
            go_upto_region 15 with (fail)
            have hd1 := divZ_abs m n
            have hd2 := remZ_abs m n
            obtain ⟨x, hx⟩ : ∃ x, x = divZ m n := ⟨_, rfl⟩
            obtain ⟨y, hy⟩ : ∃ y, y = remZ m n := ⟨_, rfl⟩
            rw [← hx] at hd1 h233
            rw [← hy] at hd2 h235
            have hx2 : m.tdiv n = x := by rw [hx, divZ, if_neg Hn0.out]
            have hy2 : m.tmod n = y := by rw [hy, remZ, if_neg Hn0.out]
            clear hx hy
            have HX := hide hx2
            have HY := hide hy2
            clear hx2 hy2 hne
            have hS : ∀ w', New w225 w' → (Blk w' q200 24 [.bool f182, .slice A183 n184 c185] ∧ Blk w' q227 24 [.bool f207, .slice A208 n209 c210]) := fun w' hn => ⟨h234.new_ hn, hb226.new_ hn⟩
            refine wp_region_dm (fun w' => Blk w' q200 24 [.bool f182, .slice A183 n184 c185] ∧ Blk w' q227 24 [.bool f207, .slice A208 n209 c210]) [(0, false), (1, true), (2, true), (3, true), (4, true), (5, true), (6, true), (7, true), (8, true), (9, true), (10, true), (11, true), (12, true), (13, true), (14, false), (15, false), (16, true), (17, true), (18, true), (19, true), (20, true), (21, true), (22, false), (23, false), (24, true), (25, true)] (by kernel_rfl) (by kernel_rfl) (fun _ _ d _ _ h => by cases d <;> exact h) (hS _ (Upd.refl _ _).drew) ?_
            refine st_act rfl rfl fun K hK => a_call (args := #[]) rfl rfl (fun w => by kernel_rfl) (first_any _) ?_
            rintro e w110 ⟨rfl, hm110⟩
            have hq2_1 := (show New _ _ from (Upd.refl _ _).drew).transNew hm110
            refine ⟨_, rfl, hK _ _ (hS _ hq2_1) ?_⟩
            simp only [Act.put, List.setIfInBounds_toArray, List.set_cons_zero, List.set_cons_succ]
            refine st_take (a' := ?_) rfl rfl (y_move (v := .bool true) rfl rfl) ?_ ?_
            rotate_left; (simp only [Act.put, List.setIfInBounds_toArray, List.set_cons_zero, List.set_cons_succ]; rfl)
            refine st_take (a' := ?_) rfl rfl (y_move (v := .int .i64 0) rfl rfl) ?_ ?_
            rotate_left; (simp only [Act.put, List.setIfInBounds_toArray, List.set_cons_zero, List.set_cons_succ]; rfl)
            refine st_take (a' := ?_) rfl rfl (y_run (v := .bool true) fun w => by kernel_rfl) ?_ ?_
            rotate_left; (simp only [Act.put, List.setIfInBounds_toArray, List.set_cons_zero, List.set_cons_succ]; rfl)
            refine st_take (a' := ?_) rfl rfl (y_pick (b := true) (v := .bool true) rfl rfl rfl) ?_ ?_
            rotate_left; (simp only [Act.put, List.setIfInBounds_toArray, List.set_cons_zero, List.set_cons_succ]; rfl)
            refine st_take (a' := ?_) rfl rfl (y_move (v := .bool true) rfl rfl) ?_ ?_
            rotate_left; (simp only [Act.put, List.setIfInBounds_toArray, List.set_cons_zero, List.set_cons_succ]; rfl)
            refine st_take (a' := ?_) rfl rfl (y_move (v := .int .i64 0) rfl rfl) ?_ ?_
            rotate_left; (simp only [Act.put, List.setIfInBounds_toArray, List.set_cons_zero, List.set_cons_succ]; rfl)
            refine st_take (a' := ?_) rfl rfl (y_run (v := .bool true) fun w => by kernel_rfl) ?_ ?_
            rotate_left; (simp only [Act.put, List.setIfInBounds_toArray, List.set_cons_zero, List.set_cons_succ]; rfl)
            refine st_take (a' := ?_) rfl rfl (y_pick (b := true) (v := .bool true) rfl rfl rfl) ?_ ?_
            rotate_left; (simp only [Act.put, List.setIfInBounds_toArray, List.set_cons_zero, List.set_cons_succ]; rfl)
            refine st_take (a' := ?_) rfl rfl (y_move (v := .bool true) rfl rfl) ?_ ?_
            rotate_left; (simp only [Act.put, List.setIfInBounds_toArray, List.set_cons_zero, List.set_cons_succ]; rfl)
            refine st_take (a' := ?_) rfl rfl (y_load2 rfl rfl Try.isAgg24 Try.sizeOf24 (fun _ h => h.1)) ?_ ?_
            rotate_left; (simp only [Act.put, List.setIfInBounds_toArray, List.set_cons_zero, List.set_cons_succ]; rfl)
            refine st_take (a' := ?_) rfl rfl (y_move (v := .int .i64 m) rfl rfl) ?_ ?_
            rotate_left; (simp only [Act.put, List.setIfInBounds_toArray, List.set_cons_zero, List.set_cons_succ]; rfl)
            refine st_take (a' := ?_) rfl rfl (y_move (v := .int .i64 n) rfl rfl) ?_ ?_
            rotate_left; (simp only [Act.put, List.setIfInBounds_toArray, List.set_cons_zero, List.set_cons_succ]; rfl)
            refine st_take (a' := ?_) rfl rfl (y_bin (k := .i64) (m := m) (n := n) (v := .int .i64 x) rfl rfl rfl (r_quo HX.out Hn0.out (by omega))) ?_ ?_
            rotate_left; (simp only [Act.put, List.setIfInBounds_toArray, List.set_cons_zero, List.set_cons_succ]; rfl)
            refine st_act rfl rfl fun K hK => a_call (args := #[.int .i64 x]) rfl rfl (fun w => by kernel_rfl) (of_any (x) _ (by omega) (by omega)) ?_
            rintro e w111 ⟨f111, A111, n111, c111, rfl, hc111, hm111⟩
            have hq2_2 := (show New _ _ from hq2_1).transNew hm111
            refine ⟨_, rfl, hK _ _ (hS _ hq2_2) ?_⟩
            simp only [Act.put, List.setIfInBounds_toArray, List.set_cons_zero, List.set_cons_succ]
            refine st_act rfl rfl fun K hK => a_call (args := #[.agg #[.bool f182, .slice A183 n184 c185], .agg #[.bool f111, .slice A111 n111 c111]]) rfl rfl (fun w => by kernel_rfl) (same_any _ _ (x) (x) _ (h233.new_ hq2_2) (hc111.big (by omega))) ?_
            rintro e w112 ⟨rfl, hm112⟩
            rw [decide_eq_true (rfl : (x) = x)]
            have hq2_3 := (show New _ _ from hq2_2).transNew hm112
            refine ⟨_, rfl, hK _ _ (hS _ hq2_3) ?_⟩
            simp only [Act.put, List.setIfInBounds_toArray, List.set_cons_zero, List.set_cons_succ]
            refine st_take (a' := ?_) rfl rfl (y_pick (b := true) (v := .bool true) rfl rfl rfl) ?_ ?_
            rotate_left; (simp only [Act.put, List.setIfInBounds_toArray, List.set_cons_zero, List.set_cons_succ]; rfl)
            refine st_take (a' := ?_) rfl rfl (y_move (v := .bool true) rfl rfl) ?_ ?_
            rotate_left; (simp only [Act.put, List.setIfInBounds_toArray, List.set_cons_zero, List.set_cons_succ]; rfl)
            refine st_take (a' := ?_) rfl rfl (y_load2 rfl rfl Try.isAgg24 Try.sizeOf24 (fun _ h => h.2)) ?_ ?_
            rotate_left; (simp only [Act.put, List.setIfInBounds_toArray, List.set_cons_zero, List.set_cons_succ]; rfl)
            refine st_take (a' := ?_) rfl rfl (y_move (v := .int .i64 m) rfl rfl) ?_ ?_
            rotate_left; (simp only [Act.put, List.setIfInBounds_toArray, List.set_cons_zero, List.set_cons_succ]; rfl)
            refine st_take (a' := ?_) rfl rfl (y_move (v := .int .i64 n) rfl rfl) ?_ ?_
            rotate_left; (simp only [Act.put, List.setIfInBounds_toArray, List.set_cons_zero, List.set_cons_succ]; rfl)
            refine st_take (a' := ?_) rfl rfl (y_bin (k := .i64) (m := m) (n := n) (v := .int .i64 y) rfl rfl rfl (r_rem HY.out Hn0.out (by omega))) ?_ ?_
            rotate_left; (simp only [Act.put, List.setIfInBounds_toArray, List.set_cons_zero, List.set_cons_succ]; rfl)
            refine st_act rfl rfl fun K hK => a_call (args := #[.int .i64 y]) rfl rfl (fun w => by kernel_rfl) (of_any (y) _ (by omega) (by omega)) ?_
            rintro e w113 ⟨f113, A113, n113, c113, rfl, hc113, hm113⟩
            have hq2_4 := (show New _ _ from hq2_3).transNew hm113
            refine ⟨_, rfl, hK _ _ (hS _ hq2_4) ?_⟩
            simp only [Act.put, List.setIfInBounds_toArray, List.set_cons_zero, List.set_cons_succ]
            refine st_act rfl rfl fun K hK => a_call (args := #[.agg #[.bool f207, .slice A208 n209 c210], .agg #[.bool f113, .slice A113 n113 c113]]) rfl rfl (fun w => by kernel_rfl) (same_any _ _ (y) (y) _ (h235.new_ hq2_4) (hc113.big (by omega))) ?_
            rintro e w114 ⟨rfl, hm114⟩
            rw [decide_eq_true (rfl : (y) = y)]
            have hq2_5 := (show New _ _ from hq2_4).transNew hm114
            refine ⟨_, rfl, hK _ _ (hS _ hq2_5) ?_⟩
            simp only [Act.put, List.setIfInBounds_toArray, List.set_cons_zero, List.set_cons_succ]
            refine st_take (a' := ?_) rfl rfl (y_pick (b := true) (v := .bool true) rfl rfl rfl) ?_ ?_
            rotate_left; (simp only [Act.put, List.setIfInBounds_toArray, List.set_cons_zero, List.set_cons_succ]; rfl)
            refine st_take (a' := ?_) rfl rfl (y_assign (v := .bool true) rfl rfl) ?_ ?_
            rotate_left; (simp only [Act.put, List.setIfInBounds_toArray, List.set_cons_zero, List.set_cons_succ]; rfl)
            refine st_nil ?_
            have hd236 := (show New _ _ from hq2_5)
            clear hS hq2_1 hq2_2 hq2_3 hq2_4 hq2_5
            have h237 := h228.transNew hd236
            have h238 := h229.new_ hd236
            have h239 := h230.new_ hd236
            have h240 := h231.new_ hd236
            have h241 := h232.new_ hd236
            have h242 := h233.new_ hd236
            have h243 := h234.new_ hd236
            have h244 := h235.new_ hd236
            have h245 := hb226.new_ hd236
            clear h228 h229 h230 h231 h232 h233 h234 h235 hb226 hd236
            go_wp2
            go_ret
            exact ⟨rfl, h237⟩
end Go.Proofs.Ytfhflpchfgkgcaa
