/- The law BigWords: the walk. -/
import Derived.Test.YtfhflpchfgkgcaaBigX
namespace Go.Proofs.Ytfhflpchfgkgcaa
open Go.RowKit
theorem wordN_cast (z : Int) : ((wordN z : Nat) : Int) = z % 18446744073709551616 := by
  have h := (asU_bd 64 z).1
  have e : asU 64 z = z % 18446744073709551616 := by
    have := asU_nat (n := 64) (by omega) z
    rw [show ((64 : Nat) : Int) = 64 by rfl] at this
    rw [this, show (2 : Int) ^ 64 = 18446744073709551616 by decide]
  unfold wordN
  rw [e] at h ⊢
  omega
theorem word_add (a b : Int) : IntKind.u64.wrap ((wordN a : Int) + (wordN b : Int)) = (wordN (a + b) : Int) := by
  rw [IntKind.wrap_u64, wordN_cast, wordN_cast, wordN_cast]; omega
theorem word_sub (a b : Int) : IntKind.u64.wrap ((wordN a : Int) - (wordN b : Int)) = (wordN (a - b) : Int) := by
  rw [IntKind.wrap_u64, wordN_cast, wordN_cast, wordN_cast]; omega
theorem word_neg (a : Int) : IntKind.u64.wrap (-(wordN a : Int)) = (wordN (-a) : Int) := by
  rw [IntKind.wrap_u64, wordN_cast, wordN_cast]; omega
theorem word_mul (a b : Int) : IntKind.u64.wrap ((wordN a : Int) * (wordN b : Int)) = (wordN (a * b) : Int) := by
  rw [IntKind.wrap_u64, wordN_cast, wordN_cast, wordN_cast, ← Int.mul_emod]
set_option maxHeartbeats 12800000 in
set_option maxRecDepth 100000 in
theorem words_walk (x z : Value) (a b : Int) (w : World) (hx : BigAt w x a) (hz : BigAt w z b) : Calls Try.prog 8 #[x, z] w (IsBool true w) := by
  obtain ⟨bx, vx, mx, rfl, rx, lx, gx⟩ := hx
  obtain ⟨Ax, cx, rfl⟩ := rx.form
  obtain ⟨bz, vz, mz, rfl, rz, lz, gz⟩ := hz
  obtain ⟨Az, cz, rfl⟩ := rz.form
  obtain ⟨w1, hw1, hN, hbx, hbz, -⟩ := two_boxes w 24 (.bool bx) (.slice Ax mx.length cx) (.bool bz) (.slice Az mz.length cz)
  have hzx : BigAt w1 (.agg #[.bool bx, .slice Ax mx.length cx]) a := ⟨_, _, _, rfl, rx.new_ hN, lx, gx⟩
  have hrx := rx.new_ hN
  clear rx lx gx
  have hzz : BigAt w1 (.agg #[.bool bz, .slice Az mz.length cz]) b := ⟨_, _, _, rfl, rz.new_ hN, lz, gz⟩
  have hrz := rz.new_ hN
  clear rz lz gz
  have Hw1 := hide hw1
  clear hw1
  go_enter Try.func8, Try.ntmps8
  go_wp2_with fail
  rw [← Hw1.out]
  obtain ⟨qx, hqx⟩ : ∃ q, q = w.heap.size := ⟨_, rfl⟩
  obtain ⟨qz, hqz⟩ : ∃ q, q = w.heap.size + 1 := ⟨_, rfl⟩
  rw [← hqz] at hbz ⊢
  rw [← hqx] at hbx ⊢
  clear hqx hqz
  refine (first_any _).mono ?_
  rintro e w1 ⟨rfl, hn⟩
  have h2 := hzx.new_ hn
  have h3 := hrx.new_ hn
  have h4 := hbx.new_ hn
  have h5 := hzz.new_ hn
  have h6 := hrz.new_ hn
  have h7 := hbz.new_ hn
  have h8 := hN.transNew hn
  clear hzx hrx hbx hzz hrz hbz hN hn
  have k9 : w1.cell? ⟨qx, 0, none⟩ = some (.bool bx) := h4.cell 0
  have k10 : w1.cell? ⟨qx, 1, none⟩ = some (.slice Ax mx.length cx) := h4.cell 1
  go_wp2_with fail
  clear k9 k10
  refine (few_any _ _ mx _ h3).mono ?_
  rintro e w11 ⟨rfl, hn⟩
  have h12 := h2.new_ hn
  have h13 := h3.new_ hn
  have h14 := h4.new_ hn
  have h15 := h5.new_ hn
  have h16 := h6.new_ hn
  have h17 := h7.new_ hn
  have h18 := h8.transNew hn
  clear h2 h3 h4 h5 h6 h7 h8 hn
  obtain ⟨d, hd⟩ : ∃ d, d = decide (mx.length ≤ 40) := ⟨_, rfl⟩
  rw [← hd]
  clear hd
  cases d
  · skip
    go_wp2_with fail
    refine (first_any _).mono ?_
    rintro e w19 ⟨rfl, hn⟩
    have h20 := h12.new_ hn
    have h21 := h13.new_ hn
    have h22 := h14.new_ hn
    have h23 := h15.new_ hn
    have h24 := h16.new_ hn
    have h25 := h17.new_ hn
    have h26 := h18.transNew hn
    clear h12 h13 h14 h15 h16 h17 h18 hn
    go_wp2
    go_ret
    exact ⟨rfl, h26⟩
  have k27 : w11.cell? ⟨qz, 0, none⟩ = some (.bool bz) := h17.cell 0
  have k28 : w11.cell? ⟨qz, 1, none⟩ = some (.slice Az mz.length cz) := h17.cell 1
  go_wp2_with fail
  clear k27 k28
  refine (few_any _ _ mz _ h16).mono ?_
  rintro e w29 ⟨rfl, hn⟩
  have h30 := h12.new_ hn
  have h31 := h13.new_ hn
  have h32 := h14.new_ hn
  have h33 := h15.new_ hn
  have h34 := h16.new_ hn
  have h35 := h17.new_ hn
  have h36 := h18.transNew hn
  clear h12 h13 h14 h15 h16 h17 h18 hn
  obtain ⟨d, hd⟩ : ∃ d, d = decide (mz.length ≤ 40) := ⟨_, rfl⟩
  rw [← hd]
  clear hd
  cases d
  · skip
    go_wp2_with fail
    refine (first_any _).mono ?_
    rintro e w37 ⟨rfl, hn⟩
    have h38 := h30.new_ hn
    have h39 := h31.new_ hn
    have h40 := h32.new_ hn
    have h41 := h33.new_ hn
    have h42 := h34.new_ hn
    have h43 := h35.new_ hn
    have h44 := h36.transNew hn
    clear h30 h31 h32 h33 h34 h35 h36 hn
    go_wp2
    go_ret
    exact ⟨rfl, h44⟩
  go_wp2_with fail
  have hS : ∀ w', New w29 w' → (Blk w' qx 24 [.bool bx, .slice Ax mx.length cx] ∧ Blk w' qz 24 [.bool bz, .slice Az mz.length cz]) := fun w' hn => ⟨h32.new_ hn, h35.new_ hn⟩
  refine wp_region_dm (fun w' => Blk w' qx 24 [.bool bx, .slice Ax mx.length cx] ∧ Blk w' qz 24 [.bool bz, .slice Az mz.length cz]) [(0, true), (2, true), (1, false), (3, false), (4, true), (5, true)] (by kernel_rfl) (by kernel_rfl) (fun _ _ d _ _ h => by cases d <;> exact h) (hS _ (Upd.refl _ _).drew) ?_
  refine st_take (a' := ?_) rfl rfl (y_load2 rfl rfl Try.isAgg24 Try.sizeOf24 (fun _ h => h.1)) ?_ ?_
  rotate_left; (simp only [Act.put, List.setIfInBounds_toArray, List.set_cons_zero, List.set_cons_succ]; rfl)
  refine st_take (a' := ?_) rfl rfl (y_load2 rfl rfl Try.isAgg24 Try.sizeOf24 (fun _ h => h.2)) ?_ ?_
  rotate_left; (simp only [Act.put, List.setIfInBounds_toArray, List.set_cons_zero, List.set_cons_succ]; rfl)
  refine st_act rfl rfl fun K hK => a_call (args := #[.agg #[.bool bx, .slice Ax mx.length cx]]) rfl rfl (fun w => by kernel_rfl) (word_any _ a _ (h30.new_ (Upd.refl _ _).drew)) ?_
  rintro e w50 ⟨rfl, hm1⟩
  have hq1_1 := (show New _ _ from (Upd.refl _ _).drew).transNew hm1
  refine ⟨_, rfl, hK _ _ (hS _ hq1_1) ?_⟩
  simp only [Act.put, List.setIfInBounds_toArray, List.set_cons_zero, List.set_cons_succ]
  refine st_act rfl rfl fun K hK => a_call (args := #[.agg #[.bool bz, .slice Az mz.length cz]]) rfl rfl (fun w => by kernel_rfl) (word_any _ b _ (h33.new_ hq1_1)) ?_
  rintro e w51 ⟨rfl, hm2⟩
  have hq1_2 := (show New _ _ from hq1_1).transNew hm2
  refine ⟨_, rfl, hK _ _ (hS _ hq1_2) ?_⟩
  simp only [Act.put, List.setIfInBounds_toArray, List.set_cons_zero, List.set_cons_succ]
  refine st_take (a' := ?_) rfl rfl (y_assign (v := .int .u64 ((wordN a : Nat) : Int)) rfl rfl) ?_ ?_
  rotate_left; (simp only [Act.put, List.setIfInBounds_toArray, List.set_cons_zero, List.set_cons_succ]; rfl)
  refine st_take (a' := ?_) rfl rfl (y_assign (v := .int .u64 ((wordN b : Nat) : Int)) rfl rfl) ?_ ?_
  rotate_left; (simp only [Act.put, List.setIfInBounds_toArray, List.set_cons_zero, List.set_cons_succ]; rfl)
  refine st_nil ?_
  have hd45 := (show New _ _ from hq1_2)
  clear hS hq1_1 hq1_2
  have h46 := h30.new_ hd45
  have h47 := h31.new_ hd45
  have h48 := h32.new_ hd45
  have h49 := h33.new_ hd45
  have h50 := h34.new_ hd45
  have h51 := h35.new_ hd45
  have h52 := h36.transNew hd45
  clear h30 h31 h32 h33 h34 h35 h36 hd45
  clear hm1 hm2
  have E1 := word_add a b
  have E2 := word_sub a b
  have E3 := word_mul a b
  have E4 := word_neg a
  obtain ⟨ua, hua⟩ : ∃ u, u = wordN a := ⟨_, rfl⟩
  obtain ⟨ub, hub⟩ : ∃ u, u = wordN b := ⟨_, rfl⟩
  obtain ⟨us, hus⟩ : ∃ u, u = wordN (a + b) := ⟨_, rfl⟩
  obtain ⟨ud, hud⟩ : ∃ u, u = wordN (a - b) := ⟨_, rfl⟩
  obtain ⟨up, hup⟩ : ∃ u, u = wordN (a * b) := ⟨_, rfl⟩
  obtain ⟨un, hun⟩ : ∃ u, u = wordN (-a) := ⟨_, rfl⟩
  rw [← hua, ← hub]
  rw [← hua, ← hub, ← hus] at E1
  rw [← hua, ← hub, ← hud] at E2
  rw [← hua, ← hub, ← hup] at E3
  rw [← hua, ← hun] at E4
  have HU := hide (And.intro hus (And.intro hud (And.intro hup hun)))
  clear hua hub hus hud hup hun
  have H1 := hide E1
  have H2 := hide E2
  have H3 := hide E3
  have H4 := hide E4
  clear E1 E2 E3 E4
  have k58 : w51.cell? ⟨qx, 0, none⟩ = some (.bool bx) := h48.cell 0
  have k59 : w51.cell? ⟨qx, 1, none⟩ = some (.slice Ax mx.length cx) := h48.cell 1
  have k60 : w51.cell? ⟨qz, 0, none⟩ = some (.bool bz) := h51.cell 0
  have k61 : w51.cell? ⟨qz, 1, none⟩ = some (.slice Az mz.length cz) := h51.cell 1
  go_wp2_with fail
  clear k58 k59 k60 k61
  refine (add_any _ _ a b _ h46 h49).mono ?_
  rintro e w62 ⟨f53, A54, n55, c56, rfl, hc57, hn⟩
  have h63 := h46.new_ hn
  have h64 := h47.new_ hn
  have h65 := h48.new_ hn
  have h66 := h49.new_ hn
  have h67 := h50.new_ hn
  have h68 := h51.new_ hn
  have h69 := h52.transNew hn
  clear h46 h47 h48 h49 h50 h51 h52 hn
  obtain ⟨e1, hk⟩ : ∃ o, o = okI (a + b) := ⟨_, rfl⟩
  rw [← hk]
  have He1 := hide hk
  clear hk
  have hz70 := hc57.big (capI_lt _)
  clear hc57
  go_upto_region 7 with (fail)
  obtain ⟨w71, hw⟩ : ∃ w', w' = w62.alloc (.cells #[.bool f53, .slice A54 n55 c56] 24) := ⟨_, rfl⟩
  have hn : New w62 w71 := by rw [hw]; exact (Upd.refl _ _).alloc _
  have hb72 : Blk w71 w62.heap.size 24 [.bool f53, .slice A54 n55 c56] := by rw [hw]; exact Blk.new w62 _ _
  rw [← hw]
  clear hw
  obtain ⟨q73, hq⟩ : ∃ q, q = w62.heap.size := ⟨_, rfl⟩
  rw [← hq] at hb72 ⊢
  clear hq
  have h74 := h63.new_ hn
  have h75 := h64.new_ hn
  have h76 := h65.new_ hn
  have h77 := h66.new_ hn
  have h78 := h67.new_ hn
  have h79 := h68.new_ hn
  have h80 := h69.transNew hn
  have h81 := hz70.new_ hn
  clear h63 h64 h65 h66 h67 h68 h69 hz70 hn
  have k87 : w71.cell? ⟨qx, 0, none⟩ = some (.bool bx) := h76.cell 0
  have k88 : w71.cell? ⟨qx, 1, none⟩ = some (.slice Ax mx.length cx) := h76.cell 1
  have k89 : w71.cell? ⟨qz, 0, none⟩ = some (.bool bz) := h79.cell 0
  have k90 : w71.cell? ⟨qz, 1, none⟩ = some (.slice Az mz.length cz) := h79.cell 1
  go_wp2_with fail
  clear k87 k88 k89 k90
  refine (sub_any _ _ a b _ h74 h77).mono ?_
  rintro e w91 ⟨f82, A83, n84, c85, rfl, hc86, hn⟩
  have h92 := h74.new_ hn
  have h93 := h75.new_ hn
  have h94 := h76.new_ hn
  have h95 := h77.new_ hn
  have h96 := h78.new_ hn
  have h97 := h79.new_ hn
  have h98 := h80.transNew hn
  have h99 := h81.new_ hn
  have h100 := hb72.new_ hn
  clear h74 h75 h76 h77 h78 h79 h80 h81 hb72 hn
  obtain ⟨e2, hk⟩ : ∃ o, o = okI (a - b) := ⟨_, rfl⟩
  rw [← hk]
  have He2 := hide hk
  clear hk
  have hz101 := hc86.big (capI_lt _)
  clear hc86
  go_upto_region 8 with (fail)
  obtain ⟨w102, hw⟩ : ∃ w', w' = w91.alloc (.cells #[.bool f82, .slice A83 n84 c85] 24) := ⟨_, rfl⟩
  have hn : New w91 w102 := by rw [hw]; exact (Upd.refl _ _).alloc _
  have hb103 : Blk w102 w91.heap.size 24 [.bool f82, .slice A83 n84 c85] := by rw [hw]; exact Blk.new w91 _ _
  rw [← hw]
  clear hw
  obtain ⟨q104, hq⟩ : ∃ q, q = w91.heap.size := ⟨_, rfl⟩
  rw [← hq] at hb103 ⊢
  clear hq
  have h105 := h92.new_ hn
  have h106 := h93.new_ hn
  have h107 := h94.new_ hn
  have h108 := h95.new_ hn
  have h109 := h96.new_ hn
  have h110 := h97.new_ hn
  have h111 := h98.transNew hn
  have h112 := h99.new_ hn
  have h113 := h100.new_ hn
  have h114 := hz101.new_ hn
  clear h92 h93 h94 h95 h96 h97 h98 h99 h100 hz101 hn
  have k120 : w102.cell? ⟨qx, 0, none⟩ = some (.bool bx) := h107.cell 0
  have k121 : w102.cell? ⟨qx, 1, none⟩ = some (.slice Ax mx.length cx) := h107.cell 1
  have k122 : w102.cell? ⟨qz, 0, none⟩ = some (.bool bz) := h110.cell 0
  have k123 : w102.cell? ⟨qz, 1, none⟩ = some (.slice Az mz.length cz) := h110.cell 1
  go_wp2_with fail
  clear k120 k121 k122 k123
  refine (mul_any _ _ a b _ h105 h108).mono ?_
  rintro e w124 ⟨f115, A116, n117, c118, rfl, hc119, hn⟩
  have h125 := h105.new_ hn
  have h126 := h106.new_ hn
  have h127 := h107.new_ hn
  have h128 := h108.new_ hn
  have h129 := h109.new_ hn
  have h130 := h110.new_ hn
  have h131 := h111.transNew hn
  have h132 := h112.new_ hn
  have h133 := h113.new_ hn
  have h134 := h114.new_ hn
  have h135 := hb103.new_ hn
  clear h105 h106 h107 h108 h109 h110 h111 h112 h113 h114 hb103 hn
  obtain ⟨e3, hk⟩ : ∃ o, o = okI (a * b) := ⟨_, rfl⟩
  rw [← hk]
  have He3 := hide hk
  clear hk
  have hz136 := hc119.big (capI_lt _)
  clear hc119
  go_upto_region 9 with (fail)
  obtain ⟨w137, hw⟩ : ∃ w', w' = w124.alloc (.cells #[.bool f115, .slice A116 n117 c118] 24) := ⟨_, rfl⟩
  have hn : New w124 w137 := by rw [hw]; exact (Upd.refl _ _).alloc _
  have hb138 : Blk w137 w124.heap.size 24 [.bool f115, .slice A116 n117 c118] := by rw [hw]; exact Blk.new w124 _ _
  rw [← hw]
  clear hw
  obtain ⟨q139, hq⟩ : ∃ q, q = w124.heap.size := ⟨_, rfl⟩
  rw [← hq] at hb138 ⊢
  clear hq
  have h140 := h125.new_ hn
  have h141 := h126.new_ hn
  have h142 := h127.new_ hn
  have h143 := h128.new_ hn
  have h144 := h129.new_ hn
  have h145 := h130.new_ hn
  have h146 := h131.transNew hn
  have h147 := h132.new_ hn
  have h148 := h133.new_ hn
  have h149 := h134.new_ hn
  have h150 := h135.new_ hn
  have h151 := hz136.new_ hn
  clear h125 h126 h127 h128 h129 h130 h131 h132 h133 h134 h135 hz136 hn
  go_wp2_with fail
  refine (first_any _).mono ?_
  rintro e w152 ⟨rfl, hn⟩
  have h153 := h140.new_ hn
  have h154 := h141.new_ hn
  have h155 := h142.new_ hn
  have h156 := h143.new_ hn
  have h157 := h144.new_ hn
  have h158 := h145.new_ hn
  have h159 := h146.transNew hn
  have h160 := h147.new_ hn
  have h161 := h148.new_ hn
  have h162 := h149.new_ hn
  have h163 := h150.new_ hn
  have h164 := h151.new_ hn
  have h165 := hb138.new_ hn
  clear h140 h141 h142 h143 h144 h145 h146 h147 h148 h149 h150 h151 hb138 hn
  cases e1
  · skip
    cases e2
    · skip
      cases e3
      · skip
        have k171 : w152.cell? ⟨qx, 0, none⟩ = some (.bool bx) := h155.cell 0
        have k172 : w152.cell? ⟨qx, 1, none⟩ = some (.slice Ax mx.length cx) := h155.cell 1
        go_wp2_with fail
        clear k171 k172
        refine (negz_any _ a _ h153).mono ?_
        rintro e w173 ⟨f166, A167, n168, c169, rfl, hc170, hn⟩
        have h174 := h153.new_ hn
        have h175 := h154.new_ hn
        have h176 := h155.new_ hn
        have h177 := h156.new_ hn
        have h178 := h157.new_ hn
        have h179 := h158.new_ hn
        have h180 := h159.transNew hn
        have h181 := h160.new_ hn
        have h182 := h161.new_ hn
        have h183 := h162.new_ hn
        have h184 := h163.new_ hn
        have h185 := h164.new_ hn
        have h186 := h165.new_ hn
        clear h153 h154 h155 h156 h157 h158 h159 h160 h161 h162 h163 h164 h165 hn
        have hz187 := hc170.big (by rw [Int.natAbs_neg]; exact h174.lt)
        clear hc170
        go_wp2_with fail
        refine (word_any _ (-a) _ hz187).mono ?_
        rintro e w188 ⟨rfl, hn⟩
        have h189 := h174.new_ hn
        have h190 := h175.new_ hn
        have h191 := h176.new_ hn
        have h192 := h177.new_ hn
        have h193 := h178.new_ hn
        have h194 := h179.new_ hn
        have h195 := h180.transNew hn
        have h196 := h181.new_ hn
        have h197 := h182.new_ hn
        have h198 := h183.new_ hn
        have h199 := h184.new_ hn
        have h200 := h185.new_ hn
        have h201 := h186.new_ hn
        clear h174 h175 h176 h177 h178 h179 h180 h181 h182 h183 h184 h185 h186 hn
        clear hz187
        rw [← HU.out.2.2.2]
        have E4 := H4.out
        go_wp2
        go_ret
        exact ⟨rfl, h195⟩
      · skip
        have k202 : w152.cell? ⟨q139, 0, none⟩ = some (.bool f115) := h165.cell 0
        have k203 : w152.cell? ⟨q139, 1, none⟩ = some (.slice A116 n117 c118) := h165.cell 1
        go_wp2_with fail
        clear k202 k203
        refine (word_any _ (capI (a * b)) _ h164).mono ?_
        rintro e w204 ⟨rfl, hn⟩
        have h205 := h153.new_ hn
        have h206 := h154.new_ hn
        have h207 := h155.new_ hn
        have h208 := h156.new_ hn
        have h209 := h157.new_ hn
        have h210 := h158.new_ hn
        have h211 := h159.transNew hn
        have h212 := h160.new_ hn
        have h213 := h161.new_ hn
        have h214 := h162.new_ hn
        have h215 := h163.new_ hn
        have h216 := h164.new_ hn
        have h217 := h165.new_ hn
        clear h153 h154 h155 h156 h157 h158 h159 h160 h161 h162 h163 h164 h165 hn
        rw [capI_ok He3.out, ← HU.out.2.2.1]
        have E := H3.out
        skip
        have k223 : w204.cell? ⟨qx, 0, none⟩ = some (.bool bx) := h207.cell 0
        have k224 : w204.cell? ⟨qx, 1, none⟩ = some (.slice Ax mx.length cx) := h207.cell 1
        go_wp2_with fail
        clear k223 k224
        refine (negz_any _ a _ h205).mono ?_
        rintro e w225 ⟨f218, A219, n220, c221, rfl, hc222, hn⟩
        have h226 := h205.new_ hn
        have h227 := h206.new_ hn
        have h228 := h207.new_ hn
        have h229 := h208.new_ hn
        have h230 := h209.new_ hn
        have h231 := h210.new_ hn
        have h232 := h211.transNew hn
        have h233 := h212.new_ hn
        have h234 := h213.new_ hn
        have h235 := h214.new_ hn
        have h236 := h215.new_ hn
        have h237 := h216.new_ hn
        have h238 := h217.new_ hn
        clear h205 h206 h207 h208 h209 h210 h211 h212 h213 h214 h215 h216 h217 hn
        have hz239 := hc222.big (by rw [Int.natAbs_neg]; exact h226.lt)
        clear hc222
        go_wp2_with fail
        refine (word_any _ (-a) _ hz239).mono ?_
        rintro e w240 ⟨rfl, hn⟩
        have h241 := h226.new_ hn
        have h242 := h227.new_ hn
        have h243 := h228.new_ hn
        have h244 := h229.new_ hn
        have h245 := h230.new_ hn
        have h246 := h231.new_ hn
        have h247 := h232.transNew hn
        have h248 := h233.new_ hn
        have h249 := h234.new_ hn
        have h250 := h235.new_ hn
        have h251 := h236.new_ hn
        have h252 := h237.new_ hn
        have h253 := h238.new_ hn
        clear h226 h227 h228 h229 h230 h231 h232 h233 h234 h235 h236 h237 h238 hn
        clear hz239
        rw [← HU.out.2.2.2]
        have E4 := H4.out
        go_wp2
        go_ret
        exact ⟨rfl, h247⟩
    · skip
      have k254 : w152.cell? ⟨q104, 0, none⟩ = some (.bool f82) := h163.cell 0
      have k255 : w152.cell? ⟨q104, 1, none⟩ = some (.slice A83 n84 c85) := h163.cell 1
      go_wp2_with fail
      clear k254 k255
      refine (word_any _ (capI (a - b)) _ h162).mono ?_
      rintro e w256 ⟨rfl, hn⟩
      have h257 := h153.new_ hn
      have h258 := h154.new_ hn
      have h259 := h155.new_ hn
      have h260 := h156.new_ hn
      have h261 := h157.new_ hn
      have h262 := h158.new_ hn
      have h263 := h159.transNew hn
      have h264 := h160.new_ hn
      have h265 := h161.new_ hn
      have h266 := h162.new_ hn
      have h267 := h163.new_ hn
      have h268 := h164.new_ hn
      have h269 := h165.new_ hn
      clear h153 h154 h155 h156 h157 h158 h159 h160 h161 h162 h163 h164 h165 hn
      rw [capI_ok He2.out, ← HU.out.2.1]
      have E := H2.out
      skip
      cases e3
      · skip
        have k275 : w256.cell? ⟨qx, 0, none⟩ = some (.bool bx) := h259.cell 0
        have k276 : w256.cell? ⟨qx, 1, none⟩ = some (.slice Ax mx.length cx) := h259.cell 1
        go_wp2_with fail
        clear k275 k276
        refine (negz_any _ a _ h257).mono ?_
        rintro e w277 ⟨f270, A271, n272, c273, rfl, hc274, hn⟩
        have h278 := h257.new_ hn
        have h279 := h258.new_ hn
        have h280 := h259.new_ hn
        have h281 := h260.new_ hn
        have h282 := h261.new_ hn
        have h283 := h262.new_ hn
        have h284 := h263.transNew hn
        have h285 := h264.new_ hn
        have h286 := h265.new_ hn
        have h287 := h266.new_ hn
        have h288 := h267.new_ hn
        have h289 := h268.new_ hn
        have h290 := h269.new_ hn
        clear h257 h258 h259 h260 h261 h262 h263 h264 h265 h266 h267 h268 h269 hn
        have hz291 := hc274.big (by rw [Int.natAbs_neg]; exact h278.lt)
        clear hc274
        go_wp2_with fail
        refine (word_any _ (-a) _ hz291).mono ?_
        rintro e w292 ⟨rfl, hn⟩
        have h293 := h278.new_ hn
        have h294 := h279.new_ hn
        have h295 := h280.new_ hn
        have h296 := h281.new_ hn
        have h297 := h282.new_ hn
        have h298 := h283.new_ hn
        have h299 := h284.transNew hn
        have h300 := h285.new_ hn
        have h301 := h286.new_ hn
        have h302 := h287.new_ hn
        have h303 := h288.new_ hn
        have h304 := h289.new_ hn
        have h305 := h290.new_ hn
        clear h278 h279 h280 h281 h282 h283 h284 h285 h286 h287 h288 h289 h290 hn
        clear hz291
        rw [← HU.out.2.2.2]
        have E4 := H4.out
        go_wp2
        go_ret
        exact ⟨rfl, h299⟩
      · skip
        have k306 : w256.cell? ⟨q139, 0, none⟩ = some (.bool f115) := h269.cell 0
        have k307 : w256.cell? ⟨q139, 1, none⟩ = some (.slice A116 n117 c118) := h269.cell 1
        go_wp2_with fail
        clear k306 k307
        refine (word_any _ (capI (a * b)) _ h268).mono ?_
        rintro e w308 ⟨rfl, hn⟩
        have h309 := h257.new_ hn
        have h310 := h258.new_ hn
        have h311 := h259.new_ hn
        have h312 := h260.new_ hn
        have h313 := h261.new_ hn
        have h314 := h262.new_ hn
        have h315 := h263.transNew hn
        have h316 := h264.new_ hn
        have h317 := h265.new_ hn
        have h318 := h266.new_ hn
        have h319 := h267.new_ hn
        have h320 := h268.new_ hn
        have h321 := h269.new_ hn
        clear h257 h258 h259 h260 h261 h262 h263 h264 h265 h266 h267 h268 h269 hn
        rw [capI_ok He3.out, ← HU.out.2.2.1]
        have E := H3.out
        skip
        have k327 : w308.cell? ⟨qx, 0, none⟩ = some (.bool bx) := h311.cell 0
        have k328 : w308.cell? ⟨qx, 1, none⟩ = some (.slice Ax mx.length cx) := h311.cell 1
        go_wp2_with fail
        clear k327 k328
        refine (negz_any _ a _ h309).mono ?_
        rintro e w329 ⟨f322, A323, n324, c325, rfl, hc326, hn⟩
        have h330 := h309.new_ hn
        have h331 := h310.new_ hn
        have h332 := h311.new_ hn
        have h333 := h312.new_ hn
        have h334 := h313.new_ hn
        have h335 := h314.new_ hn
        have h336 := h315.transNew hn
        have h337 := h316.new_ hn
        have h338 := h317.new_ hn
        have h339 := h318.new_ hn
        have h340 := h319.new_ hn
        have h341 := h320.new_ hn
        have h342 := h321.new_ hn
        clear h309 h310 h311 h312 h313 h314 h315 h316 h317 h318 h319 h320 h321 hn
        have hz343 := hc326.big (by rw [Int.natAbs_neg]; exact h330.lt)
        clear hc326
        go_wp2_with fail
        refine (word_any _ (-a) _ hz343).mono ?_
        rintro e w344 ⟨rfl, hn⟩
        have h345 := h330.new_ hn
        have h346 := h331.new_ hn
        have h347 := h332.new_ hn
        have h348 := h333.new_ hn
        have h349 := h334.new_ hn
        have h350 := h335.new_ hn
        have h351 := h336.transNew hn
        have h352 := h337.new_ hn
        have h353 := h338.new_ hn
        have h354 := h339.new_ hn
        have h355 := h340.new_ hn
        have h356 := h341.new_ hn
        have h357 := h342.new_ hn
        clear h330 h331 h332 h333 h334 h335 h336 h337 h338 h339 h340 h341 h342 hn
        clear hz343
        rw [← HU.out.2.2.2]
        have E4 := H4.out
        go_wp2
        go_ret
        exact ⟨rfl, h351⟩
  · skip
    have k358 : w152.cell? ⟨q73, 0, none⟩ = some (.bool f53) := h161.cell 0
    have k359 : w152.cell? ⟨q73, 1, none⟩ = some (.slice A54 n55 c56) := h161.cell 1
    go_wp2_with fail
    clear k358 k359
    refine (word_any _ (capI (a + b)) _ h160).mono ?_
    rintro e w360 ⟨rfl, hn⟩
    have h361 := h153.new_ hn
    have h362 := h154.new_ hn
    have h363 := h155.new_ hn
    have h364 := h156.new_ hn
    have h365 := h157.new_ hn
    have h366 := h158.new_ hn
    have h367 := h159.transNew hn
    have h368 := h160.new_ hn
    have h369 := h161.new_ hn
    have h370 := h162.new_ hn
    have h371 := h163.new_ hn
    have h372 := h164.new_ hn
    have h373 := h165.new_ hn
    clear h153 h154 h155 h156 h157 h158 h159 h160 h161 h162 h163 h164 h165 hn
    rw [capI_ok He1.out, ← HU.out.1]
    have E := H1.out
    skip
    cases e2
    · skip
      cases e3
      · skip
        have k379 : w360.cell? ⟨qx, 0, none⟩ = some (.bool bx) := h363.cell 0
        have k380 : w360.cell? ⟨qx, 1, none⟩ = some (.slice Ax mx.length cx) := h363.cell 1
        go_wp2_with fail
        clear k379 k380
        refine (negz_any _ a _ h361).mono ?_
        rintro e w381 ⟨f374, A375, n376, c377, rfl, hc378, hn⟩
        have h382 := h361.new_ hn
        have h383 := h362.new_ hn
        have h384 := h363.new_ hn
        have h385 := h364.new_ hn
        have h386 := h365.new_ hn
        have h387 := h366.new_ hn
        have h388 := h367.transNew hn
        have h389 := h368.new_ hn
        have h390 := h369.new_ hn
        have h391 := h370.new_ hn
        have h392 := h371.new_ hn
        have h393 := h372.new_ hn
        have h394 := h373.new_ hn
        clear h361 h362 h363 h364 h365 h366 h367 h368 h369 h370 h371 h372 h373 hn
        have hz395 := hc378.big (by rw [Int.natAbs_neg]; exact h382.lt)
        clear hc378
        go_wp2_with fail
        refine (word_any _ (-a) _ hz395).mono ?_
        rintro e w396 ⟨rfl, hn⟩
        have h397 := h382.new_ hn
        have h398 := h383.new_ hn
        have h399 := h384.new_ hn
        have h400 := h385.new_ hn
        have h401 := h386.new_ hn
        have h402 := h387.new_ hn
        have h403 := h388.transNew hn
        have h404 := h389.new_ hn
        have h405 := h390.new_ hn
        have h406 := h391.new_ hn
        have h407 := h392.new_ hn
        have h408 := h393.new_ hn
        have h409 := h394.new_ hn
        clear h382 h383 h384 h385 h386 h387 h388 h389 h390 h391 h392 h393 h394 hn
        clear hz395
        rw [← HU.out.2.2.2]
        have E4 := H4.out
        go_wp2
        go_ret
        exact ⟨rfl, h403⟩
      · skip
        have k410 : w360.cell? ⟨q139, 0, none⟩ = some (.bool f115) := h373.cell 0
        have k411 : w360.cell? ⟨q139, 1, none⟩ = some (.slice A116 n117 c118) := h373.cell 1
        go_wp2_with fail
        clear k410 k411
        refine (word_any _ (capI (a * b)) _ h372).mono ?_
        rintro e w412 ⟨rfl, hn⟩
        have h413 := h361.new_ hn
        have h414 := h362.new_ hn
        have h415 := h363.new_ hn
        have h416 := h364.new_ hn
        have h417 := h365.new_ hn
        have h418 := h366.new_ hn
        have h419 := h367.transNew hn
        have h420 := h368.new_ hn
        have h421 := h369.new_ hn
        have h422 := h370.new_ hn
        have h423 := h371.new_ hn
        have h424 := h372.new_ hn
        have h425 := h373.new_ hn
        clear h361 h362 h363 h364 h365 h366 h367 h368 h369 h370 h371 h372 h373 hn
        rw [capI_ok He3.out, ← HU.out.2.2.1]
        have E := H3.out
        skip
        have k431 : w412.cell? ⟨qx, 0, none⟩ = some (.bool bx) := h415.cell 0
        have k432 : w412.cell? ⟨qx, 1, none⟩ = some (.slice Ax mx.length cx) := h415.cell 1
        go_wp2_with fail
        clear k431 k432
        refine (negz_any _ a _ h413).mono ?_
        rintro e w433 ⟨f426, A427, n428, c429, rfl, hc430, hn⟩
        have h434 := h413.new_ hn
        have h435 := h414.new_ hn
        have h436 := h415.new_ hn
        have h437 := h416.new_ hn
        have h438 := h417.new_ hn
        have h439 := h418.new_ hn
        have h440 := h419.transNew hn
        have h441 := h420.new_ hn
        have h442 := h421.new_ hn
        have h443 := h422.new_ hn
        have h444 := h423.new_ hn
        have h445 := h424.new_ hn
        have h446 := h425.new_ hn
        clear h413 h414 h415 h416 h417 h418 h419 h420 h421 h422 h423 h424 h425 hn
        have hz447 := hc430.big (by rw [Int.natAbs_neg]; exact h434.lt)
        clear hc430
        go_wp2_with fail
        refine (word_any _ (-a) _ hz447).mono ?_
        rintro e w448 ⟨rfl, hn⟩
        have h449 := h434.new_ hn
        have h450 := h435.new_ hn
        have h451 := h436.new_ hn
        have h452 := h437.new_ hn
        have h453 := h438.new_ hn
        have h454 := h439.new_ hn
        have h455 := h440.transNew hn
        have h456 := h441.new_ hn
        have h457 := h442.new_ hn
        have h458 := h443.new_ hn
        have h459 := h444.new_ hn
        have h460 := h445.new_ hn
        have h461 := h446.new_ hn
        clear h434 h435 h436 h437 h438 h439 h440 h441 h442 h443 h444 h445 h446 hn
        clear hz447
        rw [← HU.out.2.2.2]
        have E4 := H4.out
        go_wp2
        go_ret
        exact ⟨rfl, h455⟩
    · skip
      have k462 : w360.cell? ⟨q104, 0, none⟩ = some (.bool f82) := h371.cell 0
      have k463 : w360.cell? ⟨q104, 1, none⟩ = some (.slice A83 n84 c85) := h371.cell 1
      go_wp2_with fail
      clear k462 k463
      refine (word_any _ (capI (a - b)) _ h370).mono ?_
      rintro e w464 ⟨rfl, hn⟩
      have h465 := h361.new_ hn
      have h466 := h362.new_ hn
      have h467 := h363.new_ hn
      have h468 := h364.new_ hn
      have h469 := h365.new_ hn
      have h470 := h366.new_ hn
      have h471 := h367.transNew hn
      have h472 := h368.new_ hn
      have h473 := h369.new_ hn
      have h474 := h370.new_ hn
      have h475 := h371.new_ hn
      have h476 := h372.new_ hn
      have h477 := h373.new_ hn
      clear h361 h362 h363 h364 h365 h366 h367 h368 h369 h370 h371 h372 h373 hn
      rw [capI_ok He2.out, ← HU.out.2.1]
      have E := H2.out
      skip
      cases e3
      · skip
        have k483 : w464.cell? ⟨qx, 0, none⟩ = some (.bool bx) := h467.cell 0
        have k484 : w464.cell? ⟨qx, 1, none⟩ = some (.slice Ax mx.length cx) := h467.cell 1
        go_wp2_with fail
        clear k483 k484
        refine (negz_any _ a _ h465).mono ?_
        rintro e w485 ⟨f478, A479, n480, c481, rfl, hc482, hn⟩
        have h486 := h465.new_ hn
        have h487 := h466.new_ hn
        have h488 := h467.new_ hn
        have h489 := h468.new_ hn
        have h490 := h469.new_ hn
        have h491 := h470.new_ hn
        have h492 := h471.transNew hn
        have h493 := h472.new_ hn
        have h494 := h473.new_ hn
        have h495 := h474.new_ hn
        have h496 := h475.new_ hn
        have h497 := h476.new_ hn
        have h498 := h477.new_ hn
        clear h465 h466 h467 h468 h469 h470 h471 h472 h473 h474 h475 h476 h477 hn
        have hz499 := hc482.big (by rw [Int.natAbs_neg]; exact h486.lt)
        clear hc482
        go_wp2_with fail
        refine (word_any _ (-a) _ hz499).mono ?_
        rintro e w500 ⟨rfl, hn⟩
        have h501 := h486.new_ hn
        have h502 := h487.new_ hn
        have h503 := h488.new_ hn
        have h504 := h489.new_ hn
        have h505 := h490.new_ hn
        have h506 := h491.new_ hn
        have h507 := h492.transNew hn
        have h508 := h493.new_ hn
        have h509 := h494.new_ hn
        have h510 := h495.new_ hn
        have h511 := h496.new_ hn
        have h512 := h497.new_ hn
        have h513 := h498.new_ hn
        clear h486 h487 h488 h489 h490 h491 h492 h493 h494 h495 h496 h497 h498 hn
        clear hz499
        rw [← HU.out.2.2.2]
        have E4 := H4.out
        go_wp2
        go_ret
        exact ⟨rfl, h507⟩
      · skip
        have k514 : w464.cell? ⟨q139, 0, none⟩ = some (.bool f115) := h477.cell 0
        have k515 : w464.cell? ⟨q139, 1, none⟩ = some (.slice A116 n117 c118) := h477.cell 1
        go_wp2_with fail
        clear k514 k515
        refine (word_any _ (capI (a * b)) _ h476).mono ?_
        rintro e w516 ⟨rfl, hn⟩
        have h517 := h465.new_ hn
        have h518 := h466.new_ hn
        have h519 := h467.new_ hn
        have h520 := h468.new_ hn
        have h521 := h469.new_ hn
        have h522 := h470.new_ hn
        have h523 := h471.transNew hn
        have h524 := h472.new_ hn
        have h525 := h473.new_ hn
        have h526 := h474.new_ hn
        have h527 := h475.new_ hn
        have h528 := h476.new_ hn
        have h529 := h477.new_ hn
        clear h465 h466 h467 h468 h469 h470 h471 h472 h473 h474 h475 h476 h477 hn
        rw [capI_ok He3.out, ← HU.out.2.2.1]
        have E := H3.out
        skip
        have k535 : w516.cell? ⟨qx, 0, none⟩ = some (.bool bx) := h519.cell 0
        have k536 : w516.cell? ⟨qx, 1, none⟩ = some (.slice Ax mx.length cx) := h519.cell 1
        go_wp2_with fail
        clear k535 k536
        refine (negz_any _ a _ h517).mono ?_
        rintro e w537 ⟨f530, A531, n532, c533, rfl, hc534, hn⟩
        have h538 := h517.new_ hn
        have h539 := h518.new_ hn
        have h540 := h519.new_ hn
        have h541 := h520.new_ hn
        have h542 := h521.new_ hn
        have h543 := h522.new_ hn
        have h544 := h523.transNew hn
        have h545 := h524.new_ hn
        have h546 := h525.new_ hn
        have h547 := h526.new_ hn
        have h548 := h527.new_ hn
        have h549 := h528.new_ hn
        have h550 := h529.new_ hn
        clear h517 h518 h519 h520 h521 h522 h523 h524 h525 h526 h527 h528 h529 hn
        have hz551 := hc534.big (by rw [Int.natAbs_neg]; exact h538.lt)
        clear hc534
        go_wp2_with fail
        refine (word_any _ (-a) _ hz551).mono ?_
        rintro e w552 ⟨rfl, hn⟩
        have h553 := h538.new_ hn
        have h554 := h539.new_ hn
        have h555 := h540.new_ hn
        have h556 := h541.new_ hn
        have h557 := h542.new_ hn
        have h558 := h543.new_ hn
        have h559 := h544.transNew hn
        have h560 := h545.new_ hn
        have h561 := h546.new_ hn
        have h562 := h547.new_ hn
        have h563 := h548.new_ hn
        have h564 := h549.new_ hn
        have h565 := h550.new_ hn
        clear h538 h539 h540 h541 h542 h543 h544 h545 h546 h547 h548 h549 h550 hn
        clear hz551
        rw [← HU.out.2.2.2]
        have E4 := H4.out
        go_wp2
        go_ret
        exact ⟨rfl, h559⟩
end Go.Proofs.Ytfhflpchfgkgcaa
