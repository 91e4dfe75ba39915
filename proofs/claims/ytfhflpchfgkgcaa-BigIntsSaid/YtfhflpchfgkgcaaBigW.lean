/- The laws BigSpreads .. : the walks. -/
import Derived.Test.YtfhflpchfgkgcaaBigV
namespace Go.Proofs.Ytfhflpchfgkgcaa
open Go.RowKit
theorem capI_lt (z : Int) : (capI z).natAbs < 2 ^ 256 := by
  unfold capI
  split
  · assumption
  · decide
theorem capI_ok {z : Int} (h : true = okI z) : capI z = z := by
  unfold okI at h
  rw [capI, if_pos (by simpa using h.symm)]
theorem one_box (w : World) (t : TypeId) (x1 y1 : Value) : ∃ w1, w1 = w.alloc (.cells #[x1, y1] t) ∧ New w w1 ∧ Blk w1 w.heap.size t [x1, y1] ∧ w1.heap.size = w.heap.size + 1 :=
  ⟨_, rfl, (Upd.refl _ _).alloc _, Blk.new w t _, by simp⟩
set_option maxHeartbeats 6400000 in
set_option maxRecDepth 100000 in
theorem spreads_walk (x z u : Value) (a b c : Int) (w : World) (hx : BigAt w x a) (hz : BigAt w z b) (hu : BigAt w u c) : Calls Try.prog 9 #[x, z, u] w (IsBool true w) := by
  obtain ⟨bx, vx, mx, rfl, rx, lx, gx⟩ := hx
  obtain ⟨Ax, cx, rfl⟩ := rx.form
  obtain ⟨bz, vz, mz, rfl, rz, lz, gz⟩ := hz
  obtain ⟨Az, cz, rfl⟩ := rz.form
  obtain ⟨bu, vu, mu, rfl, ru, lu, gu⟩ := hu
  obtain ⟨Au, cu, rfl⟩ := ru.form
  obtain ⟨w1, hw1, hN, hbx, hbz, hbu, -⟩ := three_boxes w 24 (.bool bx) (.slice Ax mx.length cx) (.bool bz) (.slice Az mz.length cz) (.bool bu) (.slice Au mu.length cu)
  have hzx : BigAt w1 (.agg #[.bool bx, .slice Ax mx.length cx]) a := ⟨_, _, _, rfl, rx.new_ hN, lx, gx⟩
  have hrx := rx.new_ hN
  clear rx lx gx
  have hzz : BigAt w1 (.agg #[.bool bz, .slice Az mz.length cz]) b := ⟨_, _, _, rfl, rz.new_ hN, lz, gz⟩
  have hrz := rz.new_ hN
  clear rz lz gz
  have hzu : BigAt w1 (.agg #[.bool bu, .slice Au mu.length cu]) c := ⟨_, _, _, rfl, ru.new_ hN, lu, gu⟩
  have hru := ru.new_ hN
  clear ru lu gu
  have Hw1 := hide hw1
  clear hw1
  go_enter Try.func9, Try.ntmps9
  go_wp2_with fail
  rw [← Hw1.out]
  obtain ⟨qx, hqx⟩ : ∃ q, q = w.heap.size := ⟨_, rfl⟩
  obtain ⟨qz, hqz⟩ : ∃ q, q = w.heap.size + 1 := ⟨_, rfl⟩
  obtain ⟨qu, hqu⟩ : ∃ q, q = w.heap.size + 2 := ⟨_, rfl⟩
  rw [← hqu] at hbu ⊢
  rw [← hqz] at hbz ⊢
  rw [← hqx] at hbx ⊢
  clear hqx hqz hqu
  refine (first_any _).mono ?_
  rintro e w1 ⟨rfl, hn⟩
  have h2 := hzx.new_ hn
  have h3 := hrx.new_ hn
  have h4 := hbx.new_ hn
  have h5 := hzz.new_ hn
  have h6 := hrz.new_ hn
  have h7 := hbz.new_ hn
  have h8 := hzu.new_ hn
  have h9 := hru.new_ hn
  have h10 := hbu.new_ hn
  have h11 := hN.transNew hn
  clear hzx hrx hbx hzz hrz hbz hzu hru hbu hN hn
  have k12 : w1.cell? ⟨qx, 0, none⟩ = some (.bool bx) := h4.cell 0
  have k13 : w1.cell? ⟨qx, 1, none⟩ = some (.slice Ax mx.length cx) := h4.cell 1
  go_wp2_with fail
  clear k12 k13
  refine (few_any _ _ mx _ h3).mono ?_
  rintro e w14 ⟨rfl, hn⟩
  have h15 := h2.new_ hn
  have h16 := h3.new_ hn
  have h17 := h4.new_ hn
  have h18 := h5.new_ hn
  have h19 := h6.new_ hn
  have h20 := h7.new_ hn
  have h21 := h8.new_ hn
  have h22 := h9.new_ hn
  have h23 := h10.new_ hn
  have h24 := h11.transNew hn
  clear h2 h3 h4 h5 h6 h7 h8 h9 h10 h11 hn
  obtain ⟨d, hd⟩ : ∃ d, d = decide (mx.length ≤ 40) := ⟨_, rfl⟩
  rw [← hd]
  clear hd
  cases d
  · skip
    go_wp2_with fail
    refine (first_any _).mono ?_
    rintro e w25 ⟨rfl, hn⟩
    have h26 := h15.new_ hn
    have h27 := h16.new_ hn
    have h28 := h17.new_ hn
    have h29 := h18.new_ hn
    have h30 := h19.new_ hn
    have h31 := h20.new_ hn
    have h32 := h21.new_ hn
    have h33 := h22.new_ hn
    have h34 := h23.new_ hn
    have h35 := h24.transNew hn
    clear h15 h16 h17 h18 h19 h20 h21 h22 h23 h24 hn
    go_wp2
    go_ret
    exact ⟨rfl, h35⟩
  have k36 : w14.cell? ⟨qz, 0, none⟩ = some (.bool bz) := h20.cell 0
  have k37 : w14.cell? ⟨qz, 1, none⟩ = some (.slice Az mz.length cz) := h20.cell 1
  go_wp2_with fail
  clear k36 k37
  refine (few_any _ _ mz _ h19).mono ?_
  rintro e w38 ⟨rfl, hn⟩
  have h39 := h15.new_ hn
  have h40 := h16.new_ hn
  have h41 := h17.new_ hn
  have h42 := h18.new_ hn
  have h43 := h19.new_ hn
  have h44 := h20.new_ hn
  have h45 := h21.new_ hn
  have h46 := h22.new_ hn
  have h47 := h23.new_ hn
  have h48 := h24.transNew hn
  clear h15 h16 h17 h18 h19 h20 h21 h22 h23 h24 hn
  obtain ⟨d, hd⟩ : ∃ d, d = decide (mz.length ≤ 40) := ⟨_, rfl⟩
  rw [← hd]
  clear hd
  cases d
  · skip
    go_wp2_with fail
    refine (first_any _).mono ?_
    rintro e w49 ⟨rfl, hn⟩
    have h50 := h39.new_ hn
    have h51 := h40.new_ hn
    have h52 := h41.new_ hn
    have h53 := h42.new_ hn
    have h54 := h43.new_ hn
    have h55 := h44.new_ hn
    have h56 := h45.new_ hn
    have h57 := h46.new_ hn
    have h58 := h47.new_ hn
    have h59 := h48.transNew hn
    clear h39 h40 h41 h42 h43 h44 h45 h46 h47 h48 hn
    go_wp2
    go_ret
    exact ⟨rfl, h59⟩
  have k60 : w38.cell? ⟨qu, 0, none⟩ = some (.bool bu) := h47.cell 0
  have k61 : w38.cell? ⟨qu, 1, none⟩ = some (.slice Au mu.length cu) := h47.cell 1
  go_wp2_with fail
  clear k60 k61
  refine (few_any _ _ mu _ h46).mono ?_
  rintro e w62 ⟨rfl, hn⟩
  have h63 := h39.new_ hn
  have h64 := h40.new_ hn
  have h65 := h41.new_ hn
  have h66 := h42.new_ hn
  have h67 := h43.new_ hn
  have h68 := h44.new_ hn
  have h69 := h45.new_ hn
  have h70 := h46.new_ hn
  have h71 := h47.new_ hn
  have h72 := h48.transNew hn
  clear h39 h40 h41 h42 h43 h44 h45 h46 h47 h48 hn
  obtain ⟨d, hd⟩ : ∃ d, d = decide (mu.length ≤ 40) := ⟨_, rfl⟩
  rw [← hd]
  clear hd
  cases d
  · skip
    go_wp2_with fail
    refine (first_any _).mono ?_
    rintro e w73 ⟨rfl, hn⟩
    have h74 := h63.new_ hn
    have h75 := h64.new_ hn
    have h76 := h65.new_ hn
    have h77 := h66.new_ hn
    have h78 := h67.new_ hn
    have h79 := h68.new_ hn
    have h80 := h69.new_ hn
    have h81 := h70.new_ hn
    have h82 := h71.new_ hn
    have h83 := h72.transNew hn
    clear h63 h64 h65 h66 h67 h68 h69 h70 h71 h72 hn
    go_wp2
    go_ret
    exact ⟨rfl, h83⟩
  have k89 : w62.cell? ⟨qz, 0, none⟩ = some (.bool bz) := h68.cell 0
  have k90 : w62.cell? ⟨qz, 1, none⟩ = some (.slice Az mz.length cz) := h68.cell 1
  have k91 : w62.cell? ⟨qu, 0, none⟩ = some (.bool bu) := h71.cell 0
  have k92 : w62.cell? ⟨qu, 1, none⟩ = some (.slice Au mu.length cu) := h71.cell 1
  go_wp2_with fail
  clear k89 k90 k91 k92
  refine (add_any _ _ (b) (c) _ h66 h69).mono ?_
  rintro e w93 ⟨f84, A85, n86, c87, rfl, hc88, hn⟩
  have h94 := h63.new_ hn
  have h95 := h64.new_ hn
  have h96 := h65.new_ hn
  have h97 := h66.new_ hn
  have h98 := h67.new_ hn
  have h99 := h68.new_ hn
  have h100 := h69.new_ hn
  have h101 := h70.new_ hn
  have h102 := h71.new_ hn
  have h103 := h72.transNew hn
  clear h63 h64 h65 h66 h67 h68 h69 h70 h71 h72 hn
  obtain ⟨e1, hk⟩ : ∃ o, o = okI (b + c) := ⟨_, rfl⟩
  rw [← hk]
  have He1 := hide hk
  clear hk
  have hz104 := hc88.big (capI_lt _)
  clear hc88
  go_upto_region 6 with (fail)
  obtain ⟨w105, hw⟩ : ∃ w', w' = w93.alloc (.cells #[.bool f84, .slice A85 n86 c87] 24) := ⟨_, rfl⟩
  have hn : New w93 w105 := by rw [hw]; exact (Upd.refl _ _).alloc _
  have hb106 : Blk w105 w93.heap.size 24 [.bool f84, .slice A85 n86 c87] := by rw [hw]; exact Blk.new w93 _ _
  rw [← hw]
  clear hw
  obtain ⟨q107, hq⟩ : ∃ q, q = w93.heap.size := ⟨_, rfl⟩
  rw [← hq] at hb106 ⊢
  clear hq
  have h108 := h94.new_ hn
  have h109 := h95.new_ hn
  have h110 := h96.new_ hn
  have h111 := h97.new_ hn
  have h112 := h98.new_ hn
  have h113 := h99.new_ hn
  have h114 := h100.new_ hn
  have h115 := h101.new_ hn
  have h116 := h102.new_ hn
  have h117 := h103.transNew hn
  have h118 := hz104.new_ hn
  clear h94 h95 h96 h97 h98 h99 h100 h101 h102 h103 hz104 hn
  have k124 : w105.cell? ⟨qx, 0, none⟩ = some (.bool bx) := h110.cell 0
  have k125 : w105.cell? ⟨qx, 1, none⟩ = some (.slice Ax mx.length cx) := h110.cell 1
  have k126 : w105.cell? ⟨q107, 0, none⟩ = some (.bool f84) := hb106.cell 0
  have k127 : w105.cell? ⟨q107, 1, none⟩ = some (.slice A85 n86 c87) := hb106.cell 1
  go_wp2_with fail
  clear k124 k125 k126 k127
  refine (mul_any _ _ (a) (capI (b + c)) _ h108 h118).mono ?_
  rintro e w128 ⟨f119, A120, n121, c122, rfl, hc123, hn⟩
  have h129 := h108.new_ hn
  have h130 := h109.new_ hn
  have h131 := h110.new_ hn
  have h132 := h111.new_ hn
  have h133 := h112.new_ hn
  have h134 := h113.new_ hn
  have h135 := h114.new_ hn
  have h136 := h115.new_ hn
  have h137 := h116.new_ hn
  have h138 := h117.transNew hn
  have h139 := h118.new_ hn
  have h140 := hb106.new_ hn
  clear h108 h109 h110 h111 h112 h113 h114 h115 h116 h117 h118 hb106 hn
  obtain ⟨e2, hk⟩ : ∃ o, o = okI (a * capI (b + c)) := ⟨_, rfl⟩
  rw [← hk]
  have He2 := hide hk
  clear hk
  have hz141 := hc123.big (capI_lt _)
  clear hc123
  go_upto_region 7 with (fail)
  obtain ⟨w142, hw⟩ : ∃ w', w' = w128.alloc (.cells #[.bool f119, .slice A120 n121 c122] 24) := ⟨_, rfl⟩
  have hn : New w128 w142 := by rw [hw]; exact (Upd.refl _ _).alloc _
  have hb143 : Blk w142 w128.heap.size 24 [.bool f119, .slice A120 n121 c122] := by rw [hw]; exact Blk.new w128 _ _
  rw [← hw]
  clear hw
  obtain ⟨q144, hq⟩ : ∃ q, q = w128.heap.size := ⟨_, rfl⟩
  rw [← hq] at hb143 ⊢
  clear hq
  have h145 := h129.new_ hn
  have h146 := h130.new_ hn
  have h147 := h131.new_ hn
  have h148 := h132.new_ hn
  have h149 := h133.new_ hn
  have h150 := h134.new_ hn
  have h151 := h135.new_ hn
  have h152 := h136.new_ hn
  have h153 := h137.new_ hn
  have h154 := h138.transNew hn
  have h155 := h139.new_ hn
  have h156 := h140.new_ hn
  have h157 := hz141.new_ hn
  clear h129 h130 h131 h132 h133 h134 h135 h136 h137 h138 h139 h140 hz141 hn
  have k163 : w142.cell? ⟨qx, 0, none⟩ = some (.bool bx) := h147.cell 0
  have k164 : w142.cell? ⟨qx, 1, none⟩ = some (.slice Ax mx.length cx) := h147.cell 1
  have k165 : w142.cell? ⟨qz, 0, none⟩ = some (.bool bz) := h150.cell 0
  have k166 : w142.cell? ⟨qz, 1, none⟩ = some (.slice Az mz.length cz) := h150.cell 1
  go_wp2_with fail
  clear k163 k164 k165 k166
  refine (mul_any _ _ (a) (b) _ h145 h148).mono ?_
  rintro e w167 ⟨f158, A159, n160, c161, rfl, hc162, hn⟩
  have h168 := h145.new_ hn
  have h169 := h146.new_ hn
  have h170 := h147.new_ hn
  have h171 := h148.new_ hn
  have h172 := h149.new_ hn
  have h173 := h150.new_ hn
  have h174 := h151.new_ hn
  have h175 := h152.new_ hn
  have h176 := h153.new_ hn
  have h177 := h154.transNew hn
  have h178 := h155.new_ hn
  have h179 := h156.new_ hn
  have h180 := h157.new_ hn
  have h181 := hb143.new_ hn
  clear h145 h146 h147 h148 h149 h150 h151 h152 h153 h154 h155 h156 h157 hb143 hn
  obtain ⟨e3, hk⟩ : ∃ o, o = okI (a * b) := ⟨_, rfl⟩
  rw [← hk]
  have He3 := hide hk
  clear hk
  have hz182 := hc162.big (capI_lt _)
  clear hc162
  go_upto_region 8 with (fail)
  obtain ⟨w183, hw⟩ : ∃ w', w' = w167.alloc (.cells #[.bool f158, .slice A159 n160 c161] 24) := ⟨_, rfl⟩
  have hn : New w167 w183 := by rw [hw]; exact (Upd.refl _ _).alloc _
  have hb184 : Blk w183 w167.heap.size 24 [.bool f158, .slice A159 n160 c161] := by rw [hw]; exact Blk.new w167 _ _
  rw [← hw]
  clear hw
  obtain ⟨q185, hq⟩ : ∃ q, q = w167.heap.size := ⟨_, rfl⟩
  rw [← hq] at hb184 ⊢
  clear hq
  have h186 := h168.new_ hn
  have h187 := h169.new_ hn
  have h188 := h170.new_ hn
  have h189 := h171.new_ hn
  have h190 := h172.new_ hn
  have h191 := h173.new_ hn
  have h192 := h174.new_ hn
  have h193 := h175.new_ hn
  have h194 := h176.new_ hn
  have h195 := h177.transNew hn
  have h196 := h178.new_ hn
  have h197 := h179.new_ hn
  have h198 := h180.new_ hn
  have h199 := h181.new_ hn
  have h200 := hz182.new_ hn
  clear h168 h169 h170 h171 h172 h173 h174 h175 h176 h177 h178 h179 h180 h181 hz182 hn
  have k206 : w183.cell? ⟨qx, 0, none⟩ = some (.bool bx) := h188.cell 0
  have k207 : w183.cell? ⟨qx, 1, none⟩ = some (.slice Ax mx.length cx) := h188.cell 1
  have k208 : w183.cell? ⟨qu, 0, none⟩ = some (.bool bu) := h194.cell 0
  have k209 : w183.cell? ⟨qu, 1, none⟩ = some (.slice Au mu.length cu) := h194.cell 1
  go_wp2_with fail
  clear k206 k207 k208 k209
  refine (mul_any _ _ (a) (c) _ h186 h192).mono ?_
  rintro e w210 ⟨f201, A202, n203, c204, rfl, hc205, hn⟩
  have h211 := h186.new_ hn
  have h212 := h187.new_ hn
  have h213 := h188.new_ hn
  have h214 := h189.new_ hn
  have h215 := h190.new_ hn
  have h216 := h191.new_ hn
  have h217 := h192.new_ hn
  have h218 := h193.new_ hn
  have h219 := h194.new_ hn
  have h220 := h195.transNew hn
  have h221 := h196.new_ hn
  have h222 := h197.new_ hn
  have h223 := h198.new_ hn
  have h224 := h199.new_ hn
  have h225 := h200.new_ hn
  have h226 := hb184.new_ hn
  clear h186 h187 h188 h189 h190 h191 h192 h193 h194 h195 h196 h197 h198 h199 h200 hb184 hn
  obtain ⟨e4, hk⟩ : ∃ o, o = okI (a * c) := ⟨_, rfl⟩
  rw [← hk]
  have He4 := hide hk
  clear hk
  have hz227 := hc205.big (capI_lt _)
  clear hc205
  go_upto_region 9 with (fail)
  obtain ⟨w228, hw⟩ : ∃ w', w' = w210.alloc (.cells #[.bool f201, .slice A202 n203 c204] 24) := ⟨_, rfl⟩
  have hn : New w210 w228 := by rw [hw]; exact (Upd.refl _ _).alloc _
  have hb229 : Blk w228 w210.heap.size 24 [.bool f201, .slice A202 n203 c204] := by rw [hw]; exact Blk.new w210 _ _
  rw [← hw]
  clear hw
  obtain ⟨q230, hq⟩ : ∃ q, q = w210.heap.size := ⟨_, rfl⟩
  rw [← hq] at hb229 ⊢
  clear hq
  have h231 := h211.new_ hn
  have h232 := h212.new_ hn
  have h233 := h213.new_ hn
  have h234 := h214.new_ hn
  have h235 := h215.new_ hn
  have h236 := h216.new_ hn
  have h237 := h217.new_ hn
  have h238 := h218.new_ hn
  have h239 := h219.new_ hn
  have h240 := h220.transNew hn
  have h241 := h221.new_ hn
  have h242 := h222.new_ hn
  have h243 := h223.new_ hn
  have h244 := h224.new_ hn
  have h245 := h225.new_ hn
  have h246 := h226.new_ hn
  have h247 := hz227.new_ hn
  clear h211 h212 h213 h214 h215 h216 h217 h218 h219 h220 h221 h222 h223 h224 h225 h226 hz227 hn
  have k253 : w228.cell? ⟨q185, 0, none⟩ = some (.bool f158) := h246.cell 0
  have k254 : w228.cell? ⟨q185, 1, none⟩ = some (.slice A159 n160 c161) := h246.cell 1
  have k255 : w228.cell? ⟨q230, 0, none⟩ = some (.bool f201) := hb229.cell 0
  have k256 : w228.cell? ⟨q230, 1, none⟩ = some (.slice A202 n203 c204) := hb229.cell 1
  go_wp2_with fail
  clear k253 k254 k255 k256
  refine (add_any _ _ (capI (a * b)) (capI (a * c)) _ h245 h247).mono ?_
  rintro e w257 ⟨f248, A249, n250, c251, rfl, hc252, hn⟩
  have h258 := h231.new_ hn
  have h259 := h232.new_ hn
  have h260 := h233.new_ hn
  have h261 := h234.new_ hn
  have h262 := h235.new_ hn
  have h263 := h236.new_ hn
  have h264 := h237.new_ hn
  have h265 := h238.new_ hn
  have h266 := h239.new_ hn
  have h267 := h240.transNew hn
  have h268 := h241.new_ hn
  have h269 := h242.new_ hn
  have h270 := h243.new_ hn
  have h271 := h244.new_ hn
  have h272 := h245.new_ hn
  have h273 := h246.new_ hn
  have h274 := h247.new_ hn
  have h275 := hb229.new_ hn
  clear h231 h232 h233 h234 h235 h236 h237 h238 h239 h240 h241 h242 h243 h244 h245 h246 h247 hb229 hn
  obtain ⟨e5, hk⟩ : ∃ o, o = okI (capI (a * b) + capI (a * c)) := ⟨_, rfl⟩
  rw [← hk]
  have He5 := hide hk
  clear hk
  have hz276 := hc252.big (capI_lt _)
  clear hc252
  go_upto_region 10 with (fail)
  obtain ⟨w277, hw⟩ : ∃ w', w' = w257.alloc (.cells #[.bool f248, .slice A249 n250 c251] 24) := ⟨_, rfl⟩
  have hn : New w257 w277 := by rw [hw]; exact (Upd.refl _ _).alloc _
  have hb278 : Blk w277 w257.heap.size 24 [.bool f248, .slice A249 n250 c251] := by rw [hw]; exact Blk.new w257 _ _
  rw [← hw]
  clear hw
  obtain ⟨q279, hq⟩ : ∃ q, q = w257.heap.size := ⟨_, rfl⟩
  rw [← hq] at hb278 ⊢
  clear hq
  have h280 := h258.new_ hn
  have h281 := h259.new_ hn
  have h282 := h260.new_ hn
  have h283 := h261.new_ hn
  have h284 := h262.new_ hn
  have h285 := h263.new_ hn
  have h286 := h264.new_ hn
  have h287 := h265.new_ hn
  have h288 := h266.new_ hn
  have h289 := h267.transNew hn
  have h290 := h268.new_ hn
  have h291 := h269.new_ hn
  have h292 := h270.new_ hn
  have h293 := h271.new_ hn
  have h294 := h272.new_ hn
  have h295 := h273.new_ hn
  have h296 := h274.new_ hn
  have h297 := h275.new_ hn
  have h298 := hz276.new_ hn
  clear h258 h259 h260 h261 h262 h263 h264 h265 h266 h267 h268 h269 h270 h271 h272 h273 h274 h275 hz276 hn
  go_wp2_with fail
  refine (first_any _).mono ?_
  rintro e w299 ⟨rfl, hn⟩
  have h300 := h280.new_ hn
  have h301 := h281.new_ hn
  have h302 := h282.new_ hn
  have h303 := h283.new_ hn
  have h304 := h284.new_ hn
  have h305 := h285.new_ hn
  have h306 := h286.new_ hn
  have h307 := h287.new_ hn
  have h308 := h288.new_ hn
  have h309 := h289.transNew hn
  have h310 := h290.new_ hn
  have h311 := h291.new_ hn
  have h312 := h292.new_ hn
  have h313 := h293.new_ hn
  have h314 := h294.new_ hn
  have h315 := h295.new_ hn
  have h316 := h296.new_ hn
  have h317 := h297.new_ hn
  have h318 := h298.new_ hn
  have h319 := hb278.new_ hn
  clear h280 h281 h282 h283 h284 h285 h286 h287 h288 h289 h290 h291 h292 h293 h294 h295 h296 h297 h298 hb278 hn
  cases e1
  · skip
    go_wp2
    go_ret
    exact ⟨rfl, h309⟩
  cases e2
  · skip
    go_wp2
    go_ret
    exact ⟨rfl, h309⟩
  cases e3
  · skip
    go_wp2
    go_ret
    exact ⟨rfl, h309⟩
  cases e4
  · skip
    go_wp2
    go_ret
    exact ⟨rfl, h309⟩
  cases e5
  · skip
    go_wp2
    go_ret
    exact ⟨rfl, h309⟩
  have k320 : w299.cell? ⟨q144, 0, none⟩ = some (.bool f119) := h313.cell 0
  have k321 : w299.cell? ⟨q144, 1, none⟩ = some (.slice A120 n121 c122) := h313.cell 1
  have k322 : w299.cell? ⟨q279, 0, none⟩ = some (.bool f248) := h319.cell 0
  have k323 : w299.cell? ⟨q279, 1, none⟩ = some (.slice A249 n250 c251) := h319.cell 1
  go_wp2_with fail
  clear k320 k321 k322 k323
  refine (same_any _ _ (capI (a * capI (b + c))) (capI (capI (a * b) + capI (a * c))) _ h312 h318).mono ?_
  rintro e w324 ⟨rfl, hn⟩
  have h325 := h300.new_ hn
  have h326 := h301.new_ hn
  have h327 := h302.new_ hn
  have h328 := h303.new_ hn
  have h329 := h304.new_ hn
  have h330 := h305.new_ hn
  have h331 := h306.new_ hn
  have h332 := h307.new_ hn
  have h333 := h308.new_ hn
  have h334 := h309.transNew hn
  have h335 := h310.new_ hn
  have h336 := h311.new_ hn
  have h337 := h312.new_ hn
  have h338 := h313.new_ hn
  have h339 := h314.new_ hn
  have h340 := h315.new_ hn
  have h341 := h316.new_ hn
  have h342 := h317.new_ hn
  have h343 := h318.new_ hn
  have h344 := h319.new_ hn
  clear h300 h301 h302 h303 h304 h305 h306 h307 h308 h309 h310 h311 h312 h313 h314 h315 h316 h317 h318 h319 hn
  have hfin : capI (a * capI (b + c)) = capI (capI (a * b) + capI (a * c)) := by
    have h2 := He2.out
    have h5 := He5.out
    rw [capI_ok h2, capI_ok h5, capI_ok He1.out, capI_ok He3.out, capI_ok He4.out, Int.mul_add]
  rw [decide_eq_true hfin]
  clear hfin
  go_wp2
  go_ret
  exact ⟨rfl, h334⟩
end Go.Proofs.Ytfhflpchfgkgcaa
