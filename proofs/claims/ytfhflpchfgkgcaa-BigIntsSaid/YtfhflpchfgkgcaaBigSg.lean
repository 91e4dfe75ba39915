/- The law BigSigns: the walk. -/
import Derived.Test.YtfhflpchfgkgcaaBigTn
import Derived.Test.YtfhflpchfgkgcaaReg3
namespace Go.Proofs.Ytfhflpchfgkgcaa
open Go.RowKit
theorem divZ_neg (a b : Int) : divZ (-a) b = -(divZ a b) := by
  unfold divZ
  split
  · rfl
  · exact Int.neg_tdiv ..
theorem remZ_neg2 (a b : Int) : remZ (-a) (-b) = -(remZ a b) := by
  unfold remZ
  by_cases h : b = 0
  · rw [if_pos h, if_pos (by omega)]; rfl
  · rw [if_neg h, if_neg (by omega), Int.tmod_neg, Int.neg_tmod]
theorem okI_neg (z : Int) : okI (-z) = okI z := by unfold okI; rw [Int.natAbs_neg]
theorem capI_neg (z : Int) : capI (-z) = -(capI z) := by
  unfold capI
  rw [Int.natAbs_neg]
  split <;> rfl
theorem zeroE_neg (b : Int) : zeroE (-b) = zeroE b := by unfold zeroE; repeat' split <;> omega
theorem zeroE_two (b : Int) : zeroE b = 4 ∨ zeroE b = 0 := by unfold zeroE; split <;> simp
def IsV (z : Int) (v : Value) (w : World) : Prop := ∃ f A n c, v = .agg #[.bool f, .slice A n c] ∧ CanAt w (.agg #[.bool f, .slice A n c]) z
def IsVE (z er : Int) (v : Value) (w : World) : Prop := ∃ f A n c, v = .tuple #[.agg #[.bool f, .slice A n c], .int .i64 er] ∧ CanAt w (.agg #[.bool f, .slice A n c]) z
def IsBox (w0 : World) (v : Value) (w : World) : Prop := ∃ q, v = .pointer (some ⟨q, 0, none⟩) ∧ w0.heap.size ≤ q ∧ Blk w q 24 [.bool false, .slice none 0 0]
theorem IsV.new_ {z : Int} {v : Value} {w w' : World} (h : IsV z v w) (hn : New w w') : IsV z v w' := by
  obtain ⟨f, A, n, c, he, hc⟩ := h; exact ⟨f, A, n, c, he, hc.new_ hn⟩
theorem IsVE.new_ {z er : Int} {v : Value} {w w' : World} (h : IsVE z er v w) (hn : New w w') : IsVE z er v w' := by
  obtain ⟨f, A, n, c, he, hc⟩ := h; exact ⟨f, A, n, c, he, hc.new_ hn⟩
theorem IsBox.new_ {w0 : World} {v : Value} {w w' : World} (h : IsBox w0 v w) (hn : New w w') : IsBox w0 v w' := by
  obtain ⟨q, he, hq, hb⟩ := h; exact ⟨q, he, hq, hb.new_ hn⟩
def T12 (w0 : World) (X Z : Value) (y r er : Int) (i : Nat) (v : Value) (w : World) : Prop := match i with
  | 0 => v = X
  | 1 => v = Z
  | 2 => IsV y v w
  | 3 => IsVE r er v w
  | 4 => IsVE r er v w
  | 5 => IsV r v w
  | 6 => v = .int .i64 er
  | 7 => IsBox w0 v w
  | _ => True
theorem T12.new_ {w0 : World} {X Z : Value} {y r er : Int} : ∀ (i : Nat) (v : Value) (w w' : World), New w w' → T12 w0 X Z y r er i v w → T12 w0 X Z y r er i v w'
  | 0, _, _, _, _, h => h
  | 1, _, _, _, _, h => h
  | 2, _, _, _, hn, h => IsV.new_ h hn
  | 3, _, _, _, hn, h => IsVE.new_ h hn
  | 4, _, _, _, hn, h => IsVE.new_ h hn
  | 5, _, _, _, hn, h => IsV.new_ h hn
  | 6, _, _, _, _, h => h
  | 7, _, _, _, hn, h => IsBox.new_ h hn
  | _ + 8, _, _, _, _, _ => trivial
set_option maxHeartbeats 25600000 in
set_option maxRecDepth 100000 in
theorem signs_walk (x z : Value) (a b : Int) (w : World) (hx : BigAt w x a) (hz : BigAt w z b) : Calls Try.prog 10 #[x, z] w (IsBool true w) := by
  obtain ⟨bx, vx, mx, rfl, rx, lx, gx⟩ := hx
  obtain ⟨Ax, cx, rfl⟩ := rx.form
  obtain ⟨bz, vz, mz, rfl, rz, lz, gz⟩ := hz
  obtain ⟨Az, cz, rfl⟩ := rz.form
  obtain ⟨w1, hw1, hN, hbx, hbz, -⟩ := two_boxes w 24 (.bool bx) (.slice Ax mx.length cx) (.bool bz) (.slice Az mz.length cz)
  have hzx : BigAt w1 (.agg #[.bool bx, .slice Ax mx.length cx]) a := ⟨_, _, _, rfl, rx.new_ hN, lx, gx⟩
  have hrx := rx.new_ hN
  clear rx lx gx
  have hzz : BigAt w1 (.agg #[.bool bz, .slice Az mz.length cz]) b := ⟨_, _, _, rfl, rz.new_ hN, lz, gz⟩
  have hrz := rz.new_ hN
  clear rz lz gz
  have Hw1 := hide hw1
  clear hw1
  go_enter Try.func10, Try.ntmps10
  go_wp2_with fail
  rw [← Hw1.out]
  obtain ⟨qx, hqx⟩ : ∃ q, q = w.heap.size := ⟨_, rfl⟩
  obtain ⟨qz, hqz⟩ : ∃ q, q = w.heap.size + 1 := ⟨_, rfl⟩
  rw [← hqz] at hbz ⊢
  rw [← hqx] at hbx ⊢
  clear hqx hqz
  refine (first_any _).mono ?_
  rintro e w1 ⟨rfl, hn⟩
  have h2 := hzx.new_ hn
  have h3 := hrx.new_ hn
  have h4 := hbx.new_ hn
  have h5 := hzz.new_ hn
  have h6 := hrz.new_ hn
  have h7 := hbz.new_ hn
  have h8 := hN.transNew hn
  clear hzx hrx hbx hzz hrz hbz hN hn
  have k9 : w1.cell? ⟨qx, 0, none⟩ = some (.bool bx) := h4.cell 0
  have k10 : w1.cell? ⟨qx, 1, none⟩ = some (.slice Ax mx.length cx) := h4.cell 1
  go_wp2_with fail
  clear k9 k10
  refine (few_any _ _ mx _ h3).mono ?_
  rintro e w11 ⟨rfl, hn⟩
  have h12 := h2.new_ hn
  have h13 := h3.new_ hn
  have h14 := h4.new_ hn
  have h15 := h5.new_ hn
  have h16 := h6.new_ hn
  have h17 := h7.new_ hn
  have h18 := h8.transNew hn
  clear h2 h3 h4 h5 h6 h7 h8 hn
  obtain ⟨d, hd⟩ : ∃ d, d = decide (mx.length ≤ 40) := ⟨_, rfl⟩
  rw [← hd]
  clear hd
  cases d
  · skip
    go_wp2_with fail
    refine (first_any _).mono ?_
    rintro e w19 ⟨rfl, hn⟩
    have h20 := h12.new_ hn
    have h21 := h13.new_ hn
    have h22 := h14.new_ hn
    have h23 := h15.new_ hn
    have h24 := h16.new_ hn
    have h25 := h17.new_ hn
    have h26 := h18.transNew hn
    clear h12 h13 h14 h15 h16 h17 h18 hn
    go_wp2
    go_ret
    exact ⟨rfl, h26⟩
  have k27 : w11.cell? ⟨qz, 0, none⟩ = some (.bool bz) := h17.cell 0
  have k28 : w11.cell? ⟨qz, 1, none⟩ = some (.slice Az mz.length cz) := h17.cell 1
  go_wp2_with fail
  clear k27 k28
  refine (few_any _ _ mz _ h16).mono ?_
  rintro e w29 ⟨rfl, hn⟩
  have h30 := h12.new_ hn
  have h31 := h13.new_ hn
  have h32 := h14.new_ hn
  have h33 := h15.new_ hn
  have h34 := h16.new_ hn
  have h35 := h17.new_ hn
  have h36 := h18.transNew hn
  clear h12 h13 h14 h15 h16 h17 h18 hn
  obtain ⟨d, hd⟩ : ∃ d, d = decide (mz.length ≤ 40) := ⟨_, rfl⟩
  rw [← hd]
  clear hd
  cases d
  · skip
    go_wp2_with fail
    refine (first_any _).mono ?_
    rintro e w37 ⟨rfl, hn⟩
    have h38 := h30.new_ hn
    have h39 := h31.new_ hn
    have h40 := h32.new_ hn
    have h41 := h33.new_ hn
    have h42 := h34.new_ hn
    have h43 := h35.new_ hn
    have h44 := h36.transNew hn
    clear h30 h31 h32 h33 h34 h35 h36 hn
    go_wp2
    go_ret
    exact ⟨rfl, h44⟩
  have hxa := hide h30.lt
  have hza := hide h33.lt
  have k45 : w29.cell? ⟨qx, 0, none⟩ = some (.bool bx) := h32.cell 0
  have k46 : w29.cell? ⟨qx, 1, none⟩ = some (.slice Ax mx.length cx) := h32.cell 1
  go_wp2_with fail
  clear k45 k46
  refine (negz_any _ a _ h30).mono ?_
  rintro e w52 ⟨f47, A48, n49, c50, rfl, hc51, hn⟩
  have h53 := h30.new_ hn
  have h54 := h31.new_ hn
  have h55 := h32.new_ hn
  have h56 := h33.new_ hn
  have h57 := h34.new_ hn
  have h58 := h35.new_ hn
  have h59 := h36.transNew hn
  clear h30 h31 h32 h33 h34 h35 h36 hn
  have hz60 : BigAt _ _ (-a) := hc51.big (by rw [Int.natAbs_neg]; exact hxa.out)
  clear hc51
  go_upto_region 6 with (fail)
  obtain ⟨w61, hw⟩ : ∃ w', w' = w52.alloc (.cells #[.bool f47, .slice A48 n49 c50] 24) := ⟨_, rfl⟩
  have hn : New w52 w61 := by rw [hw]; exact (Upd.refl _ _).alloc _
  have hb62 : Blk w61 w52.heap.size 24 [.bool f47, .slice A48 n49 c50] := by rw [hw]; exact Blk.new w52 _ _
  rw [← hw]
  clear hw
  obtain ⟨q63, hq⟩ : ∃ q, q = w52.heap.size := ⟨_, rfl⟩
  rw [← hq] at hb62 ⊢
  clear hq
  have h64 := h53.new_ hn
  have h65 := h54.new_ hn
  have h66 := h55.new_ hn
  have h67 := h56.new_ hn
  have h68 := h57.new_ hn
  have h69 := h58.new_ hn
  have h70 := h59.transNew hn
  have h71 := hz60.new_ hn
  clear h53 h54 h55 h56 h57 h58 h59 hz60 hn
  have k72 : w61.cell? ⟨qx, 0, none⟩ = some (.bool bx) := h66.cell 0
  have k73 : w61.cell? ⟨qx, 1, none⟩ = some (.slice Ax mx.length cx) := h66.cell 1
  have k74 : w61.cell? ⟨q63, 0, none⟩ = some (.bool f47) := hb62.cell 0
  have k75 : w61.cell? ⟨q63, 1, none⟩ = some (.slice A48 n49 c50) := hb62.cell 1
  go_wp2_with fail
  clear k72 k73 k74 k75
  refine (add_any _ _ a (-a) _ h64 h71).mono ?_
  rintro e w81 ⟨f76, A77, n78, c79, rfl, hc80, hn⟩
  have h82 := h64.new_ hn
  have h83 := h65.new_ hn
  have h84 := h66.new_ hn
  have h85 := h67.new_ hn
  have h86 := h68.new_ hn
  have h87 := h69.new_ hn
  have h88 := h70.transNew hn
  have h89 := h71.new_ hn
  have h90 := hb62.new_ hn
  clear h64 h65 h66 h67 h68 h69 h70 h71 hb62 hn
  rw [Int.add_right_neg, capI_of zero_abs] at hc80
  rw [Int.add_right_neg, okI_of zero_abs]
  have hz91 : BigAt _ _ (0) := hc80.big (zero_abs)
  clear hc80
  go_upto_region 7 with (fail)
  obtain ⟨w92, hw⟩ : ∃ w', w' = w81.alloc (.cells #[.bool f76, .slice A77 n78 c79] 24) := ⟨_, rfl⟩
  have hn : New w81 w92 := by rw [hw]; exact (Upd.refl _ _).alloc _
  have hb93 : Blk w92 w81.heap.size 24 [.bool f76, .slice A77 n78 c79] := by rw [hw]; exact Blk.new w81 _ _
  rw [← hw]
  clear hw
  obtain ⟨q94, hq⟩ : ∃ q, q = w81.heap.size := ⟨_, rfl⟩
  rw [← hq] at hb93 ⊢
  clear hq
  have h95 := h82.new_ hn
  have h96 := h83.new_ hn
  have h97 := h84.new_ hn
  have h98 := h85.new_ hn
  have h99 := h86.new_ hn
  have h100 := h87.new_ hn
  have h101 := h88.transNew hn
  have h102 := h89.new_ hn
  have h103 := h90.new_ hn
  have h104 := hz91.new_ hn
  clear h82 h83 h84 h85 h86 h87 h88 h89 h90 hz91 hn
  have k105 : w92.cell? ⟨qx, 0, none⟩ = some (.bool bx) := h97.cell 0
  have k106 : w92.cell? ⟨qx, 1, none⟩ = some (.slice Ax mx.length cx) := h97.cell 1
  have k107 : w92.cell? ⟨qz, 0, none⟩ = some (.bool bz) := h100.cell 0
  have k108 : w92.cell? ⟨qz, 1, none⟩ = some (.slice Az mz.length cz) := h100.cell 1
  go_wp2_with fail
  clear k105 k106 k107 k108
  refine (mul_any _ _ a b _ h95 h98).mono ?_
  rintro e w114 ⟨f109, A110, n111, c112, rfl, hc113, hn⟩
  have h115 := h95.new_ hn
  have h116 := h96.new_ hn
  have h117 := h97.new_ hn
  have h118 := h98.new_ hn
  have h119 := h99.new_ hn
  have h120 := h100.new_ hn
  have h121 := h101.transNew hn
  have h122 := h102.new_ hn
  have h123 := h103.new_ hn
  have h124 := h104.new_ hn
  have h125 := hb93.new_ hn
  clear h95 h96 h97 h98 h99 h100 h101 h102 h103 h104 hb93 hn
  obtain ⟨e1, hk⟩ : ∃ o, o = okI (a * b) := ⟨_, rfl⟩
  rw [← hk]
  have He1 := hide hk
  clear hk
  have hz126 : BigAt _ _ (capI (a * b)) := hc113.big (capI_lt _)
  clear hc113
  go_upto_region 8 with (fail)
  obtain ⟨w127, hw⟩ : ∃ w', w' = w114.alloc (.cells #[.bool f109, .slice A110 n111 c112] 24) := ⟨_, rfl⟩
  have hn : New w114 w127 := by rw [hw]; exact (Upd.refl _ _).alloc _
  have hb128 : Blk w127 w114.heap.size 24 [.bool f109, .slice A110 n111 c112] := by rw [hw]; exact Blk.new w114 _ _
  rw [← hw]
  clear hw
  obtain ⟨q129, hq⟩ : ∃ q, q = w114.heap.size := ⟨_, rfl⟩
  rw [← hq] at hb128 ⊢
  clear hq
  have h130 := h115.new_ hn
  have h131 := h116.new_ hn
  have h132 := h117.new_ hn
  have h133 := h118.new_ hn
  have h134 := h119.new_ hn
  have h135 := h120.new_ hn
  have h136 := h121.transNew hn
  have h137 := h122.new_ hn
  have h138 := h123.new_ hn
  have h139 := h124.new_ hn
  have h140 := h125.new_ hn
  have h141 := hz126.new_ hn
  clear h115 h116 h117 h118 h119 h120 h121 h122 h123 h124 h125 hz126 hn
  have k142 : w127.cell? ⟨q63, 0, none⟩ = some (.bool f47) := h138.cell 0
  have k143 : w127.cell? ⟨q63, 1, none⟩ = some (.slice A48 n49 c50) := h138.cell 1
  have k144 : w127.cell? ⟨qz, 0, none⟩ = some (.bool bz) := h135.cell 0
  have k145 : w127.cell? ⟨qz, 1, none⟩ = some (.slice Az mz.length cz) := h135.cell 1
  go_wp2_with fail
  clear k142 k143 k144 k145
  refine (mul_any _ _ (-a) b _ h137 h133).mono ?_
  rintro e w151 ⟨f146, A147, n148, c149, rfl, hc150, hn⟩
  have h152 := h130.new_ hn
  have h153 := h131.new_ hn
  have h154 := h132.new_ hn
  have h155 := h133.new_ hn
  have h156 := h134.new_ hn
  have h157 := h135.new_ hn
  have h158 := h136.transNew hn
  have h159 := h137.new_ hn
  have h160 := h138.new_ hn
  have h161 := h139.new_ hn
  have h162 := h140.new_ hn
  have h163 := h141.new_ hn
  have h164 := hb128.new_ hn
  clear h130 h131 h132 h133 h134 h135 h136 h137 h138 h139 h140 h141 hb128 hn
  rw [Int.neg_mul, capI_neg] at hc150
  rw [Int.neg_mul, okI_neg, ← He1.out]
  have hz165 : BigAt _ _ (-(capI (a * b))) := hc150.big (by rw [Int.natAbs_neg]; exact capI_lt _)
  clear hc150
  go_upto_region 9 with (fail)
  obtain ⟨w166, hw⟩ : ∃ w', w' = w151.alloc (.cells #[.bool f146, .slice A147 n148 c149] 24) := ⟨_, rfl⟩
  have hn : New w151 w166 := by rw [hw]; exact (Upd.refl _ _).alloc _
  have hb167 : Blk w166 w151.heap.size 24 [.bool f146, .slice A147 n148 c149] := by rw [hw]; exact Blk.new w151 _ _
  rw [← hw]
  clear hw
  obtain ⟨q168, hq⟩ : ∃ q, q = w151.heap.size := ⟨_, rfl⟩
  rw [← hq] at hb167 ⊢
  clear hq
  have h169 := h152.new_ hn
  have h170 := h153.new_ hn
  have h171 := h154.new_ hn
  have h172 := h155.new_ hn
  have h173 := h156.new_ hn
  have h174 := h157.new_ hn
  have h175 := h158.transNew hn
  have h176 := h159.new_ hn
  have h177 := h160.new_ hn
  have h178 := h161.new_ hn
  have h179 := h162.new_ hn
  have h180 := h163.new_ hn
  have h181 := h164.new_ hn
  have h182 := hz165.new_ hn
  clear h152 h153 h154 h155 h156 h157 h158 h159 h160 h161 h162 h163 h164 hz165 hn
  have k183 : w166.cell? ⟨qx, 0, none⟩ = some (.bool bx) := h171.cell 0
  have k184 : w166.cell? ⟨qx, 1, none⟩ = some (.slice Ax mx.length cx) := h171.cell 1
  have k185 : w166.cell? ⟨qz, 0, none⟩ = some (.bool bz) := h174.cell 0
  have k186 : w166.cell? ⟨qz, 1, none⟩ = some (.slice Az mz.length cz) := h174.cell 1
  go_wp2_with fail
  clear k183 k184 k185 k186
  refine (div_any _ _ a b _ h169 h172).mono ?_
  rintro e w192 ⟨f187, A188, n189, c190, rfl, hc191, hn⟩
  have h193 := h169.new_ hn
  have h194 := h170.new_ hn
  have h195 := h171.new_ hn
  have h196 := h172.new_ hn
  have h197 := h173.new_ hn
  have h198 := h174.new_ hn
  have h199 := h175.transNew hn
  have h200 := h176.new_ hn
  have h201 := h177.new_ hn
  have h202 := h178.new_ hn
  have h203 := h179.new_ hn
  have h204 := h180.new_ hn
  have h205 := h181.new_ hn
  have h206 := h182.new_ hn
  have h207 := hb167.new_ hn
  clear h169 h170 h171 h172 h173 h174 h175 h176 h177 h178 h179 h180 h181 h182 hb167 hn
  obtain ⟨er, hk⟩ : ∃ o, o = zeroE b := ⟨_, rfl⟩
  rw [← hk]
  have Her := hide hk
  clear hk
  have hz208 : BigAt _ _ (divZ a b) := hc191.big (Nat.lt_of_le_of_lt (divZ_abs a b) hxa.out)
  clear hc191
  go_upto_region 10 with (fail)
  obtain ⟨w209, hw⟩ : ∃ w', w' = w192.alloc (.cells #[.bool f187, .slice A188 n189 c190] 24) := ⟨_, rfl⟩
  have hn : New w192 w209 := by rw [hw]; exact (Upd.refl _ _).alloc _
  have hb210 : Blk w209 w192.heap.size 24 [.bool f187, .slice A188 n189 c190] := by rw [hw]; exact Blk.new w192 _ _
  rw [← hw]
  clear hw
  obtain ⟨q211, hq⟩ : ∃ q, q = w192.heap.size := ⟨_, rfl⟩
  rw [← hq] at hb210 ⊢
  clear hq
  have h212 := h193.new_ hn
  have h213 := h194.new_ hn
  have h214 := h195.new_ hn
  have h215 := h196.new_ hn
  have h216 := h197.new_ hn
  have h217 := h198.new_ hn
  have h218 := h199.transNew hn
  have h219 := h200.new_ hn
  have h220 := h201.new_ hn
  have h221 := h202.new_ hn
  have h222 := h203.new_ hn
  have h223 := h204.new_ hn
  have h224 := h205.new_ hn
  have h225 := h206.new_ hn
  have h226 := h207.new_ hn
  have h227 := hz208.new_ hn
  clear h193 h194 h195 h196 h197 h198 h199 h200 h201 h202 h203 h204 h205 h206 h207 hz208 hn
  have k228 : w209.cell? ⟨q63, 0, none⟩ = some (.bool f47) := h220.cell 0
  have k229 : w209.cell? ⟨q63, 1, none⟩ = some (.slice A48 n49 c50) := h220.cell 1
  have k230 : w209.cell? ⟨qz, 0, none⟩ = some (.bool bz) := h217.cell 0
  have k231 : w209.cell? ⟨qz, 1, none⟩ = some (.slice Az mz.length cz) := h217.cell 1
  go_wp2_with fail
  clear k228 k229 k230 k231
  refine (div_any _ _ (-a) b _ h219 h215).mono ?_
  rintro e w237 ⟨f232, A233, n234, c235, rfl, hc236, hn⟩
  have h238 := h212.new_ hn
  have h239 := h213.new_ hn
  have h240 := h214.new_ hn
  have h241 := h215.new_ hn
  have h242 := h216.new_ hn
  have h243 := h217.new_ hn
  have h244 := h218.transNew hn
  have h245 := h219.new_ hn
  have h246 := h220.new_ hn
  have h247 := h221.new_ hn
  have h248 := h222.new_ hn
  have h249 := h223.new_ hn
  have h250 := h224.new_ hn
  have h251 := h225.new_ hn
  have h252 := h226.new_ hn
  have h253 := h227.new_ hn
  have h254 := hb210.new_ hn
  clear h212 h213 h214 h215 h216 h217 h218 h219 h220 h221 h222 h223 h224 h225 h226 h227 hb210 hn
  rw [divZ_neg] at hc236
  rw [← Her.out]
  have hz255 : BigAt _ _ (-(divZ a b)) := hc236.big (by rw [Int.natAbs_neg]; exact Nat.lt_of_le_of_lt (divZ_abs a b) hxa.out)
  clear hc236
  go_upto_region 11 with (fail)
  obtain ⟨w256, hw⟩ : ∃ w', w' = w237.alloc (.cells #[.bool f232, .slice A233 n234 c235] 24) := ⟨_, rfl⟩
  have hn : New w237 w256 := by rw [hw]; exact (Upd.refl _ _).alloc _
  have hb257 : Blk w256 w237.heap.size 24 [.bool f232, .slice A233 n234 c235] := by rw [hw]; exact Blk.new w237 _ _
  rw [← hw]
  clear hw
  obtain ⟨q258, hq⟩ : ∃ q, q = w237.heap.size := ⟨_, rfl⟩
  rw [← hq] at hb257 ⊢
  clear hq
  have h259 := h238.new_ hn
  have h260 := h239.new_ hn
  have h261 := h240.new_ hn
  have h262 := h241.new_ hn
  have h263 := h242.new_ hn
  have h264 := h243.new_ hn
  have h265 := h244.transNew hn
  have h266 := h245.new_ hn
  have h267 := h246.new_ hn
  have h268 := h247.new_ hn
  have h269 := h248.new_ hn
  have h270 := h249.new_ hn
  have h271 := h250.new_ hn
  have h272 := h251.new_ hn
  have h273 := h252.new_ hn
  have h274 := h253.new_ hn
  have h275 := h254.new_ hn
  have h276 := hz255.new_ hn
  clear h238 h239 h240 h241 h242 h243 h244 h245 h246 h247 h248 h249 h250 h251 h252 h253 h254 hz255 hn
  have k277 : w256.cell? ⟨qx, 0, none⟩ = some (.bool bx) := h261.cell 0
  have k278 : w256.cell? ⟨qx, 1, none⟩ = some (.slice Ax mx.length cx) := h261.cell 1
  have k279 : w256.cell? ⟨qz, 0, none⟩ = some (.bool bz) := h264.cell 0
  have k280 : w256.cell? ⟨qz, 1, none⟩ = some (.slice Az mz.length cz) := h264.cell 1
  go_wp2_with fail
  clear k277 k278 k279 k280
  refine (rem_any _ _ a b _ h259 h262).mono ?_
  rintro e w286 ⟨f281, A282, n283, c284, rfl, hc285, hn⟩
  have h287 := h259.new_ hn
  have h288 := h260.new_ hn
  have h289 := h261.new_ hn
  have h290 := h262.new_ hn
  have h291 := h263.new_ hn
  have h292 := h264.new_ hn
  have h293 := h265.transNew hn
  have h294 := h266.new_ hn
  have h295 := h267.new_ hn
  have h296 := h268.new_ hn
  have h297 := h269.new_ hn
  have h298 := h270.new_ hn
  have h299 := h271.new_ hn
  have h300 := h272.new_ hn
  have h301 := h273.new_ hn
  have h302 := h274.new_ hn
  have h303 := h275.new_ hn
  have h304 := h276.new_ hn
  have h305 := hb257.new_ hn
  clear h259 h260 h261 h262 h263 h264 h265 h266 h267 h268 h269 h270 h271 h272 h273 h274 h275 h276 hb257 hn
  rw [← Her.out]
  have hz306 : BigAt _ _ (remZ a b) := hc285.big (Nat.lt_of_le_of_lt (remZ_abs a b) hxa.out)
  clear hc285
  go_upto_region 12 with (fail)
  obtain ⟨w307, hw⟩ : ∃ w', w' = w286.alloc (.cells #[.bool f281, .slice A282 n283 c284] 24) := ⟨_, rfl⟩
  have hn : New w286 w307 := by rw [hw]; exact (Upd.refl _ _).alloc _
  have hb308 : Blk w307 w286.heap.size 24 [.bool f281, .slice A282 n283 c284] := by rw [hw]; exact Blk.new w286 _ _
  rw [← hw]
  clear hw
  obtain ⟨q309, hq⟩ : ∃ q, q = w286.heap.size := ⟨_, rfl⟩
  rw [← hq] at hb308 ⊢
  clear hq
  have h310 := h287.new_ hn
  have h311 := h288.new_ hn
  have h312 := h289.new_ hn
  have h313 := h290.new_ hn
  have h314 := h291.new_ hn
  have h315 := h292.new_ hn
  have h316 := h293.transNew hn
  have h317 := h294.new_ hn
  have h318 := h295.new_ hn
  have h319 := h296.new_ hn
  have h320 := h297.new_ hn
  have h321 := h298.new_ hn
  have h322 := h299.new_ hn
  have h323 := h300.new_ hn
  have h324 := h301.new_ hn
  have h325 := h302.new_ hn
  have h326 := h303.new_ hn
  have h327 := h304.new_ hn
  have h328 := h305.new_ hn
  have h329 := hz306.new_ hn
  clear h287 h288 h289 h290 h291 h292 h293 h294 h295 h296 h297 h298 h299 h300 h301 h302 h303 h304 h305 hz306 hn
  refine wp_region_inv [true, true, true, true, true, true, true, true, false, false] [6] [(8, false), (9, true)] 137 (T12 w307 (.agg #[.bool f47, .slice A48 n49 c50]) (.agg #[.bool bz, .slice Az mz.length cz]) (-b) (-(remZ a b)) er) (by kernel_rfl) (by kernel_rfl) rfl (fun _ _ d _ _ h => by cases d <;> exact h) T12.new_ ?_ ?_ ?_
  · skip
    intro i hF hE
    match i with
    | 0 =>
      refine step_take rfl rfl fun ac w hw hk => ⟨.agg #[.bool f47, .slice A48 n49 c50], ?_, rfl⟩
      exact y_load2 (S := fun w => New w307 w) rfl ((hk.fix 5 (by kernel_rfl)).trans rfl) Try.isAgg24 Try.sizeOf24 (fun _ h => h318.new_ h) w hw
    | 1 =>
      refine step_take rfl rfl fun ac w hw hk => ⟨.agg #[.bool bz, .slice Az mz.length cz], ?_, rfl⟩
      exact y_load2 (S := fun w => New w307 w) rfl ((hk.fix 3 (by kernel_rfl)).trans rfl) Try.isAgg24 Try.sizeOf24 (fun _ h => h315.new_ h) w hw
    | 2 =>
      refine step_call rfl rfl rfl fun ac w hw hk => ?_
      have h1 : ac.eval (.tmp 71) = .agg #[.bool bz, .slice Az mz.length cz] := hk.dep 1 71 (by kernel_rfl) (by kernel_rfl)
      refine ⟨#[.agg #[.bool bz, .slice Az mz.length cz]], _, ?_, fun w => by kernel_rfl, negz_any _ b _ (h313.new_ hw), ?_⟩
      · show [ac.eval (.tmp 71)] = _; rw [h1]
      · rintro e w' ⟨f, A, n, c, rfl, hc, hn⟩; exact ⟨_, rfl, hn, ⟨f, A, n, c, rfl, hc⟩⟩
    | 3 =>
      refine step_call rfl rfl rfl fun ac w hw hk => ?_
      have h0 : ac.eval (.tmp 70) = .agg #[.bool f47, .slice A48 n49 c50] := hk.dep 0 70 (by kernel_rfl) (by kernel_rfl)
      obtain ⟨f, A, n, c, h2, hc⟩ : IsV (-b) (ac.eval (.tmp 72)) w := hk.dep 2 72 (by kernel_rfl) (by kernel_rfl)
      refine ⟨#[.agg #[.bool f47, .slice A48 n49 c50], .agg #[.bool f, .slice A n c]], _, ?_, fun w => by kernel_rfl, rem_any _ _ (-a) (-b) _ (h317.new_ hw) (hc.big (by rw [Int.natAbs_neg]; exact hza.out)), ?_⟩
      · show [ac.eval (.tmp 70), ac.eval (.tmp 72)] = _; rw [h0, h2]
      · rintro e w' ⟨f, A, n, c, rfl, hc, hn⟩
        rw [remZ_neg2] at hc
        rw [zeroE_neg, ← Her.out]
        exact ⟨_, rfl, hn, ⟨f, A, n, c, rfl, hc⟩⟩
    | 4 =>
      refine step_take rfl rfl fun ac w hw hk => ?_
      obtain ⟨f, A, n, c, h3, hc⟩ : IsVE (-(remZ a b)) er (ac.eval (.tmp 73)) w := hk.dep 3 73 (by kernel_rfl) (by kernel_rfl)
      exact ⟨_, y_move (S := fun _ => True) rfl h3 w trivial, ⟨f, A, n, c, rfl, hc⟩⟩
    | 5 =>
      refine step_take rfl rfl fun ac w hw hk => ?_
      obtain ⟨f, A, n, c, h3, hc⟩ : IsVE (-(remZ a b)) er (ac.eval (.tmp 69)) w := hk.dep 4 69 (by kernel_rfl) (by kernel_rfl)
      exact ⟨_, y_extract (S := fun _ => True) rfl h3 rfl w trivial, ⟨f, A, n, c, rfl, hc⟩⟩
    | 6 =>
      cases hE
    | 7 =>
      exact step_alloc (cs := [.bool false, .slice none 0 0]) (t := 24) rfl rfl (fun a w => rfl) (fun q w hq hb => ⟨q, rfl, hq, hb⟩)
    | 8 =>
      cases hF
    | 9 =>
      cases hF
    | _ + 10 => cases hF
  · skip
    intro i hE
    obtain rfl : i = 6 := by simpa using hE
    refine eager_take rfl rfl fun ac w hw hk => ?_
    obtain ⟨f, A, n, c, h3, hc⟩ : IsVE (-(remZ a b)) er (ac.eval (.tmp 69)) w := hk.dep 4 69 (by kernel_rfl) (by kernel_rfl)
    exact ⟨_, fun w => y_extract (S := fun _ => True) rfl h3 rfl w trivial, rfl⟩
  · skip
    have HN0 := h316
    intro vals w330 hn hTl
    have hv0 : vals 0 = _ := hTl 0 rfl
    have hv1 : vals 1 = _ := hTl 1 rfl
    obtain ⟨f2, A2, n2, c2, hv2, -⟩ : IsV (-b) (vals 2) w330 := hTl 2 rfl
    obtain ⟨f3, A3, n3, c3, hv3, -⟩ : IsVE (-(remZ a b)) er (vals 3) w330 := hTl 3 rfl
    obtain ⟨f4, A4, n4, c4, hv4, -⟩ : IsVE (-(remZ a b)) er (vals 4) w330 := hTl 4 rfl
    obtain ⟨f5, A5, n5, c5, hv5, hc5⟩ : IsV (-(remZ a b)) (vals 5) w330 := hTl 5 rfl
    have hv6 : vals 6 = .int .i64 er := hTl 6 rfl
    obtain ⟨q331, hv7, hq7, hb7⟩ : IsBox w307 (vals 7) w330 := hTl 7 rfl
    clear hTl
    simp only [putL, Act.put, List.setIfInBounds_toArray, List.set_cons_zero, List.set_cons_succ, hv0, hv1, hv2, hv3, hv4, hv5, hv6, hv7]
    clear hv0 hv1 hv2 hv3 hv4 hv5 hv6 hv7
    have hsz := h316.size
    have hl332 := h312.lt
    have hl333 := h315.lt
    have hl334 := h318.lt
    have hl335 := h320.lt
    have hl336 := h322.lt
    have hl337 := h324.lt
    have hl338 := h326.lt
    have hl339 := h328.lt
    have hl340 := hb308.lt
    have hS0 := hn
    have h341 := h310.new_ hn
    have h342 := h311.new_ hn
    have h343 := h312.new_ hn
    have h344 := h313.new_ hn
    have h345 := h314.new_ hn
    have h346 := h315.new_ hn
    have h347 := h316.transNew hn
    have h348 := h317.new_ hn
    have h349 := h318.new_ hn
    have h350 := h319.new_ hn
    have h351 := h320.new_ hn
    have h352 := h321.new_ hn
    have h353 := h322.new_ hn
    have h354 := h323.new_ hn
    have h355 := h324.new_ hn
    have h356 := h325.new_ hn
    have h357 := h326.new_ hn
    have h358 := h327.new_ hn
    have h359 := h328.new_ hn
    have h360 := h329.new_ hn
    have h361 := hb308.new_ hn
    clear h310 h311 h312 h313 h314 h315 h316 h317 h318 h319 h320 h321 h322 h323 h324 h325 h326 h327 h328 h329 hb308 hn
    obtain ⟨w362, hw, hN', hbt, hzt, hfar, hall⟩ := store_box hc5 (by rw [Int.natAbs_neg]; exact Nat.lt_of_le_of_lt (remZ_abs a b) hxa.out) hb7 hS0 hq7
    refine st_act rfl rfl fun K hK => a_store2 (b := q331) (off := 0) (v0 := .bool f5) (v1 := .slice A5 n5 c5) rfl rfl rfl Try.sizeOf24 rfl rfl rfl (hb7.cell 0) (hb7.frozen 0) ((hb7.set_ 0 (.bool f5)).cell 1) ((hb7.set_ 0 (.bool f5)).frozen 1) ?_
    rw [← hw]
    refine hK _ _ hN' ?_
    clear hw K hK hc5 hb7
    refine st_take (a' := ?_) rfl rfl (y_assign (v := .int .i64 er) rfl rfl) ?_ ?_
    rotate_left; (simp only [Act.put, List.setIfInBounds_toArray, List.set_cons_zero, List.set_cons_succ]; rfl)
    refine st_nil ?_
    have h363 := hall _ _ h341
    have hne : qx ≠ q331 := by have := hl332; omega
    have h365 := hfar _ _ _ hne h343
    clear hne
    have h366 := hall _ _ h344
    have hne : qz ≠ q331 := by have := hl333; omega
    have h368 := hfar _ _ _ hne h346
    clear hne
    have h369 := HN0.transNew hN'
    have h370 := hall _ _ h348
    have hne : q63 ≠ q331 := by have := hl334; omega
    have h371 := hfar _ _ _ hne h349
    clear hne
    have h372 := hall _ _ h350
    have hne : q94 ≠ q331 := by have := hl335; omega
    have h373 := hfar _ _ _ hne h351
    clear hne
    have h374 := hall _ _ h352
    have hne : q129 ≠ q331 := by have := hl336; omega
    have h375 := hfar _ _ _ hne h353
    clear hne
    have h376 := hall _ _ h354
    have hne : q168 ≠ q331 := by have := hl337; omega
    have h377 := hfar _ _ _ hne h355
    clear hne
    have h378 := hall _ _ h356
    have hne : q211 ≠ q331 := by have := hl338; omega
    have h379 := hfar _ _ _ hne h357
    clear hne
    have h380 := hall _ _ h358
    have hne : q258 ≠ q331 := by have := hl339; omega
    have h381 := hfar _ _ _ hne h359
    clear hne
    have h382 := hall _ _ h360
    have hne : q309 ≠ q331 := by have := hl340; omega
    have h383 := hfar _ _ _ hne h361
    clear hne
    clear hS0 hq7 hN' hfar hall hsz hl332 hl333 hl334 hl335 hl336 hl337 hl338 hl339 hl340 h341 h342 h343 h344 h345 h346 h347 h348 h349 h350 h351 h352 h353 h354 h355 h356 h357 h358 h359 h360 h361 HN0
    go_upto_region 13 with (fail)
    have h2 : er = 4 ∨ er = 0 := by rw [Her.out]; exact zeroE_two b
    have Her' := Her
    clear Her Her'
    rcases h2 with rfl | rfl
    · skip
      clear He1
      cases e1
      · skip
        have hS : ∀ w', New w362 w' → (Blk w' q63 24 [.bool f47, .slice A48 n49 c50] ∧ Blk w' qx 24 [.bool bx, .slice Ax mx.length cx] ∧ Blk w' q94 24 [.bool f76, .slice A77 n78 c79]) := fun w' hn => ⟨h371.new_ hn, h365.new_ hn, h373.new_ hn⟩
        refine wp_region_dm (fun w' => Blk w' q63 24 [.bool f47, .slice A48 n49 c50] ∧ Blk w' qx 24 [.bool bx, .slice Ax mx.length cx] ∧ Blk w' q94 24 [.bool f76, .slice A77 n78 c79]) [(0, false), (1, true), (2, true), (4, true), (3, false), (5, false), (6, true), (7, true), (8, true), (9, true), (10, true), (11, true), (12, false), (13, false), (14, true), (15, true), (16, true), (17, true), (18, true), (19, true), (20, true), (21, true), (22, true), (23, true), (24, true), (25, true), (26, true), (27, true), (28, true), (29, true), (30, true), (31, true), (32, true), (33, true), (34, true), (35, true), (36, true), (37, true), (38, true), (39, true), (40, true), (41, true), (42, true), (43, true), (44, true), (45, true), (46, true), (47, true), (48, true), (49, true), (50, true), (51, true), (52, true), (53, true), (54, true), (55, true), (56, true), (57, true), (58, true), (59, true), (60, true), (61, true)] (by kernel_rfl) (by kernel_rfl) (fun _ _ d _ _ h => by cases d <;> exact h) (hS _ (Upd.refl _ _).drew) ?_
        refine st_act rfl rfl fun K hK => a_call (args := #[]) rfl rfl (fun w => by kernel_rfl) (first_any _) ?_
        rintro e w100 ⟨rfl, hm100⟩
        have hq1_1 := (show New _ _ from (Upd.refl _ _).drew).transNew hm100
        refine ⟨_, rfl, hK _ _ (hS _ hq1_1) ?_⟩
        simp only [Act.put, List.setIfInBounds_toArray, List.set_cons_zero, List.set_cons_succ]
        refine st_take (a' := ?_) rfl rfl (y_move (v := .bool true) rfl rfl) ?_ ?_
        rotate_left; (simp only [Act.put, List.setIfInBounds_toArray, List.set_cons_zero, List.set_cons_succ]; rfl)
        refine st_take (a' := ?_) rfl rfl (y_load2 rfl rfl Try.isAgg24 Try.sizeOf24 (fun _ h => h.1)) ?_ ?_
        rotate_left; (simp only [Act.put, List.setIfInBounds_toArray, List.set_cons_zero, List.set_cons_succ]; rfl)
        refine st_take (a' := ?_) rfl rfl (y_load2 rfl rfl Try.isAgg24 Try.sizeOf24 (fun _ h => h.2.1)) ?_ ?_
        rotate_left; (simp only [Act.put, List.setIfInBounds_toArray, List.set_cons_zero, List.set_cons_succ]; rfl)
        refine st_act rfl rfl fun K hK => a_call (args := #[.agg #[.bool f47, .slice A48 n49 c50]]) rfl rfl (fun w => by kernel_rfl) (negz_any _ (-a) _ (h370.new_ hq1_1)) ?_
        rintro e w101 ⟨f101, A101, n101, c101, rfl, hc101, hm101⟩
        have hq1_2 := (show New _ _ from hq1_1).transNew hm101
        refine ⟨_, rfl, hK _ _ (hS _ hq1_2) ?_⟩
        simp only [Act.put, List.setIfInBounds_toArray, List.set_cons_zero, List.set_cons_succ]
        refine st_act rfl rfl fun K hK => a_call (args := #[.agg #[.bool f101, .slice A101 n101 c101], .agg #[.bool bx, .slice Ax mx.length cx]]) rfl rfl (fun w => by kernel_rfl) (same_any _ _ (- -a) a _ (hc101.big (by rw [Int.neg_neg]; exact hxa.out)) (h363.new_ hq1_2)) ?_
        rintro e w102 ⟨rfl, hm102⟩
        rw [decide_eq_true (Int.neg_neg a)]
        have hq1_3 := (show New _ _ from hq1_2).transNew hm102
        refine ⟨_, rfl, hK _ _ (hS _ hq1_3) ?_⟩
        simp only [Act.put, List.setIfInBounds_toArray, List.set_cons_zero, List.set_cons_succ]
        refine st_take (a' := ?_) rfl rfl (y_pick (b := true) (v := .bool true) rfl rfl rfl) ?_ ?_
        rotate_left; (simp only [Act.put, List.setIfInBounds_toArray, List.set_cons_zero, List.set_cons_succ]; rfl)
        refine st_take (a' := ?_) rfl rfl (y_move (v := .bool true) rfl rfl) ?_ ?_
        rotate_left; (simp only [Act.put, List.setIfInBounds_toArray, List.set_cons_zero, List.set_cons_succ]; rfl)
        refine st_take (a' := ?_) rfl rfl (y_move (v := .bool true) rfl rfl) ?_ ?_
        rotate_left; (simp only [Act.put, List.setIfInBounds_toArray, List.set_cons_zero, List.set_cons_succ]; rfl)
        refine st_take (a' := ?_) rfl rfl (y_pick (b := true) (v := .bool true) rfl rfl rfl) ?_ ?_
        rotate_left; (simp only [Act.put, List.setIfInBounds_toArray, List.set_cons_zero, List.set_cons_succ]; rfl)
        refine st_take (a' := ?_) rfl rfl (y_move (v := .bool true) rfl rfl) ?_ ?_
        rotate_left; (simp only [Act.put, List.setIfInBounds_toArray, List.set_cons_zero, List.set_cons_succ]; rfl)
        refine st_take (a' := ?_) rfl rfl (y_load2 rfl rfl Try.isAgg24 Try.sizeOf24 (fun _ h => h.2.2)) ?_ ?_
        rotate_left; (simp only [Act.put, List.setIfInBounds_toArray, List.set_cons_zero, List.set_cons_succ]; rfl)
        refine st_act rfl rfl fun K hK => a_call (args := #[.int .i64 0]) rfl rfl (fun w => by kernel_rfl) (of_any 0 _ zero_lo zero_hi) ?_
        rintro e w103 ⟨f103, A103, n103, c103, rfl, hc103, hm103⟩
        have hq1_4 := (show New _ _ from hq1_3).transNew hm103
        refine ⟨_, rfl, hK _ _ (hS _ hq1_4) ?_⟩
        simp only [Act.put, List.setIfInBounds_toArray, List.set_cons_zero, List.set_cons_succ]
        refine st_act rfl rfl fun K hK => a_call (args := #[.agg #[.bool f76, .slice A77 n78 c79], .agg #[.bool f103, .slice A103 n103 c103]]) rfl rfl (fun w => by kernel_rfl) (same_any _ _ (0) (0) _ (h372.new_ hq1_4) (hc103.big (zero_abs))) ?_
        rintro e w104 ⟨rfl, hm104⟩
        rw [decide_eq_true (rfl : (0 : Int) = 0)]
        have hq1_5 := (show New _ _ from hq1_4).transNew hm104
        refine ⟨_, rfl, hK _ _ (hS _ hq1_5) ?_⟩
        simp only [Act.put, List.setIfInBounds_toArray, List.set_cons_zero, List.set_cons_succ]
        refine st_take (a' := ?_) rfl rfl (y_pick (b := true) (v := .bool true) rfl rfl rfl) ?_ ?_
        rotate_left; (simp only [Act.put, List.setIfInBounds_toArray, List.set_cons_zero, List.set_cons_succ]; rfl)
        refine st_take (a' := ?_) rfl rfl (y_move (v := .bool true) rfl rfl) ?_ ?_
        rotate_left; (simp only [Act.put, List.setIfInBounds_toArray, List.set_cons_zero, List.set_cons_succ]; rfl)
        refine st_take (a' := ?_) rfl rfl (y_move (v := .bool false) rfl rfl) ?_ ?_
        rotate_left; (simp only [Act.put, List.setIfInBounds_toArray, List.set_cons_zero, List.set_cons_succ]; rfl)
        refine st_take (a' := ?_) rfl rfl (y_move (v := .bool false) rfl rfl) ?_ ?_
        rotate_left; (simp only [Act.put, List.setIfInBounds_toArray, List.set_cons_zero, List.set_cons_succ]; rfl)
        refine st_take (a' := ?_) rfl rfl (y_run (v := .bool true) fun w => by kernel_rfl) ?_ ?_
        rotate_left; (simp only [Act.put, List.setIfInBounds_toArray, List.set_cons_zero, List.set_cons_succ]; rfl)
        refine st_take (a' := ?_) rfl rfl (y_pick (b := true) (v := .bool true) rfl rfl rfl) ?_ ?_
        rotate_left; (simp only [Act.put, List.setIfInBounds_toArray, List.set_cons_zero, List.set_cons_succ]; rfl)
        refine st_take (a' := ?_) rfl rfl (y_move (v := .bool true) rfl rfl) ?_ ?_
        rotate_left; (simp only [Act.put, List.setIfInBounds_toArray, List.set_cons_zero, List.set_cons_succ]; rfl)
        refine st_take (a' := ?_) rfl rfl (y_move (v := .bool false) rfl rfl) ?_ ?_
        rotate_left; (simp only [Act.put, List.setIfInBounds_toArray, List.set_cons_zero, List.set_cons_succ]; rfl)
        refine st_take (a' := ?_) rfl rfl (y_run (v := .bool true) fun w => by kernel_rfl) ?_ ?_
        rotate_left; (simp only [Act.put, List.setIfInBounds_toArray, List.set_cons_zero, List.set_cons_succ]; rfl)
        refine st_take (a' := ?_) rfl rfl (y_move (v := .bool true) rfl rfl) ?_ ?_
        rotate_left; (simp only [Act.put, List.setIfInBounds_toArray, List.set_cons_zero, List.set_cons_succ]; rfl)
        refine st_skip (a' := ?_) rfl rfl ?_ ?_
        rotate_left; (simp only [Act.put, List.setIfInBounds_toArray, List.set_cons_zero, List.set_cons_succ]; rfl)
        refine st_skip (a' := ?_) rfl rfl ?_ ?_
        rotate_left; (simp only [Act.put, List.setIfInBounds_toArray, List.set_cons_zero, List.set_cons_succ]; rfl)
        refine st_skip (a' := ?_) rfl rfl ?_ ?_
        rotate_left; (simp only [Act.put, List.setIfInBounds_toArray, List.set_cons_zero, List.set_cons_succ]; rfl)
        refine st_skip (a' := ?_) rfl rfl ?_ ?_
        rotate_left; (simp only [Act.put, List.setIfInBounds_toArray, List.set_cons_zero, List.set_cons_succ]; rfl)
        refine st_take (a' := ?_) rfl rfl (y_pick (b := true) (v := .bool true) rfl rfl rfl) ?_ ?_
        rotate_left; (simp only [Act.put, List.setIfInBounds_toArray, List.set_cons_zero, List.set_cons_succ]; rfl)
        refine st_take (a' := ?_) rfl rfl (y_pick (b := true) (v := .bool true) rfl rfl rfl) ?_ ?_
        rotate_left; (simp only [Act.put, List.setIfInBounds_toArray, List.set_cons_zero, List.set_cons_succ]; rfl)
        refine st_take (a' := ?_) rfl rfl (y_move (v := .bool true) rfl rfl) ?_ ?_
        rotate_left; (simp only [Act.put, List.setIfInBounds_toArray, List.set_cons_zero, List.set_cons_succ]; rfl)
        refine st_take (a' := ?_) rfl rfl (y_move (v := .int .i64 4) rfl rfl) ?_ ?_
        rotate_left; (simp only [Act.put, List.setIfInBounds_toArray, List.set_cons_zero, List.set_cons_succ]; rfl)
        refine st_take (a' := ?_) rfl rfl (y_move (v := .int .i64 4) rfl rfl) ?_ ?_
        rotate_left; (simp only [Act.put, List.setIfInBounds_toArray, List.set_cons_zero, List.set_cons_succ]; rfl)
        refine st_take (a' := ?_) rfl rfl (y_run (v := .bool true) fun w => by kernel_rfl) ?_ ?_
        rotate_left; (simp only [Act.put, List.setIfInBounds_toArray, List.set_cons_zero, List.set_cons_succ]; rfl)
        refine st_take (a' := ?_) rfl rfl (y_pick (b := true) (v := .bool true) rfl rfl rfl) ?_ ?_
        rotate_left; (simp only [Act.put, List.setIfInBounds_toArray, List.set_cons_zero, List.set_cons_succ]; rfl)
        refine st_take (a' := ?_) rfl rfl (y_move (v := .bool true) rfl rfl) ?_ ?_
        rotate_left; (simp only [Act.put, List.setIfInBounds_toArray, List.set_cons_zero, List.set_cons_succ]; rfl)
        refine st_take (a' := ?_) rfl rfl (y_move (v := .int .i64 4) rfl rfl) ?_ ?_
        rotate_left; (simp only [Act.put, List.setIfInBounds_toArray, List.set_cons_zero, List.set_cons_succ]; rfl)
        refine st_take (a' := ?_) rfl rfl (y_move (v := .int .i64 4) rfl rfl) ?_ ?_
        rotate_left; (simp only [Act.put, List.setIfInBounds_toArray, List.set_cons_zero, List.set_cons_succ]; rfl)
        refine st_take (a' := ?_) rfl rfl (y_run (v := .bool true) fun w => by kernel_rfl) ?_ ?_
        rotate_left; (simp only [Act.put, List.setIfInBounds_toArray, List.set_cons_zero, List.set_cons_succ]; rfl)
        refine st_take (a' := ?_) rfl rfl (y_pick (b := true) (v := .bool true) rfl rfl rfl) ?_ ?_
        rotate_left; (simp only [Act.put, List.setIfInBounds_toArray, List.set_cons_zero, List.set_cons_succ]; rfl)
        refine st_take (a' := ?_) rfl rfl (y_move (v := .bool true) rfl rfl) ?_ ?_
        rotate_left; (simp only [Act.put, List.setIfInBounds_toArray, List.set_cons_zero, List.set_cons_succ]; rfl)
        refine st_take (a' := ?_) rfl rfl (y_move (v := .int .i64 4) rfl rfl) ?_ ?_
        rotate_left; (simp only [Act.put, List.setIfInBounds_toArray, List.set_cons_zero, List.set_cons_succ]; rfl)
        refine st_take (a' := ?_) rfl rfl (y_move (v := .int .i64 4) rfl rfl) ?_ ?_
        rotate_left; (simp only [Act.put, List.setIfInBounds_toArray, List.set_cons_zero, List.set_cons_succ]; rfl)
        refine st_take (a' := ?_) rfl rfl (y_run (v := .bool true) fun w => by kernel_rfl) ?_ ?_
        rotate_left; (simp only [Act.put, List.setIfInBounds_toArray, List.set_cons_zero, List.set_cons_succ]; rfl)
        refine st_take (a' := ?_) rfl rfl (y_pick (b := true) (v := .bool true) rfl rfl rfl) ?_ ?_
        rotate_left; (simp only [Act.put, List.setIfInBounds_toArray, List.set_cons_zero, List.set_cons_succ]; rfl)
        refine st_take (a' := ?_) rfl rfl (y_move (v := .bool true) rfl rfl) ?_ ?_
        rotate_left; (simp only [Act.put, List.setIfInBounds_toArray, List.set_cons_zero, List.set_cons_succ]; rfl)
        refine st_take (a' := ?_) rfl rfl (y_move (v := .int .i64 4) rfl rfl) ?_ ?_
        rotate_left; (simp only [Act.put, List.setIfInBounds_toArray, List.set_cons_zero, List.set_cons_succ]; rfl)
        refine st_take (a' := ?_) rfl rfl (y_run (v := .bool true) fun w => by kernel_rfl) ?_ ?_
        rotate_left; (simp only [Act.put, List.setIfInBounds_toArray, List.set_cons_zero, List.set_cons_succ]; rfl)
        refine st_take (a' := ?_) rfl rfl (y_move (v := .bool true) rfl rfl) ?_ ?_
        rotate_left; (simp only [Act.put, List.setIfInBounds_toArray, List.set_cons_zero, List.set_cons_succ]; rfl)
        refine st_skip (a' := ?_) rfl rfl ?_ ?_
        rotate_left; (simp only [Act.put, List.setIfInBounds_toArray, List.set_cons_zero, List.set_cons_succ]; rfl)
        refine st_skip (a' := ?_) rfl rfl ?_ ?_
        rotate_left; (simp only [Act.put, List.setIfInBounds_toArray, List.set_cons_zero, List.set_cons_succ]; rfl)
        refine st_skip (a' := ?_) rfl rfl ?_ ?_
        rotate_left; (simp only [Act.put, List.setIfInBounds_toArray, List.set_cons_zero, List.set_cons_succ]; rfl)
        refine st_skip (a' := ?_) rfl rfl ?_ ?_
        rotate_left; (simp only [Act.put, List.setIfInBounds_toArray, List.set_cons_zero, List.set_cons_succ]; rfl)
        refine st_skip (a' := ?_) rfl rfl ?_ ?_
        rotate_left; (simp only [Act.put, List.setIfInBounds_toArray, List.set_cons_zero, List.set_cons_succ]; rfl)
        refine st_skip (a' := ?_) rfl rfl ?_ ?_
        rotate_left; (simp only [Act.put, List.setIfInBounds_toArray, List.set_cons_zero, List.set_cons_succ]; rfl)
        refine st_skip (a' := ?_) rfl rfl ?_ ?_
        rotate_left; (simp only [Act.put, List.setIfInBounds_toArray, List.set_cons_zero, List.set_cons_succ]; rfl)
        refine st_skip (a' := ?_) rfl rfl ?_ ?_
        rotate_left; (simp only [Act.put, List.setIfInBounds_toArray, List.set_cons_zero, List.set_cons_succ]; rfl)
        refine st_skip (a' := ?_) rfl rfl ?_ ?_
        rotate_left; (simp only [Act.put, List.setIfInBounds_toArray, List.set_cons_zero, List.set_cons_succ]; rfl)
        refine st_skip (a' := ?_) rfl rfl ?_ ?_
        rotate_left; (simp only [Act.put, List.setIfInBounds_toArray, List.set_cons_zero, List.set_cons_succ]; rfl)
        refine st_take (a' := ?_) rfl rfl (y_pick (b := true) (v := .bool true) rfl rfl rfl) ?_ ?_
        rotate_left; (simp only [Act.put, List.setIfInBounds_toArray, List.set_cons_zero, List.set_cons_succ]; rfl)
        refine st_take (a' := ?_) rfl rfl (y_pick (b := true) (v := .bool true) rfl rfl rfl) ?_ ?_
        rotate_left; (simp only [Act.put, List.setIfInBounds_toArray, List.set_cons_zero, List.set_cons_succ]; rfl)
        refine st_take (a' := ?_) rfl rfl (y_assign (v := .bool true) rfl rfl) ?_ ?_
        rotate_left; (simp only [Act.put, List.setIfInBounds_toArray, List.set_cons_zero, List.set_cons_succ]; rfl)
        refine st_nil ?_
        have hd384 := (show New _ _ from hq1_5)
        clear hS hq1_1 hq1_2 hq1_3 hq1_4 hq1_5
        have h385 := h363.new_ hd384
        have h386 := h365.new_ hd384
        have h387 := h369.transNew hd384
        have h388 := h370.new_ hd384
        have h389 := h371.new_ hd384
        have h390 := h372.new_ hd384
        have h391 := h373.new_ hd384
        clear h363 h365 h369 h370 h371 h372 h373 hd384
        go_wp2
        go_ret
        exact ⟨rfl, h387⟩
      · skip
        have hS : ∀ w', New w362 w' → (Blk w' q63 24 [.bool f47, .slice A48 n49 c50] ∧ Blk w' qx 24 [.bool bx, .slice Ax mx.length cx] ∧ Blk w' q94 24 [.bool f76, .slice A77 n78 c79] ∧ Blk w' q168 24 [.bool f146, .slice A147 n148 c149] ∧ Blk w' q129 24 [.bool f109, .slice A110 n111 c112]) := fun w' hn => ⟨h371.new_ hn, h365.new_ hn, h373.new_ hn, h377.new_ hn, h375.new_ hn⟩
        refine wp_region_dm (fun w' => Blk w' q63 24 [.bool f47, .slice A48 n49 c50] ∧ Blk w' qx 24 [.bool bx, .slice Ax mx.length cx] ∧ Blk w' q94 24 [.bool f76, .slice A77 n78 c79] ∧ Blk w' q168 24 [.bool f146, .slice A147 n148 c149] ∧ Blk w' q129 24 [.bool f109, .slice A110 n111 c112]) [(0, false), (1, true), (2, true), (4, true), (3, false), (5, false), (6, true), (7, true), (8, true), (9, true), (10, true), (11, true), (12, false), (13, false), (14, true), (15, true), (16, true), (17, true), (18, true), (19, true), (20, true), (21, true), (22, true), (23, true), (24, true), (25, true), (26, false), (27, false), (28, true), (29, true), (30, true), (31, true), (32, true), (33, true), (34, true), (35, true), (36, true), (37, true), (38, true), (39, true), (40, true), (41, true), (42, true), (43, true), (44, true), (45, true), (46, true), (47, true), (48, true), (49, true), (50, true), (51, true), (52, true), (53, true), (54, true), (55, true), (56, true), (57, true), (58, true), (59, true), (60, true), (61, true)] (by kernel_rfl) (by kernel_rfl) (fun _ _ d _ _ h => by cases d <;> exact h) (hS _ (Upd.refl _ _).drew) ?_
        refine st_act rfl rfl fun K hK => a_call (args := #[]) rfl rfl (fun w => by kernel_rfl) (first_any _) ?_
        rintro e w100 ⟨rfl, hm100⟩
        have hq2_1 := (show New _ _ from (Upd.refl _ _).drew).transNew hm100
        refine ⟨_, rfl, hK _ _ (hS _ hq2_1) ?_⟩
        simp only [Act.put, List.setIfInBounds_toArray, List.set_cons_zero, List.set_cons_succ]
        refine st_take (a' := ?_) rfl rfl (y_move (v := .bool true) rfl rfl) ?_ ?_
        rotate_left; (simp only [Act.put, List.setIfInBounds_toArray, List.set_cons_zero, List.set_cons_succ]; rfl)
        refine st_take (a' := ?_) rfl rfl (y_load2 rfl rfl Try.isAgg24 Try.sizeOf24 (fun _ h => h.1)) ?_ ?_
        rotate_left; (simp only [Act.put, List.setIfInBounds_toArray, List.set_cons_zero, List.set_cons_succ]; rfl)
        refine st_take (a' := ?_) rfl rfl (y_load2 rfl rfl Try.isAgg24 Try.sizeOf24 (fun _ h => h.2.1)) ?_ ?_
        rotate_left; (simp only [Act.put, List.setIfInBounds_toArray, List.set_cons_zero, List.set_cons_succ]; rfl)
        refine st_act rfl rfl fun K hK => a_call (args := #[.agg #[.bool f47, .slice A48 n49 c50]]) rfl rfl (fun w => by kernel_rfl) (negz_any _ (-a) _ (h370.new_ hq2_1)) ?_
        rintro e w101 ⟨f101, A101, n101, c101, rfl, hc101, hm101⟩
        have hq2_2 := (show New _ _ from hq2_1).transNew hm101
        refine ⟨_, rfl, hK _ _ (hS _ hq2_2) ?_⟩
        simp only [Act.put, List.setIfInBounds_toArray, List.set_cons_zero, List.set_cons_succ]
        refine st_act rfl rfl fun K hK => a_call (args := #[.agg #[.bool f101, .slice A101 n101 c101], .agg #[.bool bx, .slice Ax mx.length cx]]) rfl rfl (fun w => by kernel_rfl) (same_any _ _ (- -a) a _ (hc101.big (by rw [Int.neg_neg]; exact hxa.out)) (h363.new_ hq2_2)) ?_
        rintro e w102 ⟨rfl, hm102⟩
        rw [decide_eq_true (Int.neg_neg a)]
        have hq2_3 := (show New _ _ from hq2_2).transNew hm102
        refine ⟨_, rfl, hK _ _ (hS _ hq2_3) ?_⟩
        simp only [Act.put, List.setIfInBounds_toArray, List.set_cons_zero, List.set_cons_succ]
        refine st_take (a' := ?_) rfl rfl (y_pick (b := true) (v := .bool true) rfl rfl rfl) ?_ ?_
        rotate_left; (simp only [Act.put, List.setIfInBounds_toArray, List.set_cons_zero, List.set_cons_succ]; rfl)
        refine st_take (a' := ?_) rfl rfl (y_move (v := .bool true) rfl rfl) ?_ ?_
        rotate_left; (simp only [Act.put, List.setIfInBounds_toArray, List.set_cons_zero, List.set_cons_succ]; rfl)
        refine st_take (a' := ?_) rfl rfl (y_move (v := .bool true) rfl rfl) ?_ ?_
        rotate_left; (simp only [Act.put, List.setIfInBounds_toArray, List.set_cons_zero, List.set_cons_succ]; rfl)
        refine st_take (a' := ?_) rfl rfl (y_pick (b := true) (v := .bool true) rfl rfl rfl) ?_ ?_
        rotate_left; (simp only [Act.put, List.setIfInBounds_toArray, List.set_cons_zero, List.set_cons_succ]; rfl)
        refine st_take (a' := ?_) rfl rfl (y_move (v := .bool true) rfl rfl) ?_ ?_
        rotate_left; (simp only [Act.put, List.setIfInBounds_toArray, List.set_cons_zero, List.set_cons_succ]; rfl)
        refine st_take (a' := ?_) rfl rfl (y_load2 rfl rfl Try.isAgg24 Try.sizeOf24 (fun _ h => h.2.2.1)) ?_ ?_
        rotate_left; (simp only [Act.put, List.setIfInBounds_toArray, List.set_cons_zero, List.set_cons_succ]; rfl)
        refine st_act rfl rfl fun K hK => a_call (args := #[.int .i64 0]) rfl rfl (fun w => by kernel_rfl) (of_any 0 _ zero_lo zero_hi) ?_
        rintro e w103 ⟨f103, A103, n103, c103, rfl, hc103, hm103⟩
        have hq2_4 := (show New _ _ from hq2_3).transNew hm103
        refine ⟨_, rfl, hK _ _ (hS _ hq2_4) ?_⟩
        simp only [Act.put, List.setIfInBounds_toArray, List.set_cons_zero, List.set_cons_succ]
        refine st_act rfl rfl fun K hK => a_call (args := #[.agg #[.bool f76, .slice A77 n78 c79], .agg #[.bool f103, .slice A103 n103 c103]]) rfl rfl (fun w => by kernel_rfl) (same_any _ _ (0) (0) _ (h372.new_ hq2_4) (hc103.big (zero_abs))) ?_
        rintro e w104 ⟨rfl, hm104⟩
        rw [decide_eq_true (rfl : (0 : Int) = 0)]
        have hq2_5 := (show New _ _ from hq2_4).transNew hm104
        refine ⟨_, rfl, hK _ _ (hS _ hq2_5) ?_⟩
        simp only [Act.put, List.setIfInBounds_toArray, List.set_cons_zero, List.set_cons_succ]
        refine st_take (a' := ?_) rfl rfl (y_pick (b := true) (v := .bool true) rfl rfl rfl) ?_ ?_
        rotate_left; (simp only [Act.put, List.setIfInBounds_toArray, List.set_cons_zero, List.set_cons_succ]; rfl)
        refine st_take (a' := ?_) rfl rfl (y_move (v := .bool true) rfl rfl) ?_ ?_
        rotate_left; (simp only [Act.put, List.setIfInBounds_toArray, List.set_cons_zero, List.set_cons_succ]; rfl)
        refine st_take (a' := ?_) rfl rfl (y_move (v := .bool true) rfl rfl) ?_ ?_
        rotate_left; (simp only [Act.put, List.setIfInBounds_toArray, List.set_cons_zero, List.set_cons_succ]; rfl)
        refine st_take (a' := ?_) rfl rfl (y_move (v := .bool true) rfl rfl) ?_ ?_
        rotate_left; (simp only [Act.put, List.setIfInBounds_toArray, List.set_cons_zero, List.set_cons_succ]; rfl)
        refine st_take (a' := ?_) rfl rfl (y_run (v := .bool true) fun w => by kernel_rfl) ?_ ?_
        rotate_left; (simp only [Act.put, List.setIfInBounds_toArray, List.set_cons_zero, List.set_cons_succ]; rfl)
        refine st_take (a' := ?_) rfl rfl (y_pick (b := true) (v := .bool true) rfl rfl rfl) ?_ ?_
        rotate_left; (simp only [Act.put, List.setIfInBounds_toArray, List.set_cons_zero, List.set_cons_succ]; rfl)
        refine st_take (a' := ?_) rfl rfl (y_move (v := .bool true) rfl rfl) ?_ ?_
        rotate_left; (simp only [Act.put, List.setIfInBounds_toArray, List.set_cons_zero, List.set_cons_succ]; rfl)
        refine st_take (a' := ?_) rfl rfl (y_move (v := .bool true) rfl rfl) ?_ ?_
        rotate_left; (simp only [Act.put, List.setIfInBounds_toArray, List.set_cons_zero, List.set_cons_succ]; rfl)
        refine st_take (a' := ?_) rfl rfl (y_run (v := .bool false) fun w => by kernel_rfl) ?_ ?_
        rotate_left; (simp only [Act.put, List.setIfInBounds_toArray, List.set_cons_zero, List.set_cons_succ]; rfl)
        refine st_take (a' := ?_) rfl rfl (y_move (v := .bool false) rfl rfl) ?_ ?_
        rotate_left; (simp only [Act.put, List.setIfInBounds_toArray, List.set_cons_zero, List.set_cons_succ]; rfl)
        refine st_take (a' := ?_) rfl rfl (y_load2 rfl rfl Try.isAgg24 Try.sizeOf24 (fun _ h => h.2.2.2.1)) ?_ ?_
        rotate_left; (simp only [Act.put, List.setIfInBounds_toArray, List.set_cons_zero, List.set_cons_succ]; rfl)
        refine st_take (a' := ?_) rfl rfl (y_load2 rfl rfl Try.isAgg24 Try.sizeOf24 (fun _ h => h.2.2.2.2)) ?_ ?_
        rotate_left; (simp only [Act.put, List.setIfInBounds_toArray, List.set_cons_zero, List.set_cons_succ]; rfl)
        refine st_act rfl rfl fun K hK => a_call (args := #[.agg #[.bool f109, .slice A110 n111 c112]]) rfl rfl (fun w => by kernel_rfl) (negz_any _ (capI (a * b)) _ (h374.new_ hq2_5)) ?_
        rintro e w105 ⟨f105, A105, n105, c105, rfl, hc105, hm105⟩
        have hq2_6 := (show New _ _ from hq2_5).transNew hm105
        refine ⟨_, rfl, hK _ _ (hS _ hq2_6) ?_⟩
        simp only [Act.put, List.setIfInBounds_toArray, List.set_cons_zero, List.set_cons_succ]
        refine st_act rfl rfl fun K hK => a_call (args := #[.agg #[.bool f146, .slice A147 n148 c149], .agg #[.bool f105, .slice A105 n105 c105]]) rfl rfl (fun w => by kernel_rfl) (same_any _ _ (-(capI (a * b))) (-(capI (a * b))) _ (h376.new_ hq2_6) (hc105.big (by rw [Int.natAbs_neg]; exact capI_lt _))) ?_
        rintro e w106 ⟨rfl, hm106⟩
        rw [decide_eq_true (rfl : -(capI (a * b)) = -(capI (a * b)))]
        have hq2_7 := (show New _ _ from hq2_6).transNew hm106
        refine ⟨_, rfl, hK _ _ (hS _ hq2_7) ?_⟩
        simp only [Act.put, List.setIfInBounds_toArray, List.set_cons_zero, List.set_cons_succ]
        refine st_take (a' := ?_) rfl rfl (y_pick (b := false) (v := .bool true) rfl rfl rfl) ?_ ?_
        rotate_left; (simp only [Act.put, List.setIfInBounds_toArray, List.set_cons_zero, List.set_cons_succ]; rfl)
        refine st_take (a' := ?_) rfl rfl (y_pick (b := true) (v := .bool true) rfl rfl rfl) ?_ ?_
        rotate_left; (simp only [Act.put, List.setIfInBounds_toArray, List.set_cons_zero, List.set_cons_succ]; rfl)
        refine st_take (a' := ?_) rfl rfl (y_move (v := .bool true) rfl rfl) ?_ ?_
        rotate_left; (simp only [Act.put, List.setIfInBounds_toArray, List.set_cons_zero, List.set_cons_succ]; rfl)
        refine st_take (a' := ?_) rfl rfl (y_move (v := .int .i64 4) rfl rfl) ?_ ?_
        rotate_left; (simp only [Act.put, List.setIfInBounds_toArray, List.set_cons_zero, List.set_cons_succ]; rfl)
        refine st_take (a' := ?_) rfl rfl (y_move (v := .int .i64 4) rfl rfl) ?_ ?_
        rotate_left; (simp only [Act.put, List.setIfInBounds_toArray, List.set_cons_zero, List.set_cons_succ]; rfl)
        refine st_take (a' := ?_) rfl rfl (y_run (v := .bool true) fun w => by kernel_rfl) ?_ ?_
        rotate_left; (simp only [Act.put, List.setIfInBounds_toArray, List.set_cons_zero, List.set_cons_succ]; rfl)
        refine st_take (a' := ?_) rfl rfl (y_pick (b := true) (v := .bool true) rfl rfl rfl) ?_ ?_
        rotate_left; (simp only [Act.put, List.setIfInBounds_toArray, List.set_cons_zero, List.set_cons_succ]; rfl)
        refine st_take (a' := ?_) rfl rfl (y_move (v := .bool true) rfl rfl) ?_ ?_
        rotate_left; (simp only [Act.put, List.setIfInBounds_toArray, List.set_cons_zero, List.set_cons_succ]; rfl)
        refine st_take (a' := ?_) rfl rfl (y_move (v := .int .i64 4) rfl rfl) ?_ ?_
        rotate_left; (simp only [Act.put, List.setIfInBounds_toArray, List.set_cons_zero, List.set_cons_succ]; rfl)
        refine st_take (a' := ?_) rfl rfl (y_move (v := .int .i64 4) rfl rfl) ?_ ?_
        rotate_left; (simp only [Act.put, List.setIfInBounds_toArray, List.set_cons_zero, List.set_cons_succ]; rfl)
        refine st_take (a' := ?_) rfl rfl (y_run (v := .bool true) fun w => by kernel_rfl) ?_ ?_
        rotate_left; (simp only [Act.put, List.setIfInBounds_toArray, List.set_cons_zero, List.set_cons_succ]; rfl)
        refine st_take (a' := ?_) rfl rfl (y_pick (b := true) (v := .bool true) rfl rfl rfl) ?_ ?_
        rotate_left; (simp only [Act.put, List.setIfInBounds_toArray, List.set_cons_zero, List.set_cons_succ]; rfl)
        refine st_take (a' := ?_) rfl rfl (y_move (v := .bool true) rfl rfl) ?_ ?_
        rotate_left; (simp only [Act.put, List.setIfInBounds_toArray, List.set_cons_zero, List.set_cons_succ]; rfl)
        refine st_take (a' := ?_) rfl rfl (y_move (v := .int .i64 4) rfl rfl) ?_ ?_
        rotate_left; (simp only [Act.put, List.setIfInBounds_toArray, List.set_cons_zero, List.set_cons_succ]; rfl)
        refine st_take (a' := ?_) rfl rfl (y_move (v := .int .i64 4) rfl rfl) ?_ ?_
        rotate_left; (simp only [Act.put, List.setIfInBounds_toArray, List.set_cons_zero, List.set_cons_succ]; rfl)
        refine st_take (a' := ?_) rfl rfl (y_run (v := .bool true) fun w => by kernel_rfl) ?_ ?_
        rotate_left; (simp only [Act.put, List.setIfInBounds_toArray, List.set_cons_zero, List.set_cons_succ]; rfl)
        refine st_take (a' := ?_) rfl rfl (y_pick (b := true) (v := .bool true) rfl rfl rfl) ?_ ?_
        rotate_left; (simp only [Act.put, List.setIfInBounds_toArray, List.set_cons_zero, List.set_cons_succ]; rfl)
        refine st_take (a' := ?_) rfl rfl (y_move (v := .bool true) rfl rfl) ?_ ?_
        rotate_left; (simp only [Act.put, List.setIfInBounds_toArray, List.set_cons_zero, List.set_cons_succ]; rfl)
        refine st_take (a' := ?_) rfl rfl (y_move (v := .int .i64 4) rfl rfl) ?_ ?_
        rotate_left; (simp only [Act.put, List.setIfInBounds_toArray, List.set_cons_zero, List.set_cons_succ]; rfl)
        refine st_take (a' := ?_) rfl rfl (y_run (v := .bool true) fun w => by kernel_rfl) ?_ ?_
        rotate_left; (simp only [Act.put, List.setIfInBounds_toArray, List.set_cons_zero, List.set_cons_succ]; rfl)
        refine st_take (a' := ?_) rfl rfl (y_move (v := .bool true) rfl rfl) ?_ ?_
        rotate_left; (simp only [Act.put, List.setIfInBounds_toArray, List.set_cons_zero, List.set_cons_succ]; rfl)
        refine st_skip (a' := ?_) rfl rfl ?_ ?_
        rotate_left; (simp only [Act.put, List.setIfInBounds_toArray, List.set_cons_zero, List.set_cons_succ]; rfl)
        refine st_skip (a' := ?_) rfl rfl ?_ ?_
        rotate_left; (simp only [Act.put, List.setIfInBounds_toArray, List.set_cons_zero, List.set_cons_succ]; rfl)
        refine st_skip (a' := ?_) rfl rfl ?_ ?_
        rotate_left; (simp only [Act.put, List.setIfInBounds_toArray, List.set_cons_zero, List.set_cons_succ]; rfl)
        refine st_skip (a' := ?_) rfl rfl ?_ ?_
        rotate_left; (simp only [Act.put, List.setIfInBounds_toArray, List.set_cons_zero, List.set_cons_succ]; rfl)
        refine st_skip (a' := ?_) rfl rfl ?_ ?_
        rotate_left; (simp only [Act.put, List.setIfInBounds_toArray, List.set_cons_zero, List.set_cons_succ]; rfl)
        refine st_skip (a' := ?_) rfl rfl ?_ ?_
        rotate_left; (simp only [Act.put, List.setIfInBounds_toArray, List.set_cons_zero, List.set_cons_succ]; rfl)
        refine st_skip (a' := ?_) rfl rfl ?_ ?_
        rotate_left; (simp only [Act.put, List.setIfInBounds_toArray, List.set_cons_zero, List.set_cons_succ]; rfl)
        refine st_skip (a' := ?_) rfl rfl ?_ ?_
        rotate_left; (simp only [Act.put, List.setIfInBounds_toArray, List.set_cons_zero, List.set_cons_succ]; rfl)
        refine st_skip (a' := ?_) rfl rfl ?_ ?_
        rotate_left; (simp only [Act.put, List.setIfInBounds_toArray, List.set_cons_zero, List.set_cons_succ]; rfl)
        refine st_skip (a' := ?_) rfl rfl ?_ ?_
        rotate_left; (simp only [Act.put, List.setIfInBounds_toArray, List.set_cons_zero, List.set_cons_succ]; rfl)
        refine st_take (a' := ?_) rfl rfl (y_pick (b := true) (v := .bool true) rfl rfl rfl) ?_ ?_
        rotate_left; (simp only [Act.put, List.setIfInBounds_toArray, List.set_cons_zero, List.set_cons_succ]; rfl)
        refine st_take (a' := ?_) rfl rfl (y_pick (b := true) (v := .bool true) rfl rfl rfl) ?_ ?_
        rotate_left; (simp only [Act.put, List.setIfInBounds_toArray, List.set_cons_zero, List.set_cons_succ]; rfl)
        refine st_take (a' := ?_) rfl rfl (y_assign (v := .bool true) rfl rfl) ?_ ?_
        rotate_left; (simp only [Act.put, List.setIfInBounds_toArray, List.set_cons_zero, List.set_cons_succ]; rfl)
        refine st_nil ?_
        have hd392 := (show New _ _ from hq2_7)
        clear hS hq2_1 hq2_2 hq2_3 hq2_4 hq2_5 hq2_6 hq2_7
        have h393 := h363.new_ hd392
        have h394 := h365.new_ hd392
        have h395 := h369.transNew hd392
        have h396 := h370.new_ hd392
        have h397 := h371.new_ hd392
        have h398 := h372.new_ hd392
        have h399 := h373.new_ hd392
        have h400 := h374.new_ hd392
        have h401 := h375.new_ hd392
        have h402 := h376.new_ hd392
        have h403 := h377.new_ hd392
        clear h363 h365 h369 h370 h371 h372 h373 h374 h375 h376 h377 hd392
        go_wp2
        go_ret
        exact ⟨rfl, h395⟩
    · skip
      clear He1
      cases e1
      · skip
        have hS : ∀ w', New w362 w' → (Blk w' q63 24 [.bool f47, .slice A48 n49 c50] ∧ Blk w' qx 24 [.bool bx, .slice Ax mx.length cx] ∧ Blk w' q94 24 [.bool f76, .slice A77 n78 c79] ∧ Blk w' q258 24 [.bool f232, .slice A233 n234 c235] ∧ Blk w' q211 24 [.bool f187, .slice A188 n189 c190] ∧ Blk w' q331 24 [.bool f5, .slice A5 n5 c5] ∧ Blk w' q309 24 [.bool f281, .slice A282 n283 c284]) := fun w' hn => ⟨h371.new_ hn, h365.new_ hn, h373.new_ hn, h381.new_ hn, h379.new_ hn, hbt.new_ hn, h383.new_ hn⟩
        refine wp_region_dm (fun w' => Blk w' q63 24 [.bool f47, .slice A48 n49 c50] ∧ Blk w' qx 24 [.bool bx, .slice Ax mx.length cx] ∧ Blk w' q94 24 [.bool f76, .slice A77 n78 c79] ∧ Blk w' q258 24 [.bool f232, .slice A233 n234 c235] ∧ Blk w' q211 24 [.bool f187, .slice A188 n189 c190] ∧ Blk w' q331 24 [.bool f5, .slice A5 n5 c5] ∧ Blk w' q309 24 [.bool f281, .slice A282 n283 c284]) [(0, false), (1, true), (2, true), (4, true), (3, false), (5, false), (6, true), (7, true), (8, true), (9, true), (10, true), (11, true), (12, false), (13, false), (14, true), (15, true), (16, true), (17, true), (18, true), (19, true), (20, true), (21, true), (22, true), (23, true), (24, true), (25, true), (26, true), (27, true), (28, true), (29, true), (30, true), (31, true), (32, true), (33, true), (34, true), (35, true), (36, true), (37, true), (38, true), (39, true), (40, true), (41, true), (42, true), (43, true), (44, true), (45, true), (46, true), (47, true), (48, true), (49, true), (50, true), (51, false), (52, false), (53, true), (54, true), (55, true), (56, false), (57, false), (58, true), (59, true), (60, true), (61, true)] (by kernel_rfl) (by kernel_rfl) (fun _ _ d _ _ h => by cases d <;> exact h) (hS _ (Upd.refl _ _).drew) ?_
        refine st_act rfl rfl fun K hK => a_call (args := #[]) rfl rfl (fun w => by kernel_rfl) (first_any _) ?_
        rintro e w100 ⟨rfl, hm100⟩
        have hq3_1 := (show New _ _ from (Upd.refl _ _).drew).transNew hm100
        refine ⟨_, rfl, hK _ _ (hS _ hq3_1) ?_⟩
        simp only [Act.put, List.setIfInBounds_toArray, List.set_cons_zero, List.set_cons_succ]
        refine st_take (a' := ?_) rfl rfl (y_move (v := .bool true) rfl rfl) ?_ ?_
        rotate_left; (simp only [Act.put, List.setIfInBounds_toArray, List.set_cons_zero, List.set_cons_succ]; rfl)
        refine st_take (a' := ?_) rfl rfl (y_load2 rfl rfl Try.isAgg24 Try.sizeOf24 (fun _ h => h.1)) ?_ ?_
        rotate_left; (simp only [Act.put, List.setIfInBounds_toArray, List.set_cons_zero, List.set_cons_succ]; rfl)
        refine st_take (a' := ?_) rfl rfl (y_load2 rfl rfl Try.isAgg24 Try.sizeOf24 (fun _ h => h.2.1)) ?_ ?_
        rotate_left; (simp only [Act.put, List.setIfInBounds_toArray, List.set_cons_zero, List.set_cons_succ]; rfl)
        refine st_act rfl rfl fun K hK => a_call (args := #[.agg #[.bool f47, .slice A48 n49 c50]]) rfl rfl (fun w => by kernel_rfl) (negz_any _ (-a) _ (h370.new_ hq3_1)) ?_
        rintro e w101 ⟨f101, A101, n101, c101, rfl, hc101, hm101⟩
        have hq3_2 := (show New _ _ from hq3_1).transNew hm101
        refine ⟨_, rfl, hK _ _ (hS _ hq3_2) ?_⟩
        simp only [Act.put, List.setIfInBounds_toArray, List.set_cons_zero, List.set_cons_succ]
        refine st_act rfl rfl fun K hK => a_call (args := #[.agg #[.bool f101, .slice A101 n101 c101], .agg #[.bool bx, .slice Ax mx.length cx]]) rfl rfl (fun w => by kernel_rfl) (same_any _ _ (- -a) a _ (hc101.big (by rw [Int.neg_neg]; exact hxa.out)) (h363.new_ hq3_2)) ?_
        rintro e w102 ⟨rfl, hm102⟩
        rw [decide_eq_true (Int.neg_neg a)]
        have hq3_3 := (show New _ _ from hq3_2).transNew hm102
        refine ⟨_, rfl, hK _ _ (hS _ hq3_3) ?_⟩
        simp only [Act.put, List.setIfInBounds_toArray, List.set_cons_zero, List.set_cons_succ]
        refine st_take (a' := ?_) rfl rfl (y_pick (b := true) (v := .bool true) rfl rfl rfl) ?_ ?_
        rotate_left; (simp only [Act.put, List.setIfInBounds_toArray, List.set_cons_zero, List.set_cons_succ]; rfl)
        refine st_take (a' := ?_) rfl rfl (y_move (v := .bool true) rfl rfl) ?_ ?_
        rotate_left; (simp only [Act.put, List.setIfInBounds_toArray, List.set_cons_zero, List.set_cons_succ]; rfl)
        refine st_take (a' := ?_) rfl rfl (y_move (v := .bool true) rfl rfl) ?_ ?_
        rotate_left; (simp only [Act.put, List.setIfInBounds_toArray, List.set_cons_zero, List.set_cons_succ]; rfl)
        refine st_take (a' := ?_) rfl rfl (y_pick (b := true) (v := .bool true) rfl rfl rfl) ?_ ?_
        rotate_left; (simp only [Act.put, List.setIfInBounds_toArray, List.set_cons_zero, List.set_cons_succ]; rfl)
        refine st_take (a' := ?_) rfl rfl (y_move (v := .bool true) rfl rfl) ?_ ?_
        rotate_left; (simp only [Act.put, List.setIfInBounds_toArray, List.set_cons_zero, List.set_cons_succ]; rfl)
        refine st_take (a' := ?_) rfl rfl (y_load2 rfl rfl Try.isAgg24 Try.sizeOf24 (fun _ h => h.2.2.1)) ?_ ?_
        rotate_left; (simp only [Act.put, List.setIfInBounds_toArray, List.set_cons_zero, List.set_cons_succ]; rfl)
        refine st_act rfl rfl fun K hK => a_call (args := #[.int .i64 0]) rfl rfl (fun w => by kernel_rfl) (of_any 0 _ zero_lo zero_hi) ?_
        rintro e w103 ⟨f103, A103, n103, c103, rfl, hc103, hm103⟩
        have hq3_4 := (show New _ _ from hq3_3).transNew hm103
        refine ⟨_, rfl, hK _ _ (hS _ hq3_4) ?_⟩
        simp only [Act.put, List.setIfInBounds_toArray, List.set_cons_zero, List.set_cons_succ]
        refine st_act rfl rfl fun K hK => a_call (args := #[.agg #[.bool f76, .slice A77 n78 c79], .agg #[.bool f103, .slice A103 n103 c103]]) rfl rfl (fun w => by kernel_rfl) (same_any _ _ (0) (0) _ (h372.new_ hq3_4) (hc103.big (zero_abs))) ?_
        rintro e w104 ⟨rfl, hm104⟩
        rw [decide_eq_true (rfl : (0 : Int) = 0)]
        have hq3_5 := (show New _ _ from hq3_4).transNew hm104
        refine ⟨_, rfl, hK _ _ (hS _ hq3_5) ?_⟩
        simp only [Act.put, List.setIfInBounds_toArray, List.set_cons_zero, List.set_cons_succ]
        refine st_take (a' := ?_) rfl rfl (y_pick (b := true) (v := .bool true) rfl rfl rfl) ?_ ?_
        rotate_left; (simp only [Act.put, List.setIfInBounds_toArray, List.set_cons_zero, List.set_cons_succ]; rfl)
        refine st_take (a' := ?_) rfl rfl (y_move (v := .bool true) rfl rfl) ?_ ?_
        rotate_left; (simp only [Act.put, List.setIfInBounds_toArray, List.set_cons_zero, List.set_cons_succ]; rfl)
        refine st_take (a' := ?_) rfl rfl (y_move (v := .bool false) rfl rfl) ?_ ?_
        rotate_left; (simp only [Act.put, List.setIfInBounds_toArray, List.set_cons_zero, List.set_cons_succ]; rfl)
        refine st_take (a' := ?_) rfl rfl (y_move (v := .bool false) rfl rfl) ?_ ?_
        rotate_left; (simp only [Act.put, List.setIfInBounds_toArray, List.set_cons_zero, List.set_cons_succ]; rfl)
        refine st_take (a' := ?_) rfl rfl (y_run (v := .bool true) fun w => by kernel_rfl) ?_ ?_
        rotate_left; (simp only [Act.put, List.setIfInBounds_toArray, List.set_cons_zero, List.set_cons_succ]; rfl)
        refine st_take (a' := ?_) rfl rfl (y_pick (b := true) (v := .bool true) rfl rfl rfl) ?_ ?_
        rotate_left; (simp only [Act.put, List.setIfInBounds_toArray, List.set_cons_zero, List.set_cons_succ]; rfl)
        refine st_take (a' := ?_) rfl rfl (y_move (v := .bool true) rfl rfl) ?_ ?_
        rotate_left; (simp only [Act.put, List.setIfInBounds_toArray, List.set_cons_zero, List.set_cons_succ]; rfl)
        refine st_take (a' := ?_) rfl rfl (y_move (v := .bool false) rfl rfl) ?_ ?_
        rotate_left; (simp only [Act.put, List.setIfInBounds_toArray, List.set_cons_zero, List.set_cons_succ]; rfl)
        refine st_take (a' := ?_) rfl rfl (y_run (v := .bool true) fun w => by kernel_rfl) ?_ ?_
        rotate_left; (simp only [Act.put, List.setIfInBounds_toArray, List.set_cons_zero, List.set_cons_succ]; rfl)
        refine st_take (a' := ?_) rfl rfl (y_move (v := .bool true) rfl rfl) ?_ ?_
        rotate_left; (simp only [Act.put, List.setIfInBounds_toArray, List.set_cons_zero, List.set_cons_succ]; rfl)
        refine st_skip (a' := ?_) rfl rfl ?_ ?_
        rotate_left; (simp only [Act.put, List.setIfInBounds_toArray, List.set_cons_zero, List.set_cons_succ]; rfl)
        refine st_skip (a' := ?_) rfl rfl ?_ ?_
        rotate_left; (simp only [Act.put, List.setIfInBounds_toArray, List.set_cons_zero, List.set_cons_succ]; rfl)
        refine st_skip (a' := ?_) rfl rfl ?_ ?_
        rotate_left; (simp only [Act.put, List.setIfInBounds_toArray, List.set_cons_zero, List.set_cons_succ]; rfl)
        refine st_skip (a' := ?_) rfl rfl ?_ ?_
        rotate_left; (simp only [Act.put, List.setIfInBounds_toArray, List.set_cons_zero, List.set_cons_succ]; rfl)
        refine st_take (a' := ?_) rfl rfl (y_pick (b := true) (v := .bool true) rfl rfl rfl) ?_ ?_
        rotate_left; (simp only [Act.put, List.setIfInBounds_toArray, List.set_cons_zero, List.set_cons_succ]; rfl)
        refine st_take (a' := ?_) rfl rfl (y_pick (b := true) (v := .bool true) rfl rfl rfl) ?_ ?_
        rotate_left; (simp only [Act.put, List.setIfInBounds_toArray, List.set_cons_zero, List.set_cons_succ]; rfl)
        refine st_take (a' := ?_) rfl rfl (y_move (v := .bool true) rfl rfl) ?_ ?_
        rotate_left; (simp only [Act.put, List.setIfInBounds_toArray, List.set_cons_zero, List.set_cons_succ]; rfl)
        refine st_take (a' := ?_) rfl rfl (y_move (v := .int .i64 0) rfl rfl) ?_ ?_
        rotate_left; (simp only [Act.put, List.setIfInBounds_toArray, List.set_cons_zero, List.set_cons_succ]; rfl)
        refine st_take (a' := ?_) rfl rfl (y_move (v := .int .i64 0) rfl rfl) ?_ ?_
        rotate_left; (simp only [Act.put, List.setIfInBounds_toArray, List.set_cons_zero, List.set_cons_succ]; rfl)
        refine st_take (a' := ?_) rfl rfl (y_run (v := .bool true) fun w => by kernel_rfl) ?_ ?_
        rotate_left; (simp only [Act.put, List.setIfInBounds_toArray, List.set_cons_zero, List.set_cons_succ]; rfl)
        refine st_take (a' := ?_) rfl rfl (y_pick (b := true) (v := .bool true) rfl rfl rfl) ?_ ?_
        rotate_left; (simp only [Act.put, List.setIfInBounds_toArray, List.set_cons_zero, List.set_cons_succ]; rfl)
        refine st_take (a' := ?_) rfl rfl (y_move (v := .bool true) rfl rfl) ?_ ?_
        rotate_left; (simp only [Act.put, List.setIfInBounds_toArray, List.set_cons_zero, List.set_cons_succ]; rfl)
        refine st_take (a' := ?_) rfl rfl (y_move (v := .int .i64 0) rfl rfl) ?_ ?_
        rotate_left; (simp only [Act.put, List.setIfInBounds_toArray, List.set_cons_zero, List.set_cons_succ]; rfl)
        refine st_take (a' := ?_) rfl rfl (y_move (v := .int .i64 0) rfl rfl) ?_ ?_
        rotate_left; (simp only [Act.put, List.setIfInBounds_toArray, List.set_cons_zero, List.set_cons_succ]; rfl)
        refine st_take (a' := ?_) rfl rfl (y_run (v := .bool true) fun w => by kernel_rfl) ?_ ?_
        rotate_left; (simp only [Act.put, List.setIfInBounds_toArray, List.set_cons_zero, List.set_cons_succ]; rfl)
        refine st_take (a' := ?_) rfl rfl (y_pick (b := true) (v := .bool true) rfl rfl rfl) ?_ ?_
        rotate_left; (simp only [Act.put, List.setIfInBounds_toArray, List.set_cons_zero, List.set_cons_succ]; rfl)
        refine st_take (a' := ?_) rfl rfl (y_move (v := .bool true) rfl rfl) ?_ ?_
        rotate_left; (simp only [Act.put, List.setIfInBounds_toArray, List.set_cons_zero, List.set_cons_succ]; rfl)
        refine st_take (a' := ?_) rfl rfl (y_move (v := .int .i64 0) rfl rfl) ?_ ?_
        rotate_left; (simp only [Act.put, List.setIfInBounds_toArray, List.set_cons_zero, List.set_cons_succ]; rfl)
        refine st_take (a' := ?_) rfl rfl (y_move (v := .int .i64 0) rfl rfl) ?_ ?_
        rotate_left; (simp only [Act.put, List.setIfInBounds_toArray, List.set_cons_zero, List.set_cons_succ]; rfl)
        refine st_take (a' := ?_) rfl rfl (y_run (v := .bool true) fun w => by kernel_rfl) ?_ ?_
        rotate_left; (simp only [Act.put, List.setIfInBounds_toArray, List.set_cons_zero, List.set_cons_succ]; rfl)
        refine st_take (a' := ?_) rfl rfl (y_pick (b := true) (v := .bool true) rfl rfl rfl) ?_ ?_
        rotate_left; (simp only [Act.put, List.setIfInBounds_toArray, List.set_cons_zero, List.set_cons_succ]; rfl)
        refine st_take (a' := ?_) rfl rfl (y_move (v := .bool true) rfl rfl) ?_ ?_
        rotate_left; (simp only [Act.put, List.setIfInBounds_toArray, List.set_cons_zero, List.set_cons_succ]; rfl)
        refine st_take (a' := ?_) rfl rfl (y_move (v := .int .i64 0) rfl rfl) ?_ ?_
        rotate_left; (simp only [Act.put, List.setIfInBounds_toArray, List.set_cons_zero, List.set_cons_succ]; rfl)
        refine st_take (a' := ?_) rfl rfl (y_run (v := .bool false) fun w => by kernel_rfl) ?_ ?_
        rotate_left; (simp only [Act.put, List.setIfInBounds_toArray, List.set_cons_zero, List.set_cons_succ]; rfl)
        refine st_take (a' := ?_) rfl rfl (y_move (v := .bool false) rfl rfl) ?_ ?_
        rotate_left; (simp only [Act.put, List.setIfInBounds_toArray, List.set_cons_zero, List.set_cons_succ]; rfl)
        refine st_take (a' := ?_) rfl rfl (y_load2 rfl rfl Try.isAgg24 Try.sizeOf24 (fun _ h => h.2.2.2.1)) ?_ ?_
        rotate_left; (simp only [Act.put, List.setIfInBounds_toArray, List.set_cons_zero, List.set_cons_succ]; rfl)
        refine st_take (a' := ?_) rfl rfl (y_load2 rfl rfl Try.isAgg24 Try.sizeOf24 (fun _ h => h.2.2.2.2.1)) ?_ ?_
        rotate_left; (simp only [Act.put, List.setIfInBounds_toArray, List.set_cons_zero, List.set_cons_succ]; rfl)
        refine st_act rfl rfl fun K hK => a_call (args := #[.agg #[.bool f187, .slice A188 n189 c190]]) rfl rfl (fun w => by kernel_rfl) (negz_any _ (divZ a b) _ (h378.new_ hq3_5)) ?_
        rintro e w107 ⟨f107, A107, n107, c107, rfl, hc107, hm107⟩
        have hq3_6 := (show New _ _ from hq3_5).transNew hm107
        refine ⟨_, rfl, hK _ _ (hS _ hq3_6) ?_⟩
        simp only [Act.put, List.setIfInBounds_toArray, List.set_cons_zero, List.set_cons_succ]
        refine st_act rfl rfl fun K hK => a_call (args := #[.agg #[.bool f232, .slice A233 n234 c235], .agg #[.bool f107, .slice A107 n107 c107]]) rfl rfl (fun w => by kernel_rfl) (same_any _ _ (-(divZ a b)) (-(divZ a b)) _ (h380.new_ hq3_6) (hc107.big (by rw [Int.natAbs_neg]; exact Nat.lt_of_le_of_lt (divZ_abs a b) hxa.out))) ?_
        rintro e w108 ⟨rfl, hm108⟩
        rw [decide_eq_true (rfl : -(divZ a b) = -(divZ a b))]
        have hq3_7 := (show New _ _ from hq3_6).transNew hm108
        refine ⟨_, rfl, hK _ _ (hS _ hq3_7) ?_⟩
        simp only [Act.put, List.setIfInBounds_toArray, List.set_cons_zero, List.set_cons_succ]
        refine st_take (a' := ?_) rfl rfl (y_move (v := .bool true) rfl rfl) ?_ ?_
        rotate_left; (simp only [Act.put, List.setIfInBounds_toArray, List.set_cons_zero, List.set_cons_succ]; rfl)
        refine st_take (a' := ?_) rfl rfl (y_load2 rfl rfl Try.isAgg24 Try.sizeOf24 (fun _ h => h.2.2.2.2.2.1)) ?_ ?_
        rotate_left; (simp only [Act.put, List.setIfInBounds_toArray, List.set_cons_zero, List.set_cons_succ]; rfl)
        refine st_take (a' := ?_) rfl rfl (y_load2 rfl rfl Try.isAgg24 Try.sizeOf24 (fun _ h => h.2.2.2.2.2.2)) ?_ ?_
        rotate_left; (simp only [Act.put, List.setIfInBounds_toArray, List.set_cons_zero, List.set_cons_succ]; rfl)
        refine st_act rfl rfl fun K hK => a_call (args := #[.agg #[.bool f281, .slice A282 n283 c284]]) rfl rfl (fun w => by kernel_rfl) (negz_any _ (remZ a b) _ (h382.new_ hq3_7)) ?_
        rintro e w109 ⟨f109, A109, n109, c109, rfl, hc109, hm109⟩
        have hq3_8 := (show New _ _ from hq3_7).transNew hm109
        refine ⟨_, rfl, hK _ _ (hS _ hq3_8) ?_⟩
        simp only [Act.put, List.setIfInBounds_toArray, List.set_cons_zero, List.set_cons_succ]
        refine st_act rfl rfl fun K hK => a_call (args := #[.agg #[.bool f5, .slice A5 n5 c5], .agg #[.bool f109, .slice A109 n109 c109]]) rfl rfl (fun w => by kernel_rfl) (same_any _ _ (-(remZ a b)) (-(remZ a b)) _ (hzt.new_ hq3_8) (hc109.big (by rw [Int.natAbs_neg]; exact Nat.lt_of_le_of_lt (remZ_abs a b) hxa.out))) ?_
        rintro e w110 ⟨rfl, hm110⟩
        rw [decide_eq_true (rfl : -(remZ a b) = -(remZ a b))]
        have hq3_9 := (show New _ _ from hq3_8).transNew hm110
        refine ⟨_, rfl, hK _ _ (hS _ hq3_9) ?_⟩
        simp only [Act.put, List.setIfInBounds_toArray, List.set_cons_zero, List.set_cons_succ]
        refine st_take (a' := ?_) rfl rfl (y_pick (b := true) (v := .bool true) rfl rfl rfl) ?_ ?_
        rotate_left; (simp only [Act.put, List.setIfInBounds_toArray, List.set_cons_zero, List.set_cons_succ]; rfl)
        refine st_take (a' := ?_) rfl rfl (y_pick (b := false) (v := .bool true) rfl rfl rfl) ?_ ?_
        rotate_left; (simp only [Act.put, List.setIfInBounds_toArray, List.set_cons_zero, List.set_cons_succ]; rfl)
        refine st_take (a' := ?_) rfl rfl (y_pick (b := true) (v := .bool true) rfl rfl rfl) ?_ ?_
        rotate_left; (simp only [Act.put, List.setIfInBounds_toArray, List.set_cons_zero, List.set_cons_succ]; rfl)
        refine st_take (a' := ?_) rfl rfl (y_assign (v := .bool true) rfl rfl) ?_ ?_
        rotate_left; (simp only [Act.put, List.setIfInBounds_toArray, List.set_cons_zero, List.set_cons_succ]; rfl)
        refine st_nil ?_
        have hd404 := (show New _ _ from hq3_9)
        clear hS hq3_1 hq3_2 hq3_3 hq3_4 hq3_5 hq3_6 hq3_7 hq3_8 hq3_9
        have h405 := h363.new_ hd404
        have h406 := h365.new_ hd404
        have h407 := h369.transNew hd404
        have h408 := h370.new_ hd404
        have h409 := h371.new_ hd404
        have h410 := h372.new_ hd404
        have h411 := h373.new_ hd404
        have h412 := h378.new_ hd404
        have h413 := h379.new_ hd404
        have h414 := h380.new_ hd404
        have h415 := h381.new_ hd404
        have h416 := h382.new_ hd404
        have h417 := h383.new_ hd404
        have h418 := hbt.new_ hd404
        have h419 := hzt.new_ hd404
        clear h363 h365 h369 h370 h371 h372 h373 h378 h379 h380 h381 h382 h383 hbt hzt hd404
        go_wp2
        go_ret
        exact ⟨rfl, h407⟩
      · skip
        have hS : ∀ w', New w362 w' → (Blk w' q63 24 [.bool f47, .slice A48 n49 c50] ∧ Blk w' qx 24 [.bool bx, .slice Ax mx.length cx] ∧ Blk w' q94 24 [.bool f76, .slice A77 n78 c79] ∧ Blk w' q168 24 [.bool f146, .slice A147 n148 c149] ∧ Blk w' q129 24 [.bool f109, .slice A110 n111 c112] ∧ Blk w' q258 24 [.bool f232, .slice A233 n234 c235] ∧ Blk w' q211 24 [.bool f187, .slice A188 n189 c190] ∧ Blk w' q331 24 [.bool f5, .slice A5 n5 c5] ∧ Blk w' q309 24 [.bool f281, .slice A282 n283 c284]) := fun w' hn => ⟨h371.new_ hn, h365.new_ hn, h373.new_ hn, h377.new_ hn, h375.new_ hn, h381.new_ hn, h379.new_ hn, hbt.new_ hn, h383.new_ hn⟩
        refine wp_region_dm (fun w' => Blk w' q63 24 [.bool f47, .slice A48 n49 c50] ∧ Blk w' qx 24 [.bool bx, .slice Ax mx.length cx] ∧ Blk w' q94 24 [.bool f76, .slice A77 n78 c79] ∧ Blk w' q168 24 [.bool f146, .slice A147 n148 c149] ∧ Blk w' q129 24 [.bool f109, .slice A110 n111 c112] ∧ Blk w' q258 24 [.bool f232, .slice A233 n234 c235] ∧ Blk w' q211 24 [.bool f187, .slice A188 n189 c190] ∧ Blk w' q331 24 [.bool f5, .slice A5 n5 c5] ∧ Blk w' q309 24 [.bool f281, .slice A282 n283 c284]) [(0, false), (1, true), (2, true), (4, true), (3, false), (5, false), (6, true), (7, true), (8, true), (9, true), (10, true), (11, true), (12, false), (13, false), (14, true), (15, true), (16, true), (17, true), (18, true), (19, true), (20, true), (21, true), (22, true), (23, true), (24, true), (25, true), (26, false), (27, false), (28, true), (29, true), (30, true), (31, true), (32, true), (33, true), (34, true), (35, true), (36, true), (37, true), (38, true), (39, true), (40, true), (41, true), (42, true), (43, true), (44, true), (45, true), (46, true), (47, true), (48, true), (49, true), (50, true), (51, false), (52, false), (53, true), (54, true), (55, true), (56, false), (57, false), (58, true), (59, true), (60, true), (61, true)] (by kernel_rfl) (by kernel_rfl) (fun _ _ d _ _ h => by cases d <;> exact h) (hS _ (Upd.refl _ _).drew) ?_
        refine st_act rfl rfl fun K hK => a_call (args := #[]) rfl rfl (fun w => by kernel_rfl) (first_any _) ?_
        rintro e w100 ⟨rfl, hm100⟩
        have hq4_1 := (show New _ _ from (Upd.refl _ _).drew).transNew hm100
        refine ⟨_, rfl, hK _ _ (hS _ hq4_1) ?_⟩
        simp only [Act.put, List.setIfInBounds_toArray, List.set_cons_zero, List.set_cons_succ]
        refine st_take (a' := ?_) rfl rfl (y_move (v := .bool true) rfl rfl) ?_ ?_
        rotate_left; (simp only [Act.put, List.setIfInBounds_toArray, List.set_cons_zero, List.set_cons_succ]; rfl)
        refine st_take (a' := ?_) rfl rfl (y_load2 rfl rfl Try.isAgg24 Try.sizeOf24 (fun _ h => h.1)) ?_ ?_
        rotate_left; (simp only [Act.put, List.setIfInBounds_toArray, List.set_cons_zero, List.set_cons_succ]; rfl)
        refine st_take (a' := ?_) rfl rfl (y_load2 rfl rfl Try.isAgg24 Try.sizeOf24 (fun _ h => h.2.1)) ?_ ?_
        rotate_left; (simp only [Act.put, List.setIfInBounds_toArray, List.set_cons_zero, List.set_cons_succ]; rfl)
        refine st_act rfl rfl fun K hK => a_call (args := #[.agg #[.bool f47, .slice A48 n49 c50]]) rfl rfl (fun w => by kernel_rfl) (negz_any _ (-a) _ (h370.new_ hq4_1)) ?_
        rintro e w101 ⟨f101, A101, n101, c101, rfl, hc101, hm101⟩
        have hq4_2 := (show New _ _ from hq4_1).transNew hm101
        refine ⟨_, rfl, hK _ _ (hS _ hq4_2) ?_⟩
        simp only [Act.put, List.setIfInBounds_toArray, List.set_cons_zero, List.set_cons_succ]
        refine st_act rfl rfl fun K hK => a_call (args := #[.agg #[.bool f101, .slice A101 n101 c101], .agg #[.bool bx, .slice Ax mx.length cx]]) rfl rfl (fun w => by kernel_rfl) (same_any _ _ (- -a) a _ (hc101.big (by rw [Int.neg_neg]; exact hxa.out)) (h363.new_ hq4_2)) ?_
        rintro e w102 ⟨rfl, hm102⟩
        rw [decide_eq_true (Int.neg_neg a)]
        have hq4_3 := (show New _ _ from hq4_2).transNew hm102
        refine ⟨_, rfl, hK _ _ (hS _ hq4_3) ?_⟩
        simp only [Act.put, List.setIfInBounds_toArray, List.set_cons_zero, List.set_cons_succ]
        refine st_take (a' := ?_) rfl rfl (y_pick (b := true) (v := .bool true) rfl rfl rfl) ?_ ?_
        rotate_left; (simp only [Act.put, List.setIfInBounds_toArray, List.set_cons_zero, List.set_cons_succ]; rfl)
        refine st_take (a' := ?_) rfl rfl (y_move (v := .bool true) rfl rfl) ?_ ?_
        rotate_left; (simp only [Act.put, List.setIfInBounds_toArray, List.set_cons_zero, List.set_cons_succ]; rfl)
        refine st_take (a' := ?_) rfl rfl (y_move (v := .bool true) rfl rfl) ?_ ?_
        rotate_left; (simp only [Act.put, List.setIfInBounds_toArray, List.set_cons_zero, List.set_cons_succ]; rfl)
        refine st_take (a' := ?_) rfl rfl (y_pick (b := true) (v := .bool true) rfl rfl rfl) ?_ ?_
        rotate_left; (simp only [Act.put, List.setIfInBounds_toArray, List.set_cons_zero, List.set_cons_succ]; rfl)
        refine st_take (a' := ?_) rfl rfl (y_move (v := .bool true) rfl rfl) ?_ ?_
        rotate_left; (simp only [Act.put, List.setIfInBounds_toArray, List.set_cons_zero, List.set_cons_succ]; rfl)
        refine st_take (a' := ?_) rfl rfl (y_load2 rfl rfl Try.isAgg24 Try.sizeOf24 (fun _ h => h.2.2.1)) ?_ ?_
        rotate_left; (simp only [Act.put, List.setIfInBounds_toArray, List.set_cons_zero, List.set_cons_succ]; rfl)
        refine st_act rfl rfl fun K hK => a_call (args := #[.int .i64 0]) rfl rfl (fun w => by kernel_rfl) (of_any 0 _ zero_lo zero_hi) ?_
        rintro e w103 ⟨f103, A103, n103, c103, rfl, hc103, hm103⟩
        have hq4_4 := (show New _ _ from hq4_3).transNew hm103
        refine ⟨_, rfl, hK _ _ (hS _ hq4_4) ?_⟩
        simp only [Act.put, List.setIfInBounds_toArray, List.set_cons_zero, List.set_cons_succ]
        refine st_act rfl rfl fun K hK => a_call (args := #[.agg #[.bool f76, .slice A77 n78 c79], .agg #[.bool f103, .slice A103 n103 c103]]) rfl rfl (fun w => by kernel_rfl) (same_any _ _ (0) (0) _ (h372.new_ hq4_4) (hc103.big (zero_abs))) ?_
        rintro e w104 ⟨rfl, hm104⟩
        rw [decide_eq_true (rfl : (0 : Int) = 0)]
        have hq4_5 := (show New _ _ from hq4_4).transNew hm104
        refine ⟨_, rfl, hK _ _ (hS _ hq4_5) ?_⟩
        simp only [Act.put, List.setIfInBounds_toArray, List.set_cons_zero, List.set_cons_succ]
        refine st_take (a' := ?_) rfl rfl (y_pick (b := true) (v := .bool true) rfl rfl rfl) ?_ ?_
        rotate_left; (simp only [Act.put, List.setIfInBounds_toArray, List.set_cons_zero, List.set_cons_succ]; rfl)
        refine st_take (a' := ?_) rfl rfl (y_move (v := .bool true) rfl rfl) ?_ ?_
        rotate_left; (simp only [Act.put, List.setIfInBounds_toArray, List.set_cons_zero, List.set_cons_succ]; rfl)
        refine st_take (a' := ?_) rfl rfl (y_move (v := .bool true) rfl rfl) ?_ ?_
        rotate_left; (simp only [Act.put, List.setIfInBounds_toArray, List.set_cons_zero, List.set_cons_succ]; rfl)
        refine st_take (a' := ?_) rfl rfl (y_move (v := .bool true) rfl rfl) ?_ ?_
        rotate_left; (simp only [Act.put, List.setIfInBounds_toArray, List.set_cons_zero, List.set_cons_succ]; rfl)
        refine st_take (a' := ?_) rfl rfl (y_run (v := .bool true) fun w => by kernel_rfl) ?_ ?_
        rotate_left; (simp only [Act.put, List.setIfInBounds_toArray, List.set_cons_zero, List.set_cons_succ]; rfl)
        refine st_take (a' := ?_) rfl rfl (y_pick (b := true) (v := .bool true) rfl rfl rfl) ?_ ?_
        rotate_left; (simp only [Act.put, List.setIfInBounds_toArray, List.set_cons_zero, List.set_cons_succ]; rfl)
        refine st_take (a' := ?_) rfl rfl (y_move (v := .bool true) rfl rfl) ?_ ?_
        rotate_left; (simp only [Act.put, List.setIfInBounds_toArray, List.set_cons_zero, List.set_cons_succ]; rfl)
        refine st_take (a' := ?_) rfl rfl (y_move (v := .bool true) rfl rfl) ?_ ?_
        rotate_left; (simp only [Act.put, List.setIfInBounds_toArray, List.set_cons_zero, List.set_cons_succ]; rfl)
        refine st_take (a' := ?_) rfl rfl (y_run (v := .bool false) fun w => by kernel_rfl) ?_ ?_
        rotate_left; (simp only [Act.put, List.setIfInBounds_toArray, List.set_cons_zero, List.set_cons_succ]; rfl)
        refine st_take (a' := ?_) rfl rfl (y_move (v := .bool false) rfl rfl) ?_ ?_
        rotate_left; (simp only [Act.put, List.setIfInBounds_toArray, List.set_cons_zero, List.set_cons_succ]; rfl)
        refine st_take (a' := ?_) rfl rfl (y_load2 rfl rfl Try.isAgg24 Try.sizeOf24 (fun _ h => h.2.2.2.1)) ?_ ?_
        rotate_left; (simp only [Act.put, List.setIfInBounds_toArray, List.set_cons_zero, List.set_cons_succ]; rfl)
        refine st_take (a' := ?_) rfl rfl (y_load2 rfl rfl Try.isAgg24 Try.sizeOf24 (fun _ h => h.2.2.2.2.1)) ?_ ?_
        rotate_left; (simp only [Act.put, List.setIfInBounds_toArray, List.set_cons_zero, List.set_cons_succ]; rfl)
        refine st_act rfl rfl fun K hK => a_call (args := #[.agg #[.bool f109, .slice A110 n111 c112]]) rfl rfl (fun w => by kernel_rfl) (negz_any _ (capI (a * b)) _ (h374.new_ hq4_5)) ?_
        rintro e w105 ⟨f105, A105, n105, c105, rfl, hc105, hm105⟩
        have hq4_6 := (show New _ _ from hq4_5).transNew hm105
        refine ⟨_, rfl, hK _ _ (hS _ hq4_6) ?_⟩
        simp only [Act.put, List.setIfInBounds_toArray, List.set_cons_zero, List.set_cons_succ]
        refine st_act rfl rfl fun K hK => a_call (args := #[.agg #[.bool f146, .slice A147 n148 c149], .agg #[.bool f105, .slice A105 n105 c105]]) rfl rfl (fun w => by kernel_rfl) (same_any _ _ (-(capI (a * b))) (-(capI (a * b))) _ (h376.new_ hq4_6) (hc105.big (by rw [Int.natAbs_neg]; exact capI_lt _))) ?_
        rintro e w106 ⟨rfl, hm106⟩
        rw [decide_eq_true (rfl : -(capI (a * b)) = -(capI (a * b)))]
        have hq4_7 := (show New _ _ from hq4_6).transNew hm106
        refine ⟨_, rfl, hK _ _ (hS _ hq4_7) ?_⟩
        simp only [Act.put, List.setIfInBounds_toArray, List.set_cons_zero, List.set_cons_succ]
        refine st_take (a' := ?_) rfl rfl (y_pick (b := false) (v := .bool true) rfl rfl rfl) ?_ ?_
        rotate_left; (simp only [Act.put, List.setIfInBounds_toArray, List.set_cons_zero, List.set_cons_succ]; rfl)
        refine st_take (a' := ?_) rfl rfl (y_pick (b := true) (v := .bool true) rfl rfl rfl) ?_ ?_
        rotate_left; (simp only [Act.put, List.setIfInBounds_toArray, List.set_cons_zero, List.set_cons_succ]; rfl)
        refine st_take (a' := ?_) rfl rfl (y_move (v := .bool true) rfl rfl) ?_ ?_
        rotate_left; (simp only [Act.put, List.setIfInBounds_toArray, List.set_cons_zero, List.set_cons_succ]; rfl)
        refine st_take (a' := ?_) rfl rfl (y_move (v := .int .i64 0) rfl rfl) ?_ ?_
        rotate_left; (simp only [Act.put, List.setIfInBounds_toArray, List.set_cons_zero, List.set_cons_succ]; rfl)
        refine st_take (a' := ?_) rfl rfl (y_move (v := .int .i64 0) rfl rfl) ?_ ?_
        rotate_left; (simp only [Act.put, List.setIfInBounds_toArray, List.set_cons_zero, List.set_cons_succ]; rfl)
        refine st_take (a' := ?_) rfl rfl (y_run (v := .bool true) fun w => by kernel_rfl) ?_ ?_
        rotate_left; (simp only [Act.put, List.setIfInBounds_toArray, List.set_cons_zero, List.set_cons_succ]; rfl)
        refine st_take (a' := ?_) rfl rfl (y_pick (b := true) (v := .bool true) rfl rfl rfl) ?_ ?_
        rotate_left; (simp only [Act.put, List.setIfInBounds_toArray, List.set_cons_zero, List.set_cons_succ]; rfl)
        refine st_take (a' := ?_) rfl rfl (y_move (v := .bool true) rfl rfl) ?_ ?_
        rotate_left; (simp only [Act.put, List.setIfInBounds_toArray, List.set_cons_zero, List.set_cons_succ]; rfl)
        refine st_take (a' := ?_) rfl rfl (y_move (v := .int .i64 0) rfl rfl) ?_ ?_
        rotate_left; (simp only [Act.put, List.setIfInBounds_toArray, List.set_cons_zero, List.set_cons_succ]; rfl)
        refine st_take (a' := ?_) rfl rfl (y_move (v := .int .i64 0) rfl rfl) ?_ ?_
        rotate_left; (simp only [Act.put, List.setIfInBounds_toArray, List.set_cons_zero, List.set_cons_succ]; rfl)
        refine st_take (a' := ?_) rfl rfl (y_run (v := .bool true) fun w => by kernel_rfl) ?_ ?_
        rotate_left; (simp only [Act.put, List.setIfInBounds_toArray, List.set_cons_zero, List.set_cons_succ]; rfl)
        refine st_take (a' := ?_) rfl rfl (y_pick (b := true) (v := .bool true) rfl rfl rfl) ?_ ?_
        rotate_left; (simp only [Act.put, List.setIfInBounds_toArray, List.set_cons_zero, List.set_cons_succ]; rfl)
        refine st_take (a' := ?_) rfl rfl (y_move (v := .bool true) rfl rfl) ?_ ?_
        rotate_left; (simp only [Act.put, List.setIfInBounds_toArray, List.set_cons_zero, List.set_cons_succ]; rfl)
        refine st_take (a' := ?_) rfl rfl (y_move (v := .int .i64 0) rfl rfl) ?_ ?_
        rotate_left; (simp only [Act.put, List.setIfInBounds_toArray, List.set_cons_zero, List.set_cons_succ]; rfl)
        refine st_take (a' := ?_) rfl rfl (y_move (v := .int .i64 0) rfl rfl) ?_ ?_
        rotate_left; (simp only [Act.put, List.setIfInBounds_toArray, List.set_cons_zero, List.set_cons_succ]; rfl)
        refine st_take (a' := ?_) rfl rfl (y_run (v := .bool true) fun w => by kernel_rfl) ?_ ?_
        rotate_left; (simp only [Act.put, List.setIfInBounds_toArray, List.set_cons_zero, List.set_cons_succ]; rfl)
        refine st_take (a' := ?_) rfl rfl (y_pick (b := true) (v := .bool true) rfl rfl rfl) ?_ ?_
        rotate_left; (simp only [Act.put, List.setIfInBounds_toArray, List.set_cons_zero, List.set_cons_succ]; rfl)
        refine st_take (a' := ?_) rfl rfl (y_move (v := .bool true) rfl rfl) ?_ ?_
        rotate_left; (simp only [Act.put, List.setIfInBounds_toArray, List.set_cons_zero, List.set_cons_succ]; rfl)
        refine st_take (a' := ?_) rfl rfl (y_move (v := .int .i64 0) rfl rfl) ?_ ?_
        rotate_left; (simp only [Act.put, List.setIfInBounds_toArray, List.set_cons_zero, List.set_cons_succ]; rfl)
        refine st_take (a' := ?_) rfl rfl (y_run (v := .bool false) fun w => by kernel_rfl) ?_ ?_
        rotate_left; (simp only [Act.put, List.setIfInBounds_toArray, List.set_cons_zero, List.set_cons_succ]; rfl)
        refine st_take (a' := ?_) rfl rfl (y_move (v := .bool false) rfl rfl) ?_ ?_
        rotate_left; (simp only [Act.put, List.setIfInBounds_toArray, List.set_cons_zero, List.set_cons_succ]; rfl)
        refine st_take (a' := ?_) rfl rfl (y_load2 rfl rfl Try.isAgg24 Try.sizeOf24 (fun _ h => h.2.2.2.2.2.1)) ?_ ?_
        rotate_left; (simp only [Act.put, List.setIfInBounds_toArray, List.set_cons_zero, List.set_cons_succ]; rfl)
        refine st_take (a' := ?_) rfl rfl (y_load2 rfl rfl Try.isAgg24 Try.sizeOf24 (fun _ h => h.2.2.2.2.2.2.1)) ?_ ?_
        rotate_left; (simp only [Act.put, List.setIfInBounds_toArray, List.set_cons_zero, List.set_cons_succ]; rfl)
        refine st_act rfl rfl fun K hK => a_call (args := #[.agg #[.bool f187, .slice A188 n189 c190]]) rfl rfl (fun w => by kernel_rfl) (negz_any _ (divZ a b) _ (h378.new_ hq4_7)) ?_
        rintro e w107 ⟨f107, A107, n107, c107, rfl, hc107, hm107⟩
        have hq4_8 := (show New _ _ from hq4_7).transNew hm107
        refine ⟨_, rfl, hK _ _ (hS _ hq4_8) ?_⟩
        simp only [Act.put, List.setIfInBounds_toArray, List.set_cons_zero, List.set_cons_succ]
        refine st_act rfl rfl fun K hK => a_call (args := #[.agg #[.bool f232, .slice A233 n234 c235], .agg #[.bool f107, .slice A107 n107 c107]]) rfl rfl (fun w => by kernel_rfl) (same_any _ _ (-(divZ a b)) (-(divZ a b)) _ (h380.new_ hq4_8) (hc107.big (by rw [Int.natAbs_neg]; exact Nat.lt_of_le_of_lt (divZ_abs a b) hxa.out))) ?_
        rintro e w108 ⟨rfl, hm108⟩
        rw [decide_eq_true (rfl : -(divZ a b) = -(divZ a b))]
        have hq4_9 := (show New _ _ from hq4_8).transNew hm108
        refine ⟨_, rfl, hK _ _ (hS _ hq4_9) ?_⟩
        simp only [Act.put, List.setIfInBounds_toArray, List.set_cons_zero, List.set_cons_succ]
        refine st_take (a' := ?_) rfl rfl (y_move (v := .bool true) rfl rfl) ?_ ?_
        rotate_left; (simp only [Act.put, List.setIfInBounds_toArray, List.set_cons_zero, List.set_cons_succ]; rfl)
        refine st_take (a' := ?_) rfl rfl (y_load2 rfl rfl Try.isAgg24 Try.sizeOf24 (fun _ h => h.2.2.2.2.2.2.2.1)) ?_ ?_
        rotate_left; (simp only [Act.put, List.setIfInBounds_toArray, List.set_cons_zero, List.set_cons_succ]; rfl)
        refine st_take (a' := ?_) rfl rfl (y_load2 rfl rfl Try.isAgg24 Try.sizeOf24 (fun _ h => h.2.2.2.2.2.2.2.2)) ?_ ?_
        rotate_left; (simp only [Act.put, List.setIfInBounds_toArray, List.set_cons_zero, List.set_cons_succ]; rfl)
        refine st_act rfl rfl fun K hK => a_call (args := #[.agg #[.bool f281, .slice A282 n283 c284]]) rfl rfl (fun w => by kernel_rfl) (negz_any _ (remZ a b) _ (h382.new_ hq4_9)) ?_
        rintro e w109 ⟨f109, A109, n109, c109, rfl, hc109, hm109⟩
        have hq4_10 := (show New _ _ from hq4_9).transNew hm109
        refine ⟨_, rfl, hK _ _ (hS _ hq4_10) ?_⟩
        simp only [Act.put, List.setIfInBounds_toArray, List.set_cons_zero, List.set_cons_succ]
        refine st_act rfl rfl fun K hK => a_call (args := #[.agg #[.bool f5, .slice A5 n5 c5], .agg #[.bool f109, .slice A109 n109 c109]]) rfl rfl (fun w => by kernel_rfl) (same_any _ _ (-(remZ a b)) (-(remZ a b)) _ (hzt.new_ hq4_10) (hc109.big (by rw [Int.natAbs_neg]; exact Nat.lt_of_le_of_lt (remZ_abs a b) hxa.out))) ?_
        rintro e w110 ⟨rfl, hm110⟩
        rw [decide_eq_true (rfl : -(remZ a b) = -(remZ a b))]
        have hq4_11 := (show New _ _ from hq4_10).transNew hm110
        refine ⟨_, rfl, hK _ _ (hS _ hq4_11) ?_⟩
        simp only [Act.put, List.setIfInBounds_toArray, List.set_cons_zero, List.set_cons_succ]
        refine st_take (a' := ?_) rfl rfl (y_pick (b := true) (v := .bool true) rfl rfl rfl) ?_ ?_
        rotate_left; (simp only [Act.put, List.setIfInBounds_toArray, List.set_cons_zero, List.set_cons_succ]; rfl)
        refine st_take (a' := ?_) rfl rfl (y_pick (b := false) (v := .bool true) rfl rfl rfl) ?_ ?_
        rotate_left; (simp only [Act.put, List.setIfInBounds_toArray, List.set_cons_zero, List.set_cons_succ]; rfl)
        refine st_take (a' := ?_) rfl rfl (y_pick (b := true) (v := .bool true) rfl rfl rfl) ?_ ?_
        rotate_left; (simp only [Act.put, List.setIfInBounds_toArray, List.set_cons_zero, List.set_cons_succ]; rfl)
        refine st_take (a' := ?_) rfl rfl (y_assign (v := .bool true) rfl rfl) ?_ ?_
        rotate_left; (simp only [Act.put, List.setIfInBounds_toArray, List.set_cons_zero, List.set_cons_succ]; rfl)
        refine st_nil ?_
        have hd420 := (show New _ _ from hq4_11)
        clear hS hq4_1 hq4_2 hq4_3 hq4_4 hq4_5 hq4_6 hq4_7 hq4_8 hq4_9 hq4_10 hq4_11
        have h421 := h363.new_ hd420
        have h422 := h365.new_ hd420
        have h423 := h369.transNew hd420
        have h424 := h370.new_ hd420
        have h425 := h371.new_ hd420
        have h426 := h372.new_ hd420
        have h427 := h373.new_ hd420
        have h428 := h374.new_ hd420
        have h429 := h375.new_ hd420
        have h430 := h376.new_ hd420
        have h431 := h377.new_ hd420
        have h432 := h378.new_ hd420
        have h433 := h379.new_ hd420
        have h434 := h380.new_ hd420
        have h435 := h381.new_ hd420
        have h436 := h382.new_ hd420
        have h437 := h383.new_ hd420
        have h438 := hbt.new_ hd420
        have h439 := hzt.new_ hd420
        clear h363 h365 h369 h370 h371 h372 h373 h374 h375 h376 h377 h378 h379 h380 h381 h382 h383 hbt hzt hd420
        go_wp2
        go_ret
        exact ⟨rfl, h423⟩
end Go.Proofs.Ytfhflpchfgkgcaa
