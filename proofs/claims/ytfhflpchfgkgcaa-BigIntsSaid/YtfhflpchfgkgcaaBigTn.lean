/- The law BigTurns: the walk. -/
import Derived.Test.YtfhflpchfgkgcaaBigBk
namespace Go.Proofs.Ytfhflpchfgkgcaa
open Go.RowKit
theorem okI_of {z : Int} (h : z.natAbs < 2 ^ 256) : okI z = true := decide_eq_true h
theorem capI_of {z : Int} (h : z.natAbs < 2 ^ 256) : capI z = z := if_pos h
theorem divZ_abs (a b : Int) : (divZ a b).natAbs ≤ a.natAbs := by
  unfold divZ
  split
  · simp
  · rw [Int.natAbs_tdiv]; exact Nat.div_le_self _ _
theorem remZ_abs (a b : Int) : (remZ a b).natAbs ≤ a.natAbs := by
  unfold remZ
  split
  · simp
  · rw [Int.natAbs_tmod]; exact Nat.mod_le _ _
theorem divZ_mul_abs (a b : Int) : (divZ a b * b).natAbs ≤ a.natAbs := by
  unfold divZ
  split
  · simp
  · rw [Int.natAbs_mul, Int.natAbs_tdiv]; exact Nat.div_mul_le_self _ _
theorem divZ_sum {a b : Int} (h : b ≠ 0) : divZ a b * b + remZ a b = a := by
  rw [divZ, remZ, if_neg h, if_neg h]
  exact Int.tdiv_mul_add_tmod a b
theorem remZ_lt {a b : Int} (h : b ≠ 0) : (remZ a b).natAbs < b.natAbs := by
  rw [remZ, if_neg h, Int.natAbs_tmod]; exact Nat.mod_lt _ (by omega)
theorem zeroE_pos {b : Int} (h : b ≠ 0) : zeroE b = 0 := if_neg h
theorem BigAt.store {w : World} {q : Nat} {t : TypeId} {f0 : Bool} {A0 : Option Addr} {n0 c0 : Nat} {x : Value} {z : Int} (h : BigAt w x z) (hb : Blk w q t [.bool f0, .slice A0 n0 c0]) (u u' : Value) :
    BigAt ((w.setCell ⟨q, 0, none⟩ u).setCell ⟨q, 1, none⟩ u') x z := by
  obtain ⟨b, v, m, hx, hr, hl, hg⟩ := h
  exact ⟨b, v, m, hx, hr.store hb u u', hl, hg⟩
theorem store_box {w w2 : World} {q : Nat} {t : TypeId} {f0 : Bool} {A0 : Option Addr} {n0 c0 : Nat} {f : Bool} {A : Option Addr} {n c : Nat} {z : Int} (hcan : CanAt w2 (.agg #[.bool f, .slice A n c]) z) (hz : z.natAbs < 2 ^ 256) (hb : Blk w2 q t [.bool f0, .slice A0 n0 c0]) (hn : New w w2) (hq : w.heap.size ≤ q) :
    ∃ w3, w3 = (w2.setCell ⟨q, 0, none⟩ (.bool f)).setCell ⟨q, 1, none⟩ (.slice A n c) ∧ New w w3 ∧ Blk w3 q t [.bool f, .slice A n c] ∧ BigAt w3 (.agg #[.bool f, .slice A n c]) z ∧ (∀ g s cs, g ≠ q → Blk w2 g s cs → Blk w3 g s cs) ∧ (∀ x y, BigAt w2 x y → BigAt w3 x y) := by
  obtain ⟨w3, hw, hcan3, hn3, -, -, hfar⟩ := CanAt.store hcan hb hn hq
  refine ⟨w3, hw, hn3, ?_, hcan3.big hz, hfar, fun x y h => ?_⟩
  · rw [hw]; exact (hb.set_ 0 (.bool f)).set_ 1 (.slice A n c)
  · rw [hw]; exact h.store hb _ _
set_option maxHeartbeats 25600000 in
set_option maxRecDepth 100000 in
theorem turns_walk (x z : Value) (a b : Int) (w : World) (hx : BigAt w x a) (hz : BigAt w z b) : Calls Try.prog 12 #[x, z] w (IsBool true w) := by
  obtain ⟨bx, vx, mx, rfl, rx, lx, gx⟩ := hx
  obtain ⟨Ax, cx, rfl⟩ := rx.form
  obtain ⟨bz, vz, mz, rfl, rz, lz, gz⟩ := hz
  obtain ⟨Az, cz, rfl⟩ := rz.form
  obtain ⟨w1, hw1, hN, hbx, hbz, -⟩ := two_boxes w 24 (.bool bx) (.slice Ax mx.length cx) (.bool bz) (.slice Az mz.length cz)
  have hzx : BigAt w1 (.agg #[.bool bx, .slice Ax mx.length cx]) a := ⟨_, _, _, rfl, rx.new_ hN, lx, gx⟩
  have hrx := rx.new_ hN
  clear rx lx gx
  have hzz : BigAt w1 (.agg #[.bool bz, .slice Az mz.length cz]) b := ⟨_, _, _, rfl, rz.new_ hN, lz, gz⟩
  have hrz := rz.new_ hN
  clear rz lz gz
  have Hw1 := hide hw1
  clear hw1
  go_enter Try.func12, Try.ntmps12
  go_wp2_with fail
  rw [← Hw1.out]
  obtain ⟨qx, hqx⟩ : ∃ q, q = w.heap.size := ⟨_, rfl⟩
  obtain ⟨qz, hqz⟩ : ∃ q, q = w.heap.size + 1 := ⟨_, rfl⟩
  rw [← hqz] at hbz ⊢
  rw [← hqx] at hbx ⊢
  clear hqx hqz
  refine (first_any _).mono ?_
  rintro e w1 ⟨rfl, hn⟩
  have h2 := hzx.new_ hn
  have h3 := hrx.new_ hn
  have h4 := hbx.new_ hn
  have h5 := hzz.new_ hn
  have h6 := hrz.new_ hn
  have h7 := hbz.new_ hn
  have h8 := hN.transNew hn
  clear hzx hrx hbx hzz hrz hbz hN hn
  have k9 : w1.cell? ⟨qx, 0, none⟩ = some (.bool bx) := h4.cell 0
  have k10 : w1.cell? ⟨qx, 1, none⟩ = some (.slice Ax mx.length cx) := h4.cell 1
  go_wp2_with fail
  clear k9 k10
  refine (few_any _ _ mx _ h3).mono ?_
  rintro e w11 ⟨rfl, hn⟩
  have h12 := h2.new_ hn
  have h13 := h3.new_ hn
  have h14 := h4.new_ hn
  have h15 := h5.new_ hn
  have h16 := h6.new_ hn
  have h17 := h7.new_ hn
  have h18 := h8.transNew hn
  clear h2 h3 h4 h5 h6 h7 h8 hn
  obtain ⟨d, hd⟩ : ∃ d, d = decide (mx.length ≤ 40) := ⟨_, rfl⟩
  rw [← hd]
  clear hd
  cases d
  · skip
    go_wp2_with fail
    refine (first_any _).mono ?_
    rintro e w19 ⟨rfl, hn⟩
    have h20 := h12.new_ hn
    have h21 := h13.new_ hn
    have h22 := h14.new_ hn
    have h23 := h15.new_ hn
    have h24 := h16.new_ hn
    have h25 := h17.new_ hn
    have h26 := h18.transNew hn
    clear h12 h13 h14 h15 h16 h17 h18 hn
    go_wp2
    go_ret
    exact ⟨rfl, h26⟩
  have k27 : w11.cell? ⟨qz, 0, none⟩ = some (.bool bz) := h17.cell 0
  have k28 : w11.cell? ⟨qz, 1, none⟩ = some (.slice Az mz.length cz) := h17.cell 1
  go_wp2_with fail
  clear k27 k28
  refine (few_any _ _ mz _ h16).mono ?_
  rintro e w29 ⟨rfl, hn⟩
  have h30 := h12.new_ hn
  have h31 := h13.new_ hn
  have h32 := h14.new_ hn
  have h33 := h15.new_ hn
  have h34 := h16.new_ hn
  have h35 := h17.new_ hn
  have h36 := h18.transNew hn
  clear h12 h13 h14 h15 h16 h17 h18 hn
  obtain ⟨d, hd⟩ : ∃ d, d = decide (mz.length ≤ 40) := ⟨_, rfl⟩
  rw [← hd]
  clear hd
  cases d
  · skip
    go_wp2_with fail
    refine (first_any _).mono ?_
    rintro e w37 ⟨rfl, hn⟩
    have h38 := h30.new_ hn
    have h39 := h31.new_ hn
    have h40 := h32.new_ hn
    have h41 := h33.new_ hn
    have h42 := h34.new_ hn
    have h43 := h35.new_ hn
    have h44 := h36.transNew hn
    clear h30 h31 h32 h33 h34 h35 h36 hn
    go_wp2
    go_ret
    exact ⟨rfl, h44⟩
  have k50 : w29.cell? ⟨qx, 0, none⟩ = some (.bool bx) := h32.cell 0
  have k51 : w29.cell? ⟨qx, 1, none⟩ = some (.slice Ax mx.length cx) := h32.cell 1
  have k52 : w29.cell? ⟨qz, 0, none⟩ = some (.bool bz) := h35.cell 0
  have k53 : w29.cell? ⟨qz, 1, none⟩ = some (.slice Az mz.length cz) := h35.cell 1
  go_wp2_with fail
  clear k50 k51 k52 k53
  refine (add_any _ _ (a) (b) _ h30 h33).mono ?_
  rintro e w54 ⟨f45, A46, n47, c48, rfl, hc49, hn⟩
  have h55 := h30.new_ hn
  have h56 := h31.new_ hn
  have h57 := h32.new_ hn
  have h58 := h33.new_ hn
  have h59 := h34.new_ hn
  have h60 := h35.new_ hn
  have h61 := h36.transNew hn
  clear h30 h31 h32 h33 h34 h35 h36 hn
  obtain ⟨e1, hk⟩ : ∃ o, o = okI (a + b) := ⟨_, rfl⟩
  rw [← hk]
  have He1 := hide hk
  clear hk
  have hz62 := hc49.big (capI_lt _)
  clear hc49
  go_upto_region 6 with (fail)
  obtain ⟨w63, hw⟩ : ∃ w', w' = w54.alloc (.cells #[.bool f45, .slice A46 n47 c48] 24) := ⟨_, rfl⟩
  have hn : New w54 w63 := by rw [hw]; exact (Upd.refl _ _).alloc _
  have hb64 : Blk w63 w54.heap.size 24 [.bool f45, .slice A46 n47 c48] := by rw [hw]; exact Blk.new w54 _ _
  rw [← hw]
  clear hw
  obtain ⟨q65, hq⟩ : ∃ q, q = w54.heap.size := ⟨_, rfl⟩
  rw [← hq] at hb64 ⊢
  clear hq
  have h66 := h55.new_ hn
  have h67 := h56.new_ hn
  have h68 := h57.new_ hn
  have h69 := h58.new_ hn
  have h70 := h59.new_ hn
  have h71 := h60.new_ hn
  have h72 := h61.transNew hn
  have h73 := hz62.new_ hn
  clear h55 h56 h57 h58 h59 h60 h61 hz62 hn
  have k79 : w63.cell? ⟨qz, 0, none⟩ = some (.bool bz) := h71.cell 0
  have k80 : w63.cell? ⟨qz, 1, none⟩ = some (.slice Az mz.length cz) := h71.cell 1
  have k81 : w63.cell? ⟨qx, 0, none⟩ = some (.bool bx) := h68.cell 0
  have k82 : w63.cell? ⟨qx, 1, none⟩ = some (.slice Ax mx.length cx) := h68.cell 1
  go_wp2_with fail
  clear k79 k80 k81 k82
  refine (add_any _ _ (b) (a) _ h69 h66).mono ?_
  rintro e w83 ⟨f74, A75, n76, c77, rfl, hc78, hn⟩
  have h84 := h66.new_ hn
  have h85 := h67.new_ hn
  have h86 := h68.new_ hn
  have h87 := h69.new_ hn
  have h88 := h70.new_ hn
  have h89 := h71.new_ hn
  have h90 := h72.transNew hn
  have h91 := h73.new_ hn
  have h92 := hb64.new_ hn
  clear h66 h67 h68 h69 h70 h71 h72 h73 hb64 hn
  rw [Int.add_comm b a] at hc78
  rw [Int.add_comm b a, ← He1.out]
  have hz93 := hc78.big (capI_lt _)
  clear hc78
  go_upto_region 7 with (fail)
  obtain ⟨w94, hw⟩ : ∃ w', w' = w83.alloc (.cells #[.bool f74, .slice A75 n76 c77] 24) := ⟨_, rfl⟩
  have hn : New w83 w94 := by rw [hw]; exact (Upd.refl _ _).alloc _
  have hb95 : Blk w94 w83.heap.size 24 [.bool f74, .slice A75 n76 c77] := by rw [hw]; exact Blk.new w83 _ _
  rw [← hw]
  clear hw
  obtain ⟨q96, hq⟩ : ∃ q, q = w83.heap.size := ⟨_, rfl⟩
  rw [← hq] at hb95 ⊢
  clear hq
  have h97 := h84.new_ hn
  have h98 := h85.new_ hn
  have h99 := h86.new_ hn
  have h100 := h87.new_ hn
  have h101 := h88.new_ hn
  have h102 := h89.new_ hn
  have h103 := h90.transNew hn
  have h104 := h91.new_ hn
  have h105 := h92.new_ hn
  have h106 := hz93.new_ hn
  clear h84 h85 h86 h87 h88 h89 h90 h91 h92 hz93 hn
  have k112 : w94.cell? ⟨qx, 0, none⟩ = some (.bool bx) := h99.cell 0
  have k113 : w94.cell? ⟨qx, 1, none⟩ = some (.slice Ax mx.length cx) := h99.cell 1
  have k114 : w94.cell? ⟨qz, 0, none⟩ = some (.bool bz) := h102.cell 0
  have k115 : w94.cell? ⟨qz, 1, none⟩ = some (.slice Az mz.length cz) := h102.cell 1
  go_wp2_with fail
  clear k112 k113 k114 k115
  refine (mul_any _ _ (a) (b) _ h97 h100).mono ?_
  rintro e w116 ⟨f107, A108, n109, c110, rfl, hc111, hn⟩
  have h117 := h97.new_ hn
  have h118 := h98.new_ hn
  have h119 := h99.new_ hn
  have h120 := h100.new_ hn
  have h121 := h101.new_ hn
  have h122 := h102.new_ hn
  have h123 := h103.transNew hn
  have h124 := h104.new_ hn
  have h125 := h105.new_ hn
  have h126 := h106.new_ hn
  have h127 := hb95.new_ hn
  clear h97 h98 h99 h100 h101 h102 h103 h104 h105 h106 hb95 hn
  obtain ⟨e3, hk⟩ : ∃ o, o = okI (a * b) := ⟨_, rfl⟩
  rw [← hk]
  have He3 := hide hk
  clear hk
  have hz128 := hc111.big (capI_lt _)
  clear hc111
  go_upto_region 8 with (fail)
  obtain ⟨w129, hw⟩ : ∃ w', w' = w116.alloc (.cells #[.bool f107, .slice A108 n109 c110] 24) := ⟨_, rfl⟩
  have hn : New w116 w129 := by rw [hw]; exact (Upd.refl _ _).alloc _
  have hb130 : Blk w129 w116.heap.size 24 [.bool f107, .slice A108 n109 c110] := by rw [hw]; exact Blk.new w116 _ _
  rw [← hw]
  clear hw
  obtain ⟨q131, hq⟩ : ∃ q, q = w116.heap.size := ⟨_, rfl⟩
  rw [← hq] at hb130 ⊢
  clear hq
  have h132 := h117.new_ hn
  have h133 := h118.new_ hn
  have h134 := h119.new_ hn
  have h135 := h120.new_ hn
  have h136 := h121.new_ hn
  have h137 := h122.new_ hn
  have h138 := h123.transNew hn
  have h139 := h124.new_ hn
  have h140 := h125.new_ hn
  have h141 := h126.new_ hn
  have h142 := h127.new_ hn
  have h143 := hz128.new_ hn
  clear h117 h118 h119 h120 h121 h122 h123 h124 h125 h126 h127 hz128 hn
  have k149 : w129.cell? ⟨qz, 0, none⟩ = some (.bool bz) := h137.cell 0
  have k150 : w129.cell? ⟨qz, 1, none⟩ = some (.slice Az mz.length cz) := h137.cell 1
  have k151 : w129.cell? ⟨qx, 0, none⟩ = some (.bool bx) := h134.cell 0
  have k152 : w129.cell? ⟨qx, 1, none⟩ = some (.slice Ax mx.length cx) := h134.cell 1
  go_wp2_with fail
  clear k149 k150 k151 k152
  refine (mul_any _ _ (b) (a) _ h135 h132).mono ?_
  rintro e w153 ⟨f144, A145, n146, c147, rfl, hc148, hn⟩
  have h154 := h132.new_ hn
  have h155 := h133.new_ hn
  have h156 := h134.new_ hn
  have h157 := h135.new_ hn
  have h158 := h136.new_ hn
  have h159 := h137.new_ hn
  have h160 := h138.transNew hn
  have h161 := h139.new_ hn
  have h162 := h140.new_ hn
  have h163 := h141.new_ hn
  have h164 := h142.new_ hn
  have h165 := h143.new_ hn
  have h166 := hb130.new_ hn
  clear h132 h133 h134 h135 h136 h137 h138 h139 h140 h141 h142 h143 hb130 hn
  rw [Int.mul_comm b a] at hc148
  rw [Int.mul_comm b a, ← He3.out]
  have hz167 := hc148.big (capI_lt _)
  clear hc148
  go_upto_region 9 with (fail)
  obtain ⟨w168, hw⟩ : ∃ w', w' = w153.alloc (.cells #[.bool f144, .slice A145 n146 c147] 24) := ⟨_, rfl⟩
  have hn : New w153 w168 := by rw [hw]; exact (Upd.refl _ _).alloc _
  have hb169 : Blk w168 w153.heap.size 24 [.bool f144, .slice A145 n146 c147] := by rw [hw]; exact Blk.new w153 _ _
  rw [← hw]
  clear hw
  obtain ⟨q170, hq⟩ : ∃ q, q = w153.heap.size := ⟨_, rfl⟩
  rw [← hq] at hb169 ⊢
  clear hq
  have h171 := h154.new_ hn
  have h172 := h155.new_ hn
  have h173 := h156.new_ hn
  have h174 := h157.new_ hn
  have h175 := h158.new_ hn
  have h176 := h159.new_ hn
  have h177 := h160.transNew hn
  have h178 := h161.new_ hn
  have h179 := h162.new_ hn
  have h180 := h163.new_ hn
  have h181 := h164.new_ hn
  have h182 := h165.new_ hn
  have h183 := h166.new_ hn
  have h184 := hz167.new_ hn
  clear h154 h155 h156 h157 h158 h159 h160 h161 h162 h163 h164 h165 h166 hz167 hn
  have hxa := hide h171.lt
  have k185 : w168.cell? ⟨q65, 0, none⟩ = some (.bool f45) := h179.cell 0
  have k186 : w168.cell? ⟨q65, 1, none⟩ = some (.slice A46 n47 c48) := h179.cell 1
  have k187 : w168.cell? ⟨q96, 0, none⟩ = some (.bool f74) := h181.cell 0
  have k188 : w168.cell? ⟨q96, 1, none⟩ = some (.slice A75 n76 c77) := h181.cell 1
  go_wp2_with fail
  clear k185 k186 k187 k188
  refine (same_any _ _ (capI (a + b)) (capI (a + b)) _ h178 h180).mono ?_
  rintro e w189 ⟨rfl, hn⟩
  have h190 := h171.new_ hn
  have h191 := h172.new_ hn
  have h192 := h173.new_ hn
  have h193 := h174.new_ hn
  have h194 := h175.new_ hn
  have h195 := h176.new_ hn
  have h196 := h177.transNew hn
  have h197 := h178.new_ hn
  have h198 := h179.new_ hn
  have h199 := h180.new_ hn
  have h200 := h181.new_ hn
  have h201 := h182.new_ hn
  have h202 := h183.new_ hn
  have h203 := h184.new_ hn
  have h204 := hb169.new_ hn
  clear h171 h172 h173 h174 h175 h176 h177 h178 h179 h180 h181 h182 h183 h184 hb169 hn
  rw [decide_eq_true (rfl : capI (a + b) = capI (a + b))]
  have k205 : w189.cell? ⟨q131, 0, none⟩ = some (.bool f107) := h202.cell 0
  have k206 : w189.cell? ⟨q131, 1, none⟩ = some (.slice A108 n109 c110) := h202.cell 1
  have k207 : w189.cell? ⟨q170, 0, none⟩ = some (.bool f144) := h204.cell 0
  have k208 : w189.cell? ⟨q170, 1, none⟩ = some (.slice A145 n146 c147) := h204.cell 1
  go_wp2_with fail
  clear k205 k206 k207 k208
  refine (same_any _ _ (capI (a * b)) (capI (a * b)) _ h201 h203).mono ?_
  rintro e w209 ⟨rfl, hn⟩
  have h210 := h190.new_ hn
  have h211 := h191.new_ hn
  have h212 := h192.new_ hn
  have h213 := h193.new_ hn
  have h214 := h194.new_ hn
  have h215 := h195.new_ hn
  have h216 := h196.transNew hn
  have h217 := h197.new_ hn
  have h218 := h198.new_ hn
  have h219 := h199.new_ hn
  have h220 := h200.new_ hn
  have h221 := h201.new_ hn
  have h222 := h202.new_ hn
  have h223 := h203.new_ hn
  have h224 := h204.new_ hn
  clear h190 h191 h192 h193 h194 h195 h196 h197 h198 h199 h200 h201 h202 h203 h204 hn
  rw [decide_eq_true (rfl : capI (a * b) = capI (a * b))]
  go_upto_region 11 with (fail)
  cases e1
  · skip
    by_cases hb0 : b = 0
    · skip
      subst hb0
      have k230 : w209.cell? ⟨qx, 0, none⟩ = some (.bool bx) := h212.cell 0
      have k231 : w209.cell? ⟨qx, 1, none⟩ = some (.slice Ax mx.length cx) := h212.cell 1
      have k232 : w209.cell? ⟨qz, 0, none⟩ = some (.bool bz) := h215.cell 0
      have k233 : w209.cell? ⟨qz, 1, none⟩ = some (.slice Az mz.length cz) := h215.cell 1
      go_wp2_with fail
      clear k230 k231 k232 k233
      refine (div_any _ _ a 0 _ h210 h213).mono ?_
      rintro e w234 ⟨f225, A226, n227, c228, rfl, hc229, hn⟩
      have h235 := h210.new_ hn
      have h236 := h211.new_ hn
      have h237 := h212.new_ hn
      have h238 := h213.new_ hn
      have h239 := h214.new_ hn
      have h240 := h215.new_ hn
      have h241 := h216.transNew hn
      have h242 := h217.new_ hn
      have h243 := h218.new_ hn
      have h244 := h219.new_ hn
      have h245 := h220.new_ hn
      have h246 := h221.new_ hn
      have h247 := h222.new_ hn
      have h248 := h223.new_ hn
      have h249 := h224.new_ hn
      clear h210 h211 h212 h213 h214 h215 h216 h217 h218 h219 h220 h221 h222 h223 h224 hn
      rw [show zeroE 0 = 4 from rfl]
      have hz250 := hc229.big (Nat.lt_of_le_of_lt (divZ_abs a 0) hxa.out)
      clear hc229
      go_upto_region 16 with (fail)
      obtain ⟨w251, hw⟩ : ∃ w', w' = w234.alloc (.cells #[.bool f225, .slice A226 n227 c228] 24) := ⟨_, rfl⟩
      have hn : New w234 w251 := by rw [hw]; exact (Upd.refl _ _).alloc _
      have hb252 : Blk w251 w234.heap.size 24 [.bool f225, .slice A226 n227 c228] := by rw [hw]; exact Blk.new w234 _ _
      rw [← hw]
      clear hw
      obtain ⟨q253, hq⟩ : ∃ q, q = w234.heap.size := ⟨_, rfl⟩
      rw [← hq] at hb252 ⊢
      clear hq
      have h254 := h235.new_ hn
      have h255 := h236.new_ hn
      have h256 := h237.new_ hn
      have h257 := h238.new_ hn
      have h258 := h239.new_ hn
      have h259 := h240.new_ hn
      have h260 := h241.transNew hn
      have h261 := h242.new_ hn
      have h262 := h243.new_ hn
      have h263 := h244.new_ hn
      have h264 := h245.new_ hn
      have h265 := h246.new_ hn
      have h266 := h247.new_ hn
      have h267 := h248.new_ hn
      have h268 := h249.new_ hn
      have h269 := hz250.new_ hn
      clear h235 h236 h237 h238 h239 h240 h241 h242 h243 h244 h245 h246 h247 h248 h249 hz250 hn
      have k275 : w251.cell? ⟨qx, 0, none⟩ = some (.bool bx) := h256.cell 0
      have k276 : w251.cell? ⟨qx, 1, none⟩ = some (.slice Ax mx.length cx) := h256.cell 1
      have k277 : w251.cell? ⟨qz, 0, none⟩ = some (.bool bz) := h259.cell 0
      have k278 : w251.cell? ⟨qz, 1, none⟩ = some (.slice Az mz.length cz) := h259.cell 1
      go_wp2_with fail
      clear k275 k276 k277 k278
      refine (rem_any _ _ a 0 _ h254 h257).mono ?_
      rintro e w279 ⟨f270, A271, n272, c273, rfl, hc274, hn⟩
      have h280 := h254.new_ hn
      have h281 := h255.new_ hn
      have h282 := h256.new_ hn
      have h283 := h257.new_ hn
      have h284 := h258.new_ hn
      have h285 := h259.new_ hn
      have h286 := h260.transNew hn
      have h287 := h261.new_ hn
      have h288 := h262.new_ hn
      have h289 := h263.new_ hn
      have h290 := h264.new_ hn
      have h291 := h265.new_ hn
      have h292 := h266.new_ hn
      have h293 := h267.new_ hn
      have h294 := h268.new_ hn
      have h295 := h269.new_ hn
      have h296 := hb252.new_ hn
      clear h254 h255 h256 h257 h258 h259 h260 h261 h262 h263 h264 h265 h266 h267 h268 h269 hb252 hn
      rw [show zeroE 0 = 4 from rfl]
      have hz297 := hc274.big (Nat.lt_of_le_of_lt (remZ_abs a 0) hxa.out)
      clear hc274
      go_upto_region 17 with (fail)
      obtain ⟨w298, hw⟩ : ∃ w', w' = w279.alloc (.cells #[.bool f270, .slice A271 n272 c273] 24) := ⟨_, rfl⟩
      have hn : New w279 w298 := by rw [hw]; exact (Upd.refl _ _).alloc _
      have hb299 : Blk w298 w279.heap.size 24 [.bool f270, .slice A271 n272 c273] := by rw [hw]; exact Blk.new w279 _ _
      rw [← hw]
      clear hw
      obtain ⟨q300, hq⟩ : ∃ q, q = w279.heap.size := ⟨_, rfl⟩
      rw [← hq] at hb299 ⊢
      clear hq
      have h301 := h280.new_ hn
      have h302 := h281.new_ hn
      have h303 := h282.new_ hn
      have h304 := h283.new_ hn
      have h305 := h284.new_ hn
      have h306 := h285.new_ hn
      have h307 := h286.transNew hn
      have h308 := h287.new_ hn
      have h309 := h288.new_ hn
      have h310 := h289.new_ hn
      have h311 := h290.new_ hn
      have h312 := h291.new_ hn
      have h313 := h292.new_ hn
      have h314 := h293.new_ hn
      have h315 := h294.new_ hn
      have h316 := h295.new_ hn
      have h317 := h296.new_ hn
      have h318 := hz297.new_ hn
      clear h280 h281 h282 h283 h284 h285 h286 h287 h288 h289 h290 h291 h292 h293 h294 h295 h296 hz297 hn
      go_upto_region 18 with (fail)
      have hS : ∀ w', New w298 w' → (Blk w' qz 24 [.bool bz, .slice Az mz.length cz]) := fun w' hn => h306.new_ hn
      refine wp_region_dm (fun w' => Blk w' qz 24 [.bool bz, .slice Az mz.length cz]) [(0, false), (1, true), (2, true), (3, true), (4, true), (5, true), (6, true), (7, true), (8, false), (9, false), (10, true), (11, true)] (by kernel_rfl) (by kernel_rfl) (fun _ _ d _ _ h => by cases d <;> exact h) (hS _ (Upd.refl _ _).drew) ?_
      refine st_act rfl rfl fun K hK => a_call (args := #[]) rfl rfl (fun w => by kernel_rfl) (first_any _) ?_
      rintro e w100 ⟨rfl, hm100⟩
      have hq1_1 := (show New _ _ from (Upd.refl _ _).drew).transNew hm100
      refine ⟨_, rfl, hK _ _ (hS _ hq1_1) ?_⟩
      simp only [Act.put, List.setIfInBounds_toArray, List.set_cons_zero, List.set_cons_succ]
      refine st_take (a' := ?_) rfl rfl (y_move (v := .bool true) rfl rfl) ?_ ?_
      rotate_left; (simp only [Act.put, List.setIfInBounds_toArray, List.set_cons_zero, List.set_cons_succ]; rfl)
      refine st_take (a' := ?_) rfl rfl (y_move (v := .int .i64 4) rfl rfl) ?_ ?_
      rotate_left; (simp only [Act.put, List.setIfInBounds_toArray, List.set_cons_zero, List.set_cons_succ]; rfl)
      refine st_take (a' := ?_) rfl rfl (y_move (v := .int .i64 4) rfl rfl) ?_ ?_
      rotate_left; (simp only [Act.put, List.setIfInBounds_toArray, List.set_cons_zero, List.set_cons_succ]; rfl)
      refine st_take (a' := ?_) rfl rfl (y_run (v := .bool true) fun w => by kernel_rfl) ?_ ?_
      rotate_left; (simp only [Act.put, List.setIfInBounds_toArray, List.set_cons_zero, List.set_cons_succ]; rfl)
      refine st_take (a' := ?_) rfl rfl (y_pick (b := true) (v := .bool true) rfl rfl rfl) ?_ ?_
      rotate_left; (simp only [Act.put, List.setIfInBounds_toArray, List.set_cons_zero, List.set_cons_succ]; rfl)
      refine st_take (a' := ?_) rfl rfl (y_move (v := .bool true) rfl rfl) ?_ ?_
      rotate_left; (simp only [Act.put, List.setIfInBounds_toArray, List.set_cons_zero, List.set_cons_succ]; rfl)
      refine st_take (a' := ?_) rfl rfl (y_load2 rfl rfl Try.isAgg24 Try.sizeOf24 (fun _ h => h)) ?_ ?_
      rotate_left; (simp only [Act.put, List.setIfInBounds_toArray, List.set_cons_zero, List.set_cons_succ]; rfl)
      refine st_act rfl rfl fun K hK => a_call (args := #[.int .i64 0]) rfl rfl (fun w => by kernel_rfl) (of_any 0 _ zero_lo zero_hi) ?_
      rintro e w103 ⟨f103, A103, n103, c103, rfl, hc103, hm103⟩
      have hq1_2 := (show New _ _ from hq1_1).transNew hm103
      refine ⟨_, rfl, hK _ _ (hS _ hq1_2) ?_⟩
      simp only [Act.put, List.setIfInBounds_toArray, List.set_cons_zero, List.set_cons_succ]
      refine st_act rfl rfl fun K hK => a_call (args := #[.agg #[.bool bz, .slice Az mz.length cz], .agg #[.bool f103, .slice A103 n103 c103]]) rfl rfl (fun w => by kernel_rfl) (same_any _ _ 0 0 _ (h304.new_ hq1_2) (hc103.big zero_abs)) ?_
      rintro e w104 ⟨rfl, hm104⟩
      rw [decide_eq_true (rfl : (0 : Int) = 0)]
      have hq1_3 := (show New _ _ from hq1_2).transNew hm104
      refine ⟨_, rfl, hK _ _ (hS _ hq1_3) ?_⟩
      simp only [Act.put, List.setIfInBounds_toArray, List.set_cons_zero, List.set_cons_succ]
      refine st_take (a' := ?_) rfl rfl (y_pick (b := true) (v := .bool true) rfl rfl rfl) ?_ ?_
      rotate_left; (simp only [Act.put, List.setIfInBounds_toArray, List.set_cons_zero, List.set_cons_succ]; rfl)
      refine st_take (a' := ?_) rfl rfl (y_assign (v := .bool true) rfl rfl) ?_ ?_
      rotate_left; (simp only [Act.put, List.setIfInBounds_toArray, List.set_cons_zero, List.set_cons_succ]; rfl)
      refine st_nil ?_
      have hd319 := (show New _ _ from hq1_3)
      clear hS hq1_1 hq1_2 hq1_3
      have h320 := h301.new_ hd319
      have h321 := h302.new_ hd319
      have h322 := h303.new_ hd319
      have h323 := h304.new_ hd319
      have h324 := h305.new_ hd319
      have h325 := h306.new_ hd319
      have h326 := h307.transNew hd319
      have h327 := h308.new_ hd319
      have h328 := h309.new_ hd319
      have h329 := h310.new_ hd319
      have h330 := h311.new_ hd319
      have h331 := h312.new_ hd319
      have h332 := h313.new_ hd319
      have h333 := h314.new_ hd319
      have h334 := h315.new_ hd319
      have h335 := h316.new_ hd319
      have h336 := h317.new_ hd319
      have h337 := h318.new_ hd319
      have h338 := hb299.new_ hd319
      clear h301 h302 h303 h304 h305 h306 h307 h308 h309 h310 h311 h312 h313 h314 h315 h316 h317 h318 hb299 hd319
      go_wp2
      go_ret
      exact ⟨rfl, h326⟩
    · skip
      have Hb0 := hide hb0
      clear hb0
      have k344 : w209.cell? ⟨qx, 0, none⟩ = some (.bool bx) := h212.cell 0
      have k345 : w209.cell? ⟨qx, 1, none⟩ = some (.slice Ax mx.length cx) := h212.cell 1
      have k346 : w209.cell? ⟨qz, 0, none⟩ = some (.bool bz) := h215.cell 0
      have k347 : w209.cell? ⟨qz, 1, none⟩ = some (.slice Az mz.length cz) := h215.cell 1
      go_wp2_with fail
      clear k344 k345 k346 k347
      refine (div_any _ _ a b _ h210 h213).mono ?_
      rintro e w348 ⟨f339, A340, n341, c342, rfl, hc343, hn⟩
      have h349 := h210.new_ hn
      have h350 := h211.new_ hn
      have h351 := h212.new_ hn
      have h352 := h213.new_ hn
      have h353 := h214.new_ hn
      have h354 := h215.new_ hn
      have h355 := h216.transNew hn
      have h356 := h217.new_ hn
      have h357 := h218.new_ hn
      have h358 := h219.new_ hn
      have h359 := h220.new_ hn
      have h360 := h221.new_ hn
      have h361 := h222.new_ hn
      have h362 := h223.new_ hn
      have h363 := h224.new_ hn
      clear h210 h211 h212 h213 h214 h215 h216 h217 h218 h219 h220 h221 h222 h223 h224 hn
      rw [zeroE_pos Hb0.out]
      have hz364 := hc343.big (Nat.lt_of_le_of_lt (divZ_abs a b) hxa.out)
      clear hc343
      go_upto_region 16 with (fail)
      obtain ⟨w365, hw⟩ : ∃ w', w' = w348.alloc (.cells #[.bool f339, .slice A340 n341 c342] 24) := ⟨_, rfl⟩
      have hn : New w348 w365 := by rw [hw]; exact (Upd.refl _ _).alloc _
      have hb366 : Blk w365 w348.heap.size 24 [.bool f339, .slice A340 n341 c342] := by rw [hw]; exact Blk.new w348 _ _
      rw [← hw]
      clear hw
      obtain ⟨q367, hq⟩ : ∃ q, q = w348.heap.size := ⟨_, rfl⟩
      rw [← hq] at hb366 ⊢
      clear hq
      have h368 := h349.new_ hn
      have h369 := h350.new_ hn
      have h370 := h351.new_ hn
      have h371 := h352.new_ hn
      have h372 := h353.new_ hn
      have h373 := h354.new_ hn
      have h374 := h355.transNew hn
      have h375 := h356.new_ hn
      have h376 := h357.new_ hn
      have h377 := h358.new_ hn
      have h378 := h359.new_ hn
      have h379 := h360.new_ hn
      have h380 := h361.new_ hn
      have h381 := h362.new_ hn
      have h382 := h363.new_ hn
      have h383 := hz364.new_ hn
      clear h349 h350 h351 h352 h353 h354 h355 h356 h357 h358 h359 h360 h361 h362 h363 hz364 hn
      have k389 : w365.cell? ⟨qx, 0, none⟩ = some (.bool bx) := h370.cell 0
      have k390 : w365.cell? ⟨qx, 1, none⟩ = some (.slice Ax mx.length cx) := h370.cell 1
      have k391 : w365.cell? ⟨qz, 0, none⟩ = some (.bool bz) := h373.cell 0
      have k392 : w365.cell? ⟨qz, 1, none⟩ = some (.slice Az mz.length cz) := h373.cell 1
      go_wp2_with fail
      clear k389 k390 k391 k392
      refine (rem_any _ _ a b _ h368 h371).mono ?_
      rintro e w393 ⟨f384, A385, n386, c387, rfl, hc388, hn⟩
      have h394 := h368.new_ hn
      have h395 := h369.new_ hn
      have h396 := h370.new_ hn
      have h397 := h371.new_ hn
      have h398 := h372.new_ hn
      have h399 := h373.new_ hn
      have h400 := h374.transNew hn
      have h401 := h375.new_ hn
      have h402 := h376.new_ hn
      have h403 := h377.new_ hn
      have h404 := h378.new_ hn
      have h405 := h379.new_ hn
      have h406 := h380.new_ hn
      have h407 := h381.new_ hn
      have h408 := h382.new_ hn
      have h409 := h383.new_ hn
      have h410 := hb366.new_ hn
      clear h368 h369 h370 h371 h372 h373 h374 h375 h376 h377 h378 h379 h380 h381 h382 h383 hb366 hn
      rw [zeroE_pos Hb0.out]
      have hz411 := hc388.big (Nat.lt_of_le_of_lt (remZ_abs a b) hxa.out)
      have hfr := hide hc388.parts.1
      clear hc388
      go_upto_region 19 with (fail)
      obtain ⟨w412, hw⟩ : ∃ w', w' = w393.alloc (.cells #[.bool f384, .slice A385 n386 c387] 24) := ⟨_, rfl⟩
      have hn : New w393 w412 := by rw [hw]; exact (Upd.refl _ _).alloc _
      have hb413 : Blk w412 w393.heap.size 24 [.bool f384, .slice A385 n386 c387] := by rw [hw]; exact Blk.new w393 _ _
      rw [← hw]
      clear hw
      obtain ⟨q414, hq⟩ : ∃ q, q = w393.heap.size := ⟨_, rfl⟩
      rw [← hq] at hb413 ⊢
      clear hq
      have h415 := h394.new_ hn
      have h416 := h395.new_ hn
      have h417 := h396.new_ hn
      have h418 := h397.new_ hn
      have h419 := h398.new_ hn
      have h420 := h399.new_ hn
      have h421 := h400.transNew hn
      have h422 := h401.new_ hn
      have h423 := h402.new_ hn
      have h424 := h403.new_ hn
      have h425 := h404.new_ hn
      have h426 := h405.new_ hn
      have h427 := h406.new_ hn
      have h428 := h407.new_ hn
      have h429 := h408.new_ hn
      have h430 := h409.new_ hn
      have h431 := h410.new_ hn
      have h432 := hz411.new_ hn
      clear h394 h395 h396 h397 h398 h399 h400 h401 h402 h403 h404 h405 h406 h407 h408 h409 h410 hz411 hn
      have k438 : w412.cell? ⟨q367, 0, none⟩ = some (.bool f339) := h431.cell 0
      have k439 : w412.cell? ⟨q367, 1, none⟩ = some (.slice A340 n341 c342) := h431.cell 1
      have k440 : w412.cell? ⟨qz, 0, none⟩ = some (.bool bz) := h420.cell 0
      have k441 : w412.cell? ⟨qz, 1, none⟩ = some (.slice Az mz.length cz) := h420.cell 1
      go_wp2_with fail
      clear k438 k439 k440 k441
      refine (mul_any _ _ (divZ a b) (b) _ h430 h418).mono ?_
      rintro e w442 ⟨f433, A434, n435, c436, rfl, hc437, hn⟩
      have h443 := h415.new_ hn
      have h444 := h416.new_ hn
      have h445 := h417.new_ hn
      have h446 := h418.new_ hn
      have h447 := h419.new_ hn
      have h448 := h420.new_ hn
      have h449 := h421.transNew hn
      have h450 := h422.new_ hn
      have h451 := h423.new_ hn
      have h452 := h424.new_ hn
      have h453 := h425.new_ hn
      have h454 := h426.new_ hn
      have h455 := h427.new_ hn
      have h456 := h428.new_ hn
      have h457 := h429.new_ hn
      have h458 := h430.new_ hn
      have h459 := h431.new_ hn
      have h460 := h432.new_ hn
      have h461 := hb413.new_ hn
      clear h415 h416 h417 h418 h419 h420 h421 h422 h423 h424 h425 h426 h427 h428 h429 h430 h431 h432 hb413 hn
      have hs := (Nat.lt_of_le_of_lt (divZ_mul_abs a b) hxa.out)
      rw [okI_of hs]
      rw [capI_of hs] at hc437
      clear hs
      have hz462 := hc437.big ((Nat.lt_of_le_of_lt (divZ_mul_abs a b) hxa.out))
      clear hc437
      go_upto_region 20 with (fail)
      obtain ⟨w463, hw⟩ : ∃ w', w' = w442.alloc (.cells #[.bool f433, .slice A434 n435 c436] 24) := ⟨_, rfl⟩
      have hn : New w442 w463 := by rw [hw]; exact (Upd.refl _ _).alloc _
      have hb464 : Blk w463 w442.heap.size 24 [.bool f433, .slice A434 n435 c436] := by rw [hw]; exact Blk.new w442 _ _
      rw [← hw]
      clear hw
      obtain ⟨q465, hq⟩ : ∃ q, q = w442.heap.size := ⟨_, rfl⟩
      rw [← hq] at hb464 ⊢
      clear hq
      have h466 := h443.new_ hn
      have h467 := h444.new_ hn
      have h468 := h445.new_ hn
      have h469 := h446.new_ hn
      have h470 := h447.new_ hn
      have h471 := h448.new_ hn
      have h472 := h449.transNew hn
      have h473 := h450.new_ hn
      have h474 := h451.new_ hn
      have h475 := h452.new_ hn
      have h476 := h453.new_ hn
      have h477 := h454.new_ hn
      have h478 := h455.new_ hn
      have h479 := h456.new_ hn
      have h480 := h457.new_ hn
      have h481 := h458.new_ hn
      have h482 := h459.new_ hn
      have h483 := h460.new_ hn
      have h484 := h461.new_ hn
      have h485 := hz462.new_ hn
      clear h443 h444 h445 h446 h447 h448 h449 h450 h451 h452 h453 h454 h455 h456 h457 h458 h459 h460 h461 hz462 hn
      have k491 : w463.cell? ⟨q465, 0, none⟩ = some (.bool f433) := hb464.cell 0
      have k492 : w463.cell? ⟨q465, 1, none⟩ = some (.slice A434 n435 c436) := hb464.cell 1
      have k493 : w463.cell? ⟨q414, 0, none⟩ = some (.bool f384) := h484.cell 0
      have k494 : w463.cell? ⟨q414, 1, none⟩ = some (.slice A385 n386 c387) := h484.cell 1
      go_wp2_with fail
      clear k491 k492 k493 k494
      refine (add_any _ _ (divZ a b * b) (remZ a b) _ h485 h483).mono ?_
      rintro e w495 ⟨f486, A487, n488, c489, rfl, hc490, hn⟩
      have h496 := h466.new_ hn
      have h497 := h467.new_ hn
      have h498 := h468.new_ hn
      have h499 := h469.new_ hn
      have h500 := h470.new_ hn
      have h501 := h471.new_ hn
      have h502 := h472.transNew hn
      have h503 := h473.new_ hn
      have h504 := h474.new_ hn
      have h505 := h475.new_ hn
      have h506 := h476.new_ hn
      have h507 := h477.new_ hn
      have h508 := h478.new_ hn
      have h509 := h479.new_ hn
      have h510 := h480.new_ hn
      have h511 := h481.new_ hn
      have h512 := h482.new_ hn
      have h513 := h483.new_ hn
      have h514 := h484.new_ hn
      have h515 := h485.new_ hn
      have h516 := hb464.new_ hn
      clear h466 h467 h468 h469 h470 h471 h472 h473 h474 h475 h476 h477 h478 h479 h480 h481 h482 h483 h484 h485 hb464 hn
      rw [divZ_sum Hb0.out, capI_of hxa.out] at hc490
      rw [divZ_sum Hb0.out, okI_of hxa.out]
      have hz517 := hc490.big hxa.out
      clear hc490
      go_upto_region 21 with (fail)
      obtain ⟨w518, hw⟩ : ∃ w', w' = w495.alloc (.cells #[.bool f486, .slice A487 n488 c489] 24) := ⟨_, rfl⟩
      have hn : New w495 w518 := by rw [hw]; exact (Upd.refl _ _).alloc _
      have hb519 : Blk w518 w495.heap.size 24 [.bool f486, .slice A487 n488 c489] := by rw [hw]; exact Blk.new w495 _ _
      rw [← hw]
      clear hw
      obtain ⟨q520, hq⟩ : ∃ q, q = w495.heap.size := ⟨_, rfl⟩
      rw [← hq] at hb519 ⊢
      clear hq
      have h521 := h496.new_ hn
      have h522 := h497.new_ hn
      have h523 := h498.new_ hn
      have h524 := h499.new_ hn
      have h525 := h500.new_ hn
      have h526 := h501.new_ hn
      have h527 := h502.transNew hn
      have h528 := h503.new_ hn
      have h529 := h504.new_ hn
      have h530 := h505.new_ hn
      have h531 := h506.new_ hn
      have h532 := h507.new_ hn
      have h533 := h508.new_ hn
      have h534 := h509.new_ hn
      have h535 := h510.new_ hn
      have h536 := h511.new_ hn
      have h537 := h512.new_ hn
      have h538 := h513.new_ hn
      have h539 := h514.new_ hn
      have h540 := h515.new_ hn
      have h541 := h516.new_ hn
      have h542 := hz517.new_ hn
      clear h496 h497 h498 h499 h500 h501 h502 h503 h504 h505 h506 h507 h508 h509 h510 h511 h512 h513 h514 h515 h516 hz517 hn
      have k543 : w518.cell? ⟨q414, 0, none⟩ = some (.bool f384) := h539.cell 0
      have k544 : w518.cell? ⟨q414, 1, none⟩ = some (.slice A385 n386 c387) := h539.cell 1
      have k545 : w518.cell? ⟨qz, 0, none⟩ = some (.bool bz) := h526.cell 0
      have k546 : w518.cell? ⟨qz, 1, none⟩ = some (.slice Az mz.length cz) := h526.cell 1
      have k547 : ∀ o, (w518.alloc o).cell? ⟨q414, 0, none⟩ = some (.bool f384) := fun o => (h539.alloc o).cell 0
      have k548 : ∀ o o', ((w518.alloc o).alloc o').cell? ⟨q414, 0, none⟩ = some (.bool f384) := fun o o' => ((h539.alloc o).alloc o').cell 0
      have k549 : ∀ o, (w518.alloc o).cell? ⟨q414, 1, none⟩ = some (.slice A385 n386 c387) := fun o => (h539.alloc o).cell 1
      have k550 : ∀ o o', ((w518.alloc o).alloc o').cell? ⟨q414, 1, none⟩ = some (.slice A385 n386 c387) := fun o o' => ((h539.alloc o).alloc o').cell 1
      have k551 : ∀ o, (w518.alloc o).cell? ⟨qz, 0, none⟩ = some (.bool bz) := fun o => (h526.alloc o).cell 0
      have k552 : ∀ o o', ((w518.alloc o).alloc o').cell? ⟨qz, 0, none⟩ = some (.bool bz) := fun o o' => ((h526.alloc o).alloc o').cell 0
      have k553 : ∀ o, (w518.alloc o).cell? ⟨qz, 1, none⟩ = some (.slice Az mz.length cz) := fun o => (h526.alloc o).cell 1
      have k554 : ∀ o o', ((w518.alloc o).alloc o').cell? ⟨qz, 1, none⟩ = some (.slice Az mz.length cz) := fun o o' => ((h526.alloc o).alloc o').cell 1
      go_region
      · skip
        clear k543 k544 k545 k546 k547 k548 k549 k550 k551 k552 k553 k554
        obtain ⟨w555, hw⟩ : ∃ w', w' = ((w518.alloc (.cells #[.bool f384, .slice A385 n386 c387] 24)).alloc (.cells #[.bool bz, .slice Az mz.length cz] 24)).drew := ⟨_, rfl⟩
        have hn : New w518 w555 := by rw [hw]; exact (((Upd.refl _ _).alloc _).alloc _).drew
        have hbP : Blk w555 w518.heap.size 24 [.bool f384, .slice A385 n386 c387] := by rw [hw]; exact ((Blk.new w518 _ _).alloc _).drew
        have hbQ : Blk w555 (w518.heap.size + 1) 24 [.bool bz, .slice Az mz.length cz] := by
          rw [hw]
          have := Blk.new (w518.alloc (.cells #[.bool f384, .slice A385 n386 c387] 24)) 24 [.bool bz, .slice Az mz.length cz]
          rw [show (w518.alloc (.cells #[.bool f384, .slice A385 n386 c387] 24)).heap.size = w518.heap.size + 1 by simp] at this
          exact this.drew
        rw [← hw]
        clear hw
        have hl0 : w.heap.size ≤ w518.heap.size := h527.size
        have hl_x := h523.lt
        have hl_back := hb519.lt
        obtain ⟨qa, hqa⟩ : ∃ q, q = w518.heap.size := ⟨_, rfl⟩
        rw [← hqa] at hbP hbQ hl0 hl_x hl_back ⊢
        clear hqa
        have h556 := h521.new_ hn
        have h557 := h522.new_ hn
        have h558 := h523.new_ hn
        have h559 := h524.new_ hn
        have h560 := h525.new_ hn
        have h561 := h526.new_ hn
        have h562 := h527.transNew hn
        have h563 := h528.new_ hn
        have h564 := h529.new_ hn
        have h565 := h530.new_ hn
        have h566 := h531.new_ hn
        have h567 := h532.new_ hn
        have h568 := h533.new_ hn
        have h569 := h534.new_ hn
        have h570 := h535.new_ hn
        have h571 := h536.new_ hn
        have h572 := h537.new_ hn
        have h573 := h538.new_ hn
        have h574 := h539.new_ hn
        have h575 := h540.new_ hn
        have h576 := h541.new_ hn
        have h577 := h542.new_ hn
        have h578 := hb519.new_ hn
        clear h521 h522 h523 h524 h525 h526 h527 h528 h529 h530 h531 h532 h533 h534 h535 h536 h537 h538 h539 h540 h541 h542 hb519 hn
        have hbr := hbP
        have hby := hbQ
        clear hbP hbQ
        have h579 := h573
        have h580 := h559
        cases f384
        · skip
          have k581 : w555.cell? ⟨qa, 0, none⟩ = some (.bool false) := hbr.cell 0
          have k582 : w555.cell? ⟨qa, 1, none⟩ = some (.slice A385 n386 c387) := hbr.cell 1
          go_upto_region 24 with (fail)
          clear k581 k582
          by_cases hbn : b < 0
          · skip
            have hcm : cmpZ b 0 = (-1) := by have := Hb0.out; unfold cmpZ; repeat' split <;> omega
            have HBN := hide hbn
            clear hbn
            have hS : ∀ w', New w555 w' → (Blk w' (qa + 1) 24 [.bool bz, .slice Az mz.length cz]) := fun w' hn => hby.new_ hn
            refine wp_region_dm (fun w' => Blk w' (qa + 1) 24 [.bool bz, .slice Az mz.length cz]) [(0, true), (1, false), (2, false), (3, true)] (by kernel_rfl) (by kernel_rfl) (fun _ _ d _ _ h => by cases d <;> exact h) (hS _ (Upd.refl _ _).drew) ?_
            refine st_take (a' := ?_) rfl rfl (y_load2 rfl rfl Try.isAgg24 Try.sizeOf24 (fun _ h => h)) ?_ ?_
            rotate_left; (simp only [Act.put, List.setIfInBounds_toArray, List.set_cons_zero, List.set_cons_succ]; rfl)
            refine st_act rfl rfl fun K hK => a_call (args := #[.int .i64 0]) rfl rfl (fun w => by kernel_rfl) (of_any 0 _ zero_lo zero_hi) ?_
            rintro e w103 ⟨f103, A103, n103, c103, rfl, hc103, hm103⟩
            have hq2_1 := (show New _ _ from (Upd.refl _ _).drew).transNew hm103
            refine ⟨_, rfl, hK _ _ (hS _ hq2_1) ?_⟩
            simp only [Act.put, List.setIfInBounds_toArray, List.set_cons_zero, List.set_cons_succ]
            refine st_act rfl rfl fun K hK => a_call (args := #[.agg #[.bool bz, .slice Az mz.length cz], .agg #[.bool f103, .slice A103 n103 c103]]) rfl rfl (fun w => by kernel_rfl) (cmpz_any _ _ b 0 _ (h580.new_ hq2_1) (hc103.big zero_abs)) ?_
            rintro e w104 ⟨rfl, hm104⟩
            rw [hcm]
            have hq2_2 := (show New _ _ from hq2_1).transNew hm104
            refine ⟨_, rfl, hK _ _ (hS _ hq2_2) ?_⟩
            simp only [Act.put, List.setIfInBounds_toArray, List.set_cons_zero, List.set_cons_succ]
            refine st_take (a' := ?_) rfl rfl (y_run (v := .bool true) fun w => by kernel_rfl) ?_ ?_
            rotate_left; (simp only [Act.put, List.setIfInBounds_toArray, List.set_cons_zero, List.set_cons_succ]; rfl)
            refine st_nil ?_
            have hd583 := (show New _ _ from hq2_2)
            clear hS hq2_1 hq2_2
            have h584 := h558.new_ hd583
            have h585 := h578.new_ hd583
            have h586 := h556.new_ hd583
            have h587 := h577.new_ hd583
            have h588 := hbr.new_ hd583
            have h589 := hby.new_ hd583
            have h590 := h579.new_ hd583
            have h591 := h580.new_ hd583
            have h592 := h562.transNew hd583
            clear h558 h578 h556 h577 hbr hby h579 h580 h562 hd583
            clear hm103 hm104 hc103 hcm
            go_upto_region 25 with (fail)
            have k598 : w104.cell? ⟨(qa + 1), 0, none⟩ = some (.bool bz) := h589.cell 0
            have k599 : w104.cell? ⟨(qa + 1), 1, none⟩ = some (.slice Az mz.length cz) := h589.cell 1
            go_wp2_with fail
            clear k598 k599
            refine (negz_any _ (b) _ h591).mono ?_
            rintro e w600 ⟨f593, A594, n595, c596, rfl, hc597, hn⟩
            have h601 := h584.new_ hn
            have h602 := h585.new_ hn
            have h603 := h586.new_ hn
            have h604 := h587.new_ hn
            have h605 := h588.new_ hn
            have h606 := h589.new_ hn
            have h607 := h590.new_ hn
            have h608 := h591.new_ hn
            have h609 := h592.transNew hn
            clear h584 h585 h586 h587 h588 h589 h590 h591 h592 hn
            have k610 : w600.cell? ⟨(qa + 1), 0, none⟩ = some (.bool bz) := h606.cell 0
            have k611 : w600.cell? ⟨(qa + 1), 1, none⟩ = some (.slice Az mz.length cz) := h606.cell 1
            have k612 := h606.frozen 0
            have k613 := h606.frozen 1
            go_upto_region 26 with (fail)
            clear k610 k611 k612 k613
            obtain ⟨w614, hw, hN', h615, h616, hfar, hall⟩ := store_box hc597 (by rw [Int.natAbs_neg]; exact h608.lt) h606 h609 (by clear hc597; omega)
            have hne : qx ≠ (qa + 1) := by omega
            have h617 := hfar _ _ _ hne h601
            clear hne
            have hne : q520 ≠ (qa + 1) := by omega
            have h618 := hfar _ _ _ hne h602
            clear hne
            have h619 := hall _ _ h603
            have h620 := hall _ _ h604
            have hne : qa ≠ (qa + 1) := by omega
            have h621 := hfar _ _ _ hne h605
            clear hne
            have h622 := hall _ _ h607
            rw [← hw]
            clear hw hall hfar hc597 h601 h602 h603 h604 h605 h606 h607 h608 h609
            have h623 := hN'
            clear hN'
            go_wp2_with fail
            refine (first_any _).mono ?_
            rintro e w624 ⟨rfl, hn⟩
            have h625 := h617.new_ hn
            have h626 := h618.new_ hn
            have h627 := h619.new_ hn
            have h628 := h620.new_ hn
            have h629 := h621.new_ hn
            have h630 := h622.new_ hn
            have h631 := h623.transNew hn
            have h632 := h615.new_ hn
            have h633 := h616.new_ hn
            clear h617 h618 h619 h620 h621 h622 h623 h615 h616 hn
            have k634 : w624.cell? ⟨q520, 0, none⟩ = some (.bool f486) := h626.cell 0
            have k635 : w624.cell? ⟨q520, 1, none⟩ = some (.slice A487 n488 c489) := h626.cell 1
            have k636 : w624.cell? ⟨qx, 0, none⟩ = some (.bool bx) := h625.cell 0
            have k637 : w624.cell? ⟨qx, 1, none⟩ = some (.slice Ax mx.length cx) := h625.cell 1
            go_wp2_with fail
            clear k634 k635 k636 k637
            refine (same_any _ _ (a) (a) _ h628 h627).mono ?_
            rintro e w638 ⟨rfl, hn⟩
            have h639 := h625.new_ hn
            have h640 := h626.new_ hn
            have h641 := h627.new_ hn
            have h642 := h628.new_ hn
            have h643 := h629.new_ hn
            have h644 := h630.new_ hn
            have h645 := h631.transNew hn
            have h646 := h632.new_ hn
            have h647 := h633.new_ hn
            clear h625 h626 h627 h628 h629 h630 h631 h632 h633 hn
            rw [decide_eq_true (rfl : a = a)]
            have k648 : w638.cell? ⟨qa, 0, none⟩ = some (.bool false) := h643.cell 0
            have k649 : w638.cell? ⟨qa, 1, none⟩ = some (.slice A385 n386 c387) := h643.cell 1
            have k650 : w638.cell? ⟨(qa + 1), 0, none⟩ = some (.bool f593) := h646.cell 0
            have k651 : w638.cell? ⟨(qa + 1), 1, none⟩ = some (.slice A594 n595 c596) := h646.cell 1
            go_wp2_with fail
            clear k648 k649 k650 k651
            refine (cmpz_any _ _ (remZ a b) (-b) _ h644 h647).mono ?_
            rintro e w652 ⟨rfl, hn⟩
            have h653 := h639.new_ hn
            have h654 := h640.new_ hn
            have h655 := h641.new_ hn
            have h656 := h642.new_ hn
            have h657 := h643.new_ hn
            have h658 := h644.new_ hn
            have h659 := h645.transNew hn
            have h660 := h646.new_ hn
            have h661 := h647.new_ hn
            clear h639 h640 h641 h642 h643 h644 h645 h646 h647 hn
            have hfin : cmpZ (remZ a b) (-b) = -1 := by
              have h1 := remZ_lt (a := a) Hb0.out
              have h2 := hfr.out
              have h3 := HBN.out
              have h4 : 0 ≤ remZ a b := by simpa using h2
              unfold cmpZ
              rw [if_pos (by omega)]
            rw [hfin]
            clear hfin
            go_wp2
            go_ret
            exact ⟨rfl, h659⟩
          · skip
            have hcm : cmpZ b 0 = 1 := by have := Hb0.out; unfold cmpZ; repeat' split <;> omega
            have HBN := hide hbn
            clear hbn
            have hS : ∀ w', New w555 w' → (Blk w' (qa + 1) 24 [.bool bz, .slice Az mz.length cz]) := fun w' hn => hby.new_ hn
            refine wp_region_dm (fun w' => Blk w' (qa + 1) 24 [.bool bz, .slice Az mz.length cz]) [(0, true), (1, false), (2, false), (3, true)] (by kernel_rfl) (by kernel_rfl) (fun _ _ d _ _ h => by cases d <;> exact h) (hS _ (Upd.refl _ _).drew) ?_
            refine st_take (a' := ?_) rfl rfl (y_load2 rfl rfl Try.isAgg24 Try.sizeOf24 (fun _ h => h)) ?_ ?_
            rotate_left; (simp only [Act.put, List.setIfInBounds_toArray, List.set_cons_zero, List.set_cons_succ]; rfl)
            refine st_act rfl rfl fun K hK => a_call (args := #[.int .i64 0]) rfl rfl (fun w => by kernel_rfl) (of_any 0 _ zero_lo zero_hi) ?_
            rintro e w103 ⟨f103, A103, n103, c103, rfl, hc103, hm103⟩
            have hq3_1 := (show New _ _ from (Upd.refl _ _).drew).transNew hm103
            refine ⟨_, rfl, hK _ _ (hS _ hq3_1) ?_⟩
            simp only [Act.put, List.setIfInBounds_toArray, List.set_cons_zero, List.set_cons_succ]
            refine st_act rfl rfl fun K hK => a_call (args := #[.agg #[.bool bz, .slice Az mz.length cz], .agg #[.bool f103, .slice A103 n103 c103]]) rfl rfl (fun w => by kernel_rfl) (cmpz_any _ _ b 0 _ (h580.new_ hq3_1) (hc103.big zero_abs)) ?_
            rintro e w104 ⟨rfl, hm104⟩
            rw [hcm]
            have hq3_2 := (show New _ _ from hq3_1).transNew hm104
            refine ⟨_, rfl, hK _ _ (hS _ hq3_2) ?_⟩
            simp only [Act.put, List.setIfInBounds_toArray, List.set_cons_zero, List.set_cons_succ]
            refine st_take (a' := ?_) rfl rfl (y_run (v := .bool false) fun w => by kernel_rfl) ?_ ?_
            rotate_left; (simp only [Act.put, List.setIfInBounds_toArray, List.set_cons_zero, List.set_cons_succ]; rfl)
            refine st_nil ?_
            have hd662 := (show New _ _ from hq3_2)
            clear hS hq3_1 hq3_2
            have h663 := h558.new_ hd662
            have h664 := h578.new_ hd662
            have h665 := h556.new_ hd662
            have h666 := h577.new_ hd662
            have h667 := hbr.new_ hd662
            have h668 := hby.new_ hd662
            have h669 := h579.new_ hd662
            have h670 := h580.new_ hd662
            have h671 := h562.transNew hd662
            clear h558 h578 h556 h577 hbr hby h579 h580 h562 hd662
            clear hm103 hm104 hc103 hcm
            go_upto_region 26 with (fail)
            go_wp2_with fail
            refine (first_any _).mono ?_
            rintro e w672 ⟨rfl, hn⟩
            have h673 := h663.new_ hn
            have h674 := h664.new_ hn
            have h675 := h665.new_ hn
            have h676 := h666.new_ hn
            have h677 := h667.new_ hn
            have h678 := h668.new_ hn
            have h679 := h669.new_ hn
            have h680 := h670.new_ hn
            have h681 := h671.transNew hn
            clear h663 h664 h665 h666 h667 h668 h669 h670 h671 hn
            have k682 : w672.cell? ⟨q520, 0, none⟩ = some (.bool f486) := h674.cell 0
            have k683 : w672.cell? ⟨q520, 1, none⟩ = some (.slice A487 n488 c489) := h674.cell 1
            have k684 : w672.cell? ⟨qx, 0, none⟩ = some (.bool bx) := h673.cell 0
            have k685 : w672.cell? ⟨qx, 1, none⟩ = some (.slice Ax mx.length cx) := h673.cell 1
            go_wp2_with fail
            clear k682 k683 k684 k685
            refine (same_any _ _ (a) (a) _ h676 h675).mono ?_
            rintro e w686 ⟨rfl, hn⟩
            have h687 := h673.new_ hn
            have h688 := h674.new_ hn
            have h689 := h675.new_ hn
            have h690 := h676.new_ hn
            have h691 := h677.new_ hn
            have h692 := h678.new_ hn
            have h693 := h679.new_ hn
            have h694 := h680.new_ hn
            have h695 := h681.transNew hn
            clear h673 h674 h675 h676 h677 h678 h679 h680 h681 hn
            rw [decide_eq_true (rfl : a = a)]
            have k696 : w686.cell? ⟨qa, 0, none⟩ = some (.bool false) := h691.cell 0
            have k697 : w686.cell? ⟨qa, 1, none⟩ = some (.slice A385 n386 c387) := h691.cell 1
            have k698 : w686.cell? ⟨(qa + 1), 0, none⟩ = some (.bool bz) := h692.cell 0
            have k699 : w686.cell? ⟨(qa + 1), 1, none⟩ = some (.slice Az mz.length cz) := h692.cell 1
            go_wp2_with fail
            clear k696 k697 k698 k699
            refine (cmpz_any _ _ (remZ a b) (b) _ h693 h694).mono ?_
            rintro e w700 ⟨rfl, hn⟩
            have h701 := h687.new_ hn
            have h702 := h688.new_ hn
            have h703 := h689.new_ hn
            have h704 := h690.new_ hn
            have h705 := h691.new_ hn
            have h706 := h692.new_ hn
            have h707 := h693.new_ hn
            have h708 := h694.new_ hn
            have h709 := h695.transNew hn
            clear h687 h688 h689 h690 h691 h692 h693 h694 h695 hn
            have hfin : cmpZ (remZ a b) (b) = -1 := by
              have h1 := remZ_lt (a := a) Hb0.out
              have h2 := hfr.out
              have h3 := HBN.out
              have h4 : 0 ≤ remZ a b := by simpa using h2
              unfold cmpZ
              rw [if_pos (by omega)]
            rw [hfin]
            clear hfin
            go_wp2
            go_ret
            exact ⟨rfl, h709⟩
        · skip
          have k710 : w555.cell? ⟨qa, 0, none⟩ = some (.bool true) := hbr.cell 0
          have k711 : w555.cell? ⟨qa, 1, none⟩ = some (.slice A385 n386 c387) := hbr.cell 1
          go_upto_region 23 with (fail)
          clear k710 k711
          have k717 : w555.cell? ⟨qa, 0, none⟩ = some (.bool true) := hbr.cell 0
          have k718 : w555.cell? ⟨qa, 1, none⟩ = some (.slice A385 n386 c387) := hbr.cell 1
          go_wp2_with fail
          clear k717 k718
          refine (negz_any _ (remZ a b) _ h579).mono ?_
          rintro e w719 ⟨f712, A713, n714, c715, rfl, hc716, hn⟩
          have h720 := h558.new_ hn
          have h721 := h578.new_ hn
          have h722 := h556.new_ hn
          have h723 := h577.new_ hn
          have h724 := hbr.new_ hn
          have h725 := hby.new_ hn
          have h726 := h579.new_ hn
          have h727 := h580.new_ hn
          have h728 := h562.transNew hn
          clear h558 h578 h556 h577 hbr hby h579 h580 h562 hn
          have k729 : w719.cell? ⟨qa, 0, none⟩ = some (.bool true) := h724.cell 0
          have k730 : w719.cell? ⟨qa, 1, none⟩ = some (.slice A385 n386 c387) := h724.cell 1
          have k731 := h724.frozen 0
          have k732 := h724.frozen 1
          go_upto_region 24 with (fail)
          clear k729 k730 k731 k732
          obtain ⟨w733, hw, hN', h734, h735, hfar, hall⟩ := store_box hc716 (by rw [Int.natAbs_neg]; exact h726.lt) h724 h728 (by clear hc716; omega)
          have hne : qx ≠ qa := by omega
          have h736 := hfar _ _ _ hne h720
          clear hne
          have hne : q520 ≠ qa := by omega
          have h737 := hfar _ _ _ hne h721
          clear hne
          have h738 := hall _ _ h722
          have h739 := hall _ _ h723
          have hne : (qa + 1) ≠ qa := by omega
          have h740 := hfar _ _ _ hne h725
          clear hne
          have h741 := hall _ _ h727
          rw [← hw]
          clear hw hall hfar hc716 h720 h721 h722 h723 h724 h725 h726 h727 h728
          have h742 := hN'
          clear hN'
          by_cases hbn : b < 0
          · skip
            have hcm : cmpZ b 0 = (-1) := by have := Hb0.out; unfold cmpZ; repeat' split <;> omega
            have HBN := hide hbn
            clear hbn
            have hS : ∀ w', New w733 w' → (Blk w' (qa + 1) 24 [.bool bz, .slice Az mz.length cz]) := fun w' hn => h740.new_ hn
            refine wp_region_dm (fun w' => Blk w' (qa + 1) 24 [.bool bz, .slice Az mz.length cz]) [(0, true), (1, false), (2, false), (3, true)] (by kernel_rfl) (by kernel_rfl) (fun _ _ d _ _ h => by cases d <;> exact h) (hS _ (Upd.refl _ _).drew) ?_
            refine st_take (a' := ?_) rfl rfl (y_load2 rfl rfl Try.isAgg24 Try.sizeOf24 (fun _ h => h)) ?_ ?_
            rotate_left; (simp only [Act.put, List.setIfInBounds_toArray, List.set_cons_zero, List.set_cons_succ]; rfl)
            refine st_act rfl rfl fun K hK => a_call (args := #[.int .i64 0]) rfl rfl (fun w => by kernel_rfl) (of_any 0 _ zero_lo zero_hi) ?_
            rintro e w103 ⟨f103, A103, n103, c103, rfl, hc103, hm103⟩
            have hq4_1 := (show New _ _ from (Upd.refl _ _).drew).transNew hm103
            refine ⟨_, rfl, hK _ _ (hS _ hq4_1) ?_⟩
            simp only [Act.put, List.setIfInBounds_toArray, List.set_cons_zero, List.set_cons_succ]
            refine st_act rfl rfl fun K hK => a_call (args := #[.agg #[.bool bz, .slice Az mz.length cz], .agg #[.bool f103, .slice A103 n103 c103]]) rfl rfl (fun w => by kernel_rfl) (cmpz_any _ _ b 0 _ (h741.new_ hq4_1) (hc103.big zero_abs)) ?_
            rintro e w104 ⟨rfl, hm104⟩
            rw [hcm]
            have hq4_2 := (show New _ _ from hq4_1).transNew hm104
            refine ⟨_, rfl, hK _ _ (hS _ hq4_2) ?_⟩
            simp only [Act.put, List.setIfInBounds_toArray, List.set_cons_zero, List.set_cons_succ]
            refine st_take (a' := ?_) rfl rfl (y_run (v := .bool true) fun w => by kernel_rfl) ?_ ?_
            rotate_left; (simp only [Act.put, List.setIfInBounds_toArray, List.set_cons_zero, List.set_cons_succ]; rfl)
            refine st_nil ?_
            have hd743 := (show New _ _ from hq4_2)
            clear hS hq4_1 hq4_2
            have h744 := h736.new_ hd743
            have h745 := h737.new_ hd743
            have h746 := h738.new_ hd743
            have h747 := h739.new_ hd743
            have h748 := h740.new_ hd743
            have h749 := h741.new_ hd743
            have h750 := h742.transNew hd743
            have h751 := h734.new_ hd743
            have h752 := h735.new_ hd743
            clear h736 h737 h738 h739 h740 h741 h742 h734 h735 hd743
            clear hm103 hm104 hc103 hcm
            go_upto_region 25 with (fail)
            have k758 : w104.cell? ⟨(qa + 1), 0, none⟩ = some (.bool bz) := h748.cell 0
            have k759 : w104.cell? ⟨(qa + 1), 1, none⟩ = some (.slice Az mz.length cz) := h748.cell 1
            go_wp2_with fail
            clear k758 k759
            refine (negz_any _ (b) _ h749).mono ?_
            rintro e w760 ⟨f753, A754, n755, c756, rfl, hc757, hn⟩
            have h761 := h744.new_ hn
            have h762 := h745.new_ hn
            have h763 := h746.new_ hn
            have h764 := h747.new_ hn
            have h765 := h748.new_ hn
            have h766 := h749.new_ hn
            have h767 := h750.transNew hn
            have h768 := h751.new_ hn
            have h769 := h752.new_ hn
            clear h744 h745 h746 h747 h748 h749 h750 h751 h752 hn
            have k770 : w760.cell? ⟨(qa + 1), 0, none⟩ = some (.bool bz) := h765.cell 0
            have k771 : w760.cell? ⟨(qa + 1), 1, none⟩ = some (.slice Az mz.length cz) := h765.cell 1
            have k772 := h765.frozen 0
            have k773 := h765.frozen 1
            go_upto_region 26 with (fail)
            clear k770 k771 k772 k773
            obtain ⟨w774, hw, hN', h775, h776, hfar, hall⟩ := store_box hc757 (by rw [Int.natAbs_neg]; exact h766.lt) h765 h767 (by clear hc757; omega)
            have hne : qx ≠ (qa + 1) := by omega
            have h777 := hfar _ _ _ hne h761
            clear hne
            have hne : q520 ≠ (qa + 1) := by omega
            have h778 := hfar _ _ _ hne h762
            clear hne
            have h779 := hall _ _ h763
            have h780 := hall _ _ h764
            have hne : qa ≠ (qa + 1) := by omega
            have h781 := hfar _ _ _ hne h768
            clear hne
            have h782 := hall _ _ h769
            rw [← hw]
            clear hw hall hfar hc757 h761 h762 h763 h764 h765 h766 h767 h768 h769
            have h783 := hN'
            clear hN'
            go_wp2_with fail
            refine (first_any _).mono ?_
            rintro e w784 ⟨rfl, hn⟩
            have h785 := h777.new_ hn
            have h786 := h778.new_ hn
            have h787 := h779.new_ hn
            have h788 := h780.new_ hn
            have h789 := h781.new_ hn
            have h790 := h782.new_ hn
            have h791 := h783.transNew hn
            have h792 := h775.new_ hn
            have h793 := h776.new_ hn
            clear h777 h778 h779 h780 h781 h782 h783 h775 h776 hn
            have k794 : w784.cell? ⟨q520, 0, none⟩ = some (.bool f486) := h786.cell 0
            have k795 : w784.cell? ⟨q520, 1, none⟩ = some (.slice A487 n488 c489) := h786.cell 1
            have k796 : w784.cell? ⟨qx, 0, none⟩ = some (.bool bx) := h785.cell 0
            have k797 : w784.cell? ⟨qx, 1, none⟩ = some (.slice Ax mx.length cx) := h785.cell 1
            go_wp2_with fail
            clear k794 k795 k796 k797
            refine (same_any _ _ (a) (a) _ h788 h787).mono ?_
            rintro e w798 ⟨rfl, hn⟩
            have h799 := h785.new_ hn
            have h800 := h786.new_ hn
            have h801 := h787.new_ hn
            have h802 := h788.new_ hn
            have h803 := h789.new_ hn
            have h804 := h790.new_ hn
            have h805 := h791.transNew hn
            have h806 := h792.new_ hn
            have h807 := h793.new_ hn
            clear h785 h786 h787 h788 h789 h790 h791 h792 h793 hn
            rw [decide_eq_true (rfl : a = a)]
            have k808 : w798.cell? ⟨qa, 0, none⟩ = some (.bool f712) := h803.cell 0
            have k809 : w798.cell? ⟨qa, 1, none⟩ = some (.slice A713 n714 c715) := h803.cell 1
            have k810 : w798.cell? ⟨(qa + 1), 0, none⟩ = some (.bool f753) := h806.cell 0
            have k811 : w798.cell? ⟨(qa + 1), 1, none⟩ = some (.slice A754 n755 c756) := h806.cell 1
            go_wp2_with fail
            clear k808 k809 k810 k811
            refine (cmpz_any _ _ (-(remZ a b)) (-b) _ h804 h807).mono ?_
            rintro e w812 ⟨rfl, hn⟩
            have h813 := h799.new_ hn
            have h814 := h800.new_ hn
            have h815 := h801.new_ hn
            have h816 := h802.new_ hn
            have h817 := h803.new_ hn
            have h818 := h804.new_ hn
            have h819 := h805.transNew hn
            have h820 := h806.new_ hn
            have h821 := h807.new_ hn
            clear h799 h800 h801 h802 h803 h804 h805 h806 h807 hn
            have hfin : cmpZ (-(remZ a b)) (-b) = -1 := by
              have h1 := remZ_lt (a := a) Hb0.out
              have h2 := hfr.out
              have h3 := HBN.out
              have h4 : remZ a b < 0 := by simpa using h2
              unfold cmpZ
              rw [if_pos (by omega)]
            rw [hfin]
            clear hfin
            go_wp2
            go_ret
            exact ⟨rfl, h819⟩
          · skip
            have hcm : cmpZ b 0 = 1 := by have := Hb0.out; unfold cmpZ; repeat' split <;> omega
            have HBN := hide hbn
            clear hbn
            have hS : ∀ w', New w733 w' → (Blk w' (qa + 1) 24 [.bool bz, .slice Az mz.length cz]) := fun w' hn => h740.new_ hn
            refine wp_region_dm (fun w' => Blk w' (qa + 1) 24 [.bool bz, .slice Az mz.length cz]) [(0, true), (1, false), (2, false), (3, true)] (by kernel_rfl) (by kernel_rfl) (fun _ _ d _ _ h => by cases d <;> exact h) (hS _ (Upd.refl _ _).drew) ?_
            refine st_take (a' := ?_) rfl rfl (y_load2 rfl rfl Try.isAgg24 Try.sizeOf24 (fun _ h => h)) ?_ ?_
            rotate_left; (simp only [Act.put, List.setIfInBounds_toArray, List.set_cons_zero, List.set_cons_succ]; rfl)
            refine st_act rfl rfl fun K hK => a_call (args := #[.int .i64 0]) rfl rfl (fun w => by kernel_rfl) (of_any 0 _ zero_lo zero_hi) ?_
            rintro e w103 ⟨f103, A103, n103, c103, rfl, hc103, hm103⟩
            have hq5_1 := (show New _ _ from (Upd.refl _ _).drew).transNew hm103
            refine ⟨_, rfl, hK _ _ (hS _ hq5_1) ?_⟩
            simp only [Act.put, List.setIfInBounds_toArray, List.set_cons_zero, List.set_cons_succ]
            refine st_act rfl rfl fun K hK => a_call (args := #[.agg #[.bool bz, .slice Az mz.length cz], .agg #[.bool f103, .slice A103 n103 c103]]) rfl rfl (fun w => by kernel_rfl) (cmpz_any _ _ b 0 _ (h741.new_ hq5_1) (hc103.big zero_abs)) ?_
            rintro e w104 ⟨rfl, hm104⟩
            rw [hcm]
            have hq5_2 := (show New _ _ from hq5_1).transNew hm104
            refine ⟨_, rfl, hK _ _ (hS _ hq5_2) ?_⟩
            simp only [Act.put, List.setIfInBounds_toArray, List.set_cons_zero, List.set_cons_succ]
            refine st_take (a' := ?_) rfl rfl (y_run (v := .bool false) fun w => by kernel_rfl) ?_ ?_
            rotate_left; (simp only [Act.put, List.setIfInBounds_toArray, List.set_cons_zero, List.set_cons_succ]; rfl)
            refine st_nil ?_
            have hd822 := (show New _ _ from hq5_2)
            clear hS hq5_1 hq5_2
            have h823 := h736.new_ hd822
            have h824 := h737.new_ hd822
            have h825 := h738.new_ hd822
            have h826 := h739.new_ hd822
            have h827 := h740.new_ hd822
            have h828 := h741.new_ hd822
            have h829 := h742.transNew hd822
            have h830 := h734.new_ hd822
            have h831 := h735.new_ hd822
            clear h736 h737 h738 h739 h740 h741 h742 h734 h735 hd822
            clear hm103 hm104 hc103 hcm
            go_upto_region 26 with (fail)
            go_wp2_with fail
            refine (first_any _).mono ?_
            rintro e w832 ⟨rfl, hn⟩
            have h833 := h823.new_ hn
            have h834 := h824.new_ hn
            have h835 := h825.new_ hn
            have h836 := h826.new_ hn
            have h837 := h827.new_ hn
            have h838 := h828.new_ hn
            have h839 := h829.transNew hn
            have h840 := h830.new_ hn
            have h841 := h831.new_ hn
            clear h823 h824 h825 h826 h827 h828 h829 h830 h831 hn
            have k842 : w832.cell? ⟨q520, 0, none⟩ = some (.bool f486) := h834.cell 0
            have k843 : w832.cell? ⟨q520, 1, none⟩ = some (.slice A487 n488 c489) := h834.cell 1
            have k844 : w832.cell? ⟨qx, 0, none⟩ = some (.bool bx) := h833.cell 0
            have k845 : w832.cell? ⟨qx, 1, none⟩ = some (.slice Ax mx.length cx) := h833.cell 1
            go_wp2_with fail
            clear k842 k843 k844 k845
            refine (same_any _ _ (a) (a) _ h836 h835).mono ?_
            rintro e w846 ⟨rfl, hn⟩
            have h847 := h833.new_ hn
            have h848 := h834.new_ hn
            have h849 := h835.new_ hn
            have h850 := h836.new_ hn
            have h851 := h837.new_ hn
            have h852 := h838.new_ hn
            have h853 := h839.transNew hn
            have h854 := h840.new_ hn
            have h855 := h841.new_ hn
            clear h833 h834 h835 h836 h837 h838 h839 h840 h841 hn
            rw [decide_eq_true (rfl : a = a)]
            have k856 : w846.cell? ⟨qa, 0, none⟩ = some (.bool f712) := h854.cell 0
            have k857 : w846.cell? ⟨qa, 1, none⟩ = some (.slice A713 n714 c715) := h854.cell 1
            have k858 : w846.cell? ⟨(qa + 1), 0, none⟩ = some (.bool bz) := h851.cell 0
            have k859 : w846.cell? ⟨(qa + 1), 1, none⟩ = some (.slice Az mz.length cz) := h851.cell 1
            go_wp2_with fail
            clear k856 k857 k858 k859
            refine (cmpz_any _ _ (-(remZ a b)) (b) _ h855 h852).mono ?_
            rintro e w860 ⟨rfl, hn⟩
            have h861 := h847.new_ hn
            have h862 := h848.new_ hn
            have h863 := h849.new_ hn
            have h864 := h850.new_ hn
            have h865 := h851.new_ hn
            have h866 := h852.new_ hn
            have h867 := h853.transNew hn
            have h868 := h854.new_ hn
            have h869 := h855.new_ hn
            clear h847 h848 h849 h850 h851 h852 h853 h854 h855 hn
            have hfin : cmpZ (-(remZ a b)) (b) = -1 := by
              have h1 := remZ_lt (a := a) Hb0.out
              have h2 := hfr.out
              have h3 := HBN.out
              have h4 : remZ a b < 0 := by simpa using h2
              unfold cmpZ
              rw [if_pos (by omega)]
            rw [hfin]
            clear hfin
            go_wp2
            go_ret
            exact ⟨rfl, h867⟩
      · skip
        clear k543 k544 k545 k546 k547 k548 k549 k550 k551 k552 k553 k554
        obtain ⟨w870, hw⟩ : ∃ w', w' = ((w518.alloc (.cells #[.bool bz, .slice Az mz.length cz] 24)).alloc (.cells #[.bool f384, .slice A385 n386 c387] 24)).drew := ⟨_, rfl⟩
        have hn : New w518 w870 := by rw [hw]; exact (((Upd.refl _ _).alloc _).alloc _).drew
        have hbP : Blk w870 w518.heap.size 24 [.bool bz, .slice Az mz.length cz] := by rw [hw]; exact ((Blk.new w518 _ _).alloc _).drew
        have hbQ : Blk w870 (w518.heap.size + 1) 24 [.bool f384, .slice A385 n386 c387] := by
          rw [hw]
          have := Blk.new (w518.alloc (.cells #[.bool bz, .slice Az mz.length cz] 24)) 24 [.bool f384, .slice A385 n386 c387]
          rw [show (w518.alloc (.cells #[.bool bz, .slice Az mz.length cz] 24)).heap.size = w518.heap.size + 1 by simp] at this
          exact this.drew
        rw [← hw]
        clear hw
        have hl0 : w.heap.size ≤ w518.heap.size := h527.size
        have hl_x := h523.lt
        have hl_back := hb519.lt
        obtain ⟨qa, hqa⟩ : ∃ q, q = w518.heap.size := ⟨_, rfl⟩
        rw [← hqa] at hbP hbQ hl0 hl_x hl_back ⊢
        clear hqa
        have h871 := h521.new_ hn
        have h872 := h522.new_ hn
        have h873 := h523.new_ hn
        have h874 := h524.new_ hn
        have h875 := h525.new_ hn
        have h876 := h526.new_ hn
        have h877 := h527.transNew hn
        have h878 := h528.new_ hn
        have h879 := h529.new_ hn
        have h880 := h530.new_ hn
        have h881 := h531.new_ hn
        have h882 := h532.new_ hn
        have h883 := h533.new_ hn
        have h884 := h534.new_ hn
        have h885 := h535.new_ hn
        have h886 := h536.new_ hn
        have h887 := h537.new_ hn
        have h888 := h538.new_ hn
        have h889 := h539.new_ hn
        have h890 := h540.new_ hn
        have h891 := h541.new_ hn
        have h892 := h542.new_ hn
        have h893 := hb519.new_ hn
        clear h521 h522 h523 h524 h525 h526 h527 h528 h529 h530 h531 h532 h533 h534 h535 h536 h537 h538 h539 h540 h541 h542 hb519 hn
        have hbr := hbQ
        have hby := hbP
        clear hbP hbQ
        have h894 := h888
        have h895 := h874
        cases f384
        · skip
          have k896 : w870.cell? ⟨(qa + 1), 0, none⟩ = some (.bool false) := hbr.cell 0
          have k897 : w870.cell? ⟨(qa + 1), 1, none⟩ = some (.slice A385 n386 c387) := hbr.cell 1
          go_upto_region 24 with (fail)
          clear k896 k897
          by_cases hbn : b < 0
          · skip
            have hcm : cmpZ b 0 = (-1) := by have := Hb0.out; unfold cmpZ; repeat' split <;> omega
            have HBN := hide hbn
            clear hbn
            have hS : ∀ w', New w870 w' → (Blk w' qa 24 [.bool bz, .slice Az mz.length cz]) := fun w' hn => hby.new_ hn
            refine wp_region_dm (fun w' => Blk w' qa 24 [.bool bz, .slice Az mz.length cz]) [(0, true), (1, false), (2, false), (3, true)] (by kernel_rfl) (by kernel_rfl) (fun _ _ d _ _ h => by cases d <;> exact h) (hS _ (Upd.refl _ _).drew) ?_
            refine st_take (a' := ?_) rfl rfl (y_load2 rfl rfl Try.isAgg24 Try.sizeOf24 (fun _ h => h)) ?_ ?_
            rotate_left; (simp only [Act.put, List.setIfInBounds_toArray, List.set_cons_zero, List.set_cons_succ]; rfl)
            refine st_act rfl rfl fun K hK => a_call (args := #[.int .i64 0]) rfl rfl (fun w => by kernel_rfl) (of_any 0 _ zero_lo zero_hi) ?_
            rintro e w103 ⟨f103, A103, n103, c103, rfl, hc103, hm103⟩
            have hq6_1 := (show New _ _ from (Upd.refl _ _).drew).transNew hm103
            refine ⟨_, rfl, hK _ _ (hS _ hq6_1) ?_⟩
            simp only [Act.put, List.setIfInBounds_toArray, List.set_cons_zero, List.set_cons_succ]
            refine st_act rfl rfl fun K hK => a_call (args := #[.agg #[.bool bz, .slice Az mz.length cz], .agg #[.bool f103, .slice A103 n103 c103]]) rfl rfl (fun w => by kernel_rfl) (cmpz_any _ _ b 0 _ (h895.new_ hq6_1) (hc103.big zero_abs)) ?_
            rintro e w104 ⟨rfl, hm104⟩
            rw [hcm]
            have hq6_2 := (show New _ _ from hq6_1).transNew hm104
            refine ⟨_, rfl, hK _ _ (hS _ hq6_2) ?_⟩
            simp only [Act.put, List.setIfInBounds_toArray, List.set_cons_zero, List.set_cons_succ]
            refine st_take (a' := ?_) rfl rfl (y_run (v := .bool true) fun w => by kernel_rfl) ?_ ?_
            rotate_left; (simp only [Act.put, List.setIfInBounds_toArray, List.set_cons_zero, List.set_cons_succ]; rfl)
            refine st_nil ?_
            have hd898 := (show New _ _ from hq6_2)
            clear hS hq6_1 hq6_2
            have h899 := h873.new_ hd898
            have h900 := h893.new_ hd898
            have h901 := h871.new_ hd898
            have h902 := h892.new_ hd898
            have h903 := hbr.new_ hd898
            have h904 := hby.new_ hd898
            have h905 := h894.new_ hd898
            have h906 := h895.new_ hd898
            have h907 := h877.transNew hd898
            clear h873 h893 h871 h892 hbr hby h894 h895 h877 hd898
            clear hm103 hm104 hc103 hcm
            go_upto_region 25 with (fail)
            have k913 : w104.cell? ⟨qa, 0, none⟩ = some (.bool bz) := h904.cell 0
            have k914 : w104.cell? ⟨qa, 1, none⟩ = some (.slice Az mz.length cz) := h904.cell 1
            go_wp2_with fail
            clear k913 k914
            refine (negz_any _ (b) _ h906).mono ?_
            rintro e w915 ⟨f908, A909, n910, c911, rfl, hc912, hn⟩
            have h916 := h899.new_ hn
            have h917 := h900.new_ hn
            have h918 := h901.new_ hn
            have h919 := h902.new_ hn
            have h920 := h903.new_ hn
            have h921 := h904.new_ hn
            have h922 := h905.new_ hn
            have h923 := h906.new_ hn
            have h924 := h907.transNew hn
            clear h899 h900 h901 h902 h903 h904 h905 h906 h907 hn
            have k925 : w915.cell? ⟨qa, 0, none⟩ = some (.bool bz) := h921.cell 0
            have k926 : w915.cell? ⟨qa, 1, none⟩ = some (.slice Az mz.length cz) := h921.cell 1
            have k927 := h921.frozen 0
            have k928 := h921.frozen 1
            go_upto_region 26 with (fail)
            clear k925 k926 k927 k928
            obtain ⟨w929, hw, hN', h930, h931, hfar, hall⟩ := store_box hc912 (by rw [Int.natAbs_neg]; exact h923.lt) h921 h924 (by clear hc912; omega)
            have hne : qx ≠ qa := by omega
            have h932 := hfar _ _ _ hne h916
            clear hne
            have hne : q520 ≠ qa := by omega
            have h933 := hfar _ _ _ hne h917
            clear hne
            have h934 := hall _ _ h918
            have h935 := hall _ _ h919
            have hne : (qa + 1) ≠ qa := by omega
            have h936 := hfar _ _ _ hne h920
            clear hne
            have h937 := hall _ _ h922
            rw [← hw]
            clear hw hall hfar hc912 h916 h917 h918 h919 h920 h921 h922 h923 h924
            have h938 := hN'
            clear hN'
            go_wp2_with fail
            refine (first_any _).mono ?_
            rintro e w939 ⟨rfl, hn⟩
            have h940 := h932.new_ hn
            have h941 := h933.new_ hn
            have h942 := h934.new_ hn
            have h943 := h935.new_ hn
            have h944 := h936.new_ hn
            have h945 := h937.new_ hn
            have h946 := h938.transNew hn
            have h947 := h930.new_ hn
            have h948 := h931.new_ hn
            clear h932 h933 h934 h935 h936 h937 h938 h930 h931 hn
            have k949 : w939.cell? ⟨q520, 0, none⟩ = some (.bool f486) := h941.cell 0
            have k950 : w939.cell? ⟨q520, 1, none⟩ = some (.slice A487 n488 c489) := h941.cell 1
            have k951 : w939.cell? ⟨qx, 0, none⟩ = some (.bool bx) := h940.cell 0
            have k952 : w939.cell? ⟨qx, 1, none⟩ = some (.slice Ax mx.length cx) := h940.cell 1
            go_wp2_with fail
            clear k949 k950 k951 k952
            refine (same_any _ _ (a) (a) _ h943 h942).mono ?_
            rintro e w953 ⟨rfl, hn⟩
            have h954 := h940.new_ hn
            have h955 := h941.new_ hn
            have h956 := h942.new_ hn
            have h957 := h943.new_ hn
            have h958 := h944.new_ hn
            have h959 := h945.new_ hn
            have h960 := h946.transNew hn
            have h961 := h947.new_ hn
            have h962 := h948.new_ hn
            clear h940 h941 h942 h943 h944 h945 h946 h947 h948 hn
            rw [decide_eq_true (rfl : a = a)]
            have k963 : w953.cell? ⟨(qa + 1), 0, none⟩ = some (.bool false) := h958.cell 0
            have k964 : w953.cell? ⟨(qa + 1), 1, none⟩ = some (.slice A385 n386 c387) := h958.cell 1
            have k965 : w953.cell? ⟨qa, 0, none⟩ = some (.bool f908) := h961.cell 0
            have k966 : w953.cell? ⟨qa, 1, none⟩ = some (.slice A909 n910 c911) := h961.cell 1
            go_wp2_with fail
            clear k963 k964 k965 k966
            refine (cmpz_any _ _ (remZ a b) (-b) _ h959 h962).mono ?_
            rintro e w967 ⟨rfl, hn⟩
            have h968 := h954.new_ hn
            have h969 := h955.new_ hn
            have h970 := h956.new_ hn
            have h971 := h957.new_ hn
            have h972 := h958.new_ hn
            have h973 := h959.new_ hn
            have h974 := h960.transNew hn
            have h975 := h961.new_ hn
            have h976 := h962.new_ hn
            clear h954 h955 h956 h957 h958 h959 h960 h961 h962 hn
            have hfin : cmpZ (remZ a b) (-b) = -1 := by
              have h1 := remZ_lt (a := a) Hb0.out
              have h2 := hfr.out
              have h3 := HBN.out
              have h4 : 0 ≤ remZ a b := by simpa using h2
              unfold cmpZ
              rw [if_pos (by omega)]
            rw [hfin]
            clear hfin
            go_wp2
            go_ret
            exact ⟨rfl, h974⟩
          · skip
            have hcm : cmpZ b 0 = 1 := by have := Hb0.out; unfold cmpZ; repeat' split <;> omega
            have HBN := hide hbn
            clear hbn
            have hS : ∀ w', New w870 w' → (Blk w' qa 24 [.bool bz, .slice Az mz.length cz]) := fun w' hn => hby.new_ hn
            refine wp_region_dm (fun w' => Blk w' qa 24 [.bool bz, .slice Az mz.length cz]) [(0, true), (1, false), (2, false), (3, true)] (by kernel_rfl) (by kernel_rfl) (fun _ _ d _ _ h => by cases d <;> exact h) (hS _ (Upd.refl _ _).drew) ?_
            refine st_take (a' := ?_) rfl rfl (y_load2 rfl rfl Try.isAgg24 Try.sizeOf24 (fun _ h => h)) ?_ ?_
            rotate_left; (simp only [Act.put, List.setIfInBounds_toArray, List.set_cons_zero, List.set_cons_succ]; rfl)
            refine st_act rfl rfl fun K hK => a_call (args := #[.int .i64 0]) rfl rfl (fun w => by kernel_rfl) (of_any 0 _ zero_lo zero_hi) ?_
            rintro e w103 ⟨f103, A103, n103, c103, rfl, hc103, hm103⟩
            have hq7_1 := (show New _ _ from (Upd.refl _ _).drew).transNew hm103
            refine ⟨_, rfl, hK _ _ (hS _ hq7_1) ?_⟩
            simp only [Act.put, List.setIfInBounds_toArray, List.set_cons_zero, List.set_cons_succ]
            refine st_act rfl rfl fun K hK => a_call (args := #[.agg #[.bool bz, .slice Az mz.length cz], .agg #[.bool f103, .slice A103 n103 c103]]) rfl rfl (fun w => by kernel_rfl) (cmpz_any _ _ b 0 _ (h895.new_ hq7_1) (hc103.big zero_abs)) ?_
            rintro e w104 ⟨rfl, hm104⟩
            rw [hcm]
            have hq7_2 := (show New _ _ from hq7_1).transNew hm104
            refine ⟨_, rfl, hK _ _ (hS _ hq7_2) ?_⟩
            simp only [Act.put, List.setIfInBounds_toArray, List.set_cons_zero, List.set_cons_succ]
            refine st_take (a' := ?_) rfl rfl (y_run (v := .bool false) fun w => by kernel_rfl) ?_ ?_
            rotate_left; (simp only [Act.put, List.setIfInBounds_toArray, List.set_cons_zero, List.set_cons_succ]; rfl)
            refine st_nil ?_
            have hd977 := (show New _ _ from hq7_2)
            clear hS hq7_1 hq7_2
            have h978 := h873.new_ hd977
            have h979 := h893.new_ hd977
            have h980 := h871.new_ hd977
            have h981 := h892.new_ hd977
            have h982 := hbr.new_ hd977
            have h983 := hby.new_ hd977
            have h984 := h894.new_ hd977
            have h985 := h895.new_ hd977
            have h986 := h877.transNew hd977
            clear h873 h893 h871 h892 hbr hby h894 h895 h877 hd977
            clear hm103 hm104 hc103 hcm
            go_upto_region 26 with (fail)
            go_wp2_with fail
            refine (first_any _).mono ?_
            rintro e w987 ⟨rfl, hn⟩
            have h988 := h978.new_ hn
            have h989 := h979.new_ hn
            have h990 := h980.new_ hn
            have h991 := h981.new_ hn
            have h992 := h982.new_ hn
            have h993 := h983.new_ hn
            have h994 := h984.new_ hn
            have h995 := h985.new_ hn
            have h996 := h986.transNew hn
            clear h978 h979 h980 h981 h982 h983 h984 h985 h986 hn
            have k997 : w987.cell? ⟨q520, 0, none⟩ = some (.bool f486) := h989.cell 0
            have k998 : w987.cell? ⟨q520, 1, none⟩ = some (.slice A487 n488 c489) := h989.cell 1
            have k999 : w987.cell? ⟨qx, 0, none⟩ = some (.bool bx) := h988.cell 0
            have k1000 : w987.cell? ⟨qx, 1, none⟩ = some (.slice Ax mx.length cx) := h988.cell 1
            go_wp2_with fail
            clear k997 k998 k999 k1000
            refine (same_any _ _ (a) (a) _ h991 h990).mono ?_
            rintro e w1001 ⟨rfl, hn⟩
            have h1002 := h988.new_ hn
            have h1003 := h989.new_ hn
            have h1004 := h990.new_ hn
            have h1005 := h991.new_ hn
            have h1006 := h992.new_ hn
            have h1007 := h993.new_ hn
            have h1008 := h994.new_ hn
            have h1009 := h995.new_ hn
            have h1010 := h996.transNew hn
            clear h988 h989 h990 h991 h992 h993 h994 h995 h996 hn
            rw [decide_eq_true (rfl : a = a)]
            have k1011 : w1001.cell? ⟨(qa + 1), 0, none⟩ = some (.bool false) := h1006.cell 0
            have k1012 : w1001.cell? ⟨(qa + 1), 1, none⟩ = some (.slice A385 n386 c387) := h1006.cell 1
            have k1013 : w1001.cell? ⟨qa, 0, none⟩ = some (.bool bz) := h1007.cell 0
            have k1014 : w1001.cell? ⟨qa, 1, none⟩ = some (.slice Az mz.length cz) := h1007.cell 1
            go_wp2_with fail
            clear k1011 k1012 k1013 k1014
            refine (cmpz_any _ _ (remZ a b) (b) _ h1008 h1009).mono ?_
            rintro e w1015 ⟨rfl, hn⟩
            have h1016 := h1002.new_ hn
            have h1017 := h1003.new_ hn
            have h1018 := h1004.new_ hn
            have h1019 := h1005.new_ hn
            have h1020 := h1006.new_ hn
            have h1021 := h1007.new_ hn
            have h1022 := h1008.new_ hn
            have h1023 := h1009.new_ hn
            have h1024 := h1010.transNew hn
            clear h1002 h1003 h1004 h1005 h1006 h1007 h1008 h1009 h1010 hn
            have hfin : cmpZ (remZ a b) (b) = -1 := by
              have h1 := remZ_lt (a := a) Hb0.out
              have h2 := hfr.out
              have h3 := HBN.out
              have h4 : 0 ≤ remZ a b := by simpa using h2
              unfold cmpZ
              rw [if_pos (by omega)]
            rw [hfin]
            clear hfin
            go_wp2
            go_ret
            exact ⟨rfl, h1024⟩
        · skip
          have k1025 : w870.cell? ⟨(qa + 1), 0, none⟩ = some (.bool true) := hbr.cell 0
          have k1026 : w870.cell? ⟨(qa + 1), 1, none⟩ = some (.slice A385 n386 c387) := hbr.cell 1
          go_upto_region 23 with (fail)
          clear k1025 k1026
          have k1032 : w870.cell? ⟨(qa + 1), 0, none⟩ = some (.bool true) := hbr.cell 0
          have k1033 : w870.cell? ⟨(qa + 1), 1, none⟩ = some (.slice A385 n386 c387) := hbr.cell 1
          go_wp2_with fail
          clear k1032 k1033
          refine (negz_any _ (remZ a b) _ h894).mono ?_
          rintro e w1034 ⟨f1027, A1028, n1029, c1030, rfl, hc1031, hn⟩
          have h1035 := h873.new_ hn
          have h1036 := h893.new_ hn
          have h1037 := h871.new_ hn
          have h1038 := h892.new_ hn
          have h1039 := hbr.new_ hn
          have h1040 := hby.new_ hn
          have h1041 := h894.new_ hn
          have h1042 := h895.new_ hn
          have h1043 := h877.transNew hn
          clear h873 h893 h871 h892 hbr hby h894 h895 h877 hn
          have k1044 : w1034.cell? ⟨(qa + 1), 0, none⟩ = some (.bool true) := h1039.cell 0
          have k1045 : w1034.cell? ⟨(qa + 1), 1, none⟩ = some (.slice A385 n386 c387) := h1039.cell 1
          have k1046 := h1039.frozen 0
          have k1047 := h1039.frozen 1
          go_upto_region 24 with (fail)
          clear k1044 k1045 k1046 k1047
          obtain ⟨w1048, hw, hN', h1049, h1050, hfar, hall⟩ := store_box hc1031 (by rw [Int.natAbs_neg]; exact h1041.lt) h1039 h1043 (by clear hc1031; omega)
          have hne : qx ≠ (qa + 1) := by omega
          have h1051 := hfar _ _ _ hne h1035
          clear hne
          have hne : q520 ≠ (qa + 1) := by omega
          have h1052 := hfar _ _ _ hne h1036
          clear hne
          have h1053 := hall _ _ h1037
          have h1054 := hall _ _ h1038
          have hne : qa ≠ (qa + 1) := by omega
          have h1055 := hfar _ _ _ hne h1040
          clear hne
          have h1056 := hall _ _ h1042
          rw [← hw]
          clear hw hall hfar hc1031 h1035 h1036 h1037 h1038 h1039 h1040 h1041 h1042 h1043
          have h1057 := hN'
          clear hN'
          by_cases hbn : b < 0
          · skip
            have hcm : cmpZ b 0 = (-1) := by have := Hb0.out; unfold cmpZ; repeat' split <;> omega
            have HBN := hide hbn
            clear hbn
            have hS : ∀ w', New w1048 w' → (Blk w' qa 24 [.bool bz, .slice Az mz.length cz]) := fun w' hn => h1055.new_ hn
            refine wp_region_dm (fun w' => Blk w' qa 24 [.bool bz, .slice Az mz.length cz]) [(0, true), (1, false), (2, false), (3, true)] (by kernel_rfl) (by kernel_rfl) (fun _ _ d _ _ h => by cases d <;> exact h) (hS _ (Upd.refl _ _).drew) ?_
            refine st_take (a' := ?_) rfl rfl (y_load2 rfl rfl Try.isAgg24 Try.sizeOf24 (fun _ h => h)) ?_ ?_
            rotate_left; (simp only [Act.put, List.setIfInBounds_toArray, List.set_cons_zero, List.set_cons_succ]; rfl)
            refine st_act rfl rfl fun K hK => a_call (args := #[.int .i64 0]) rfl rfl (fun w => by kernel_rfl) (of_any 0 _ zero_lo zero_hi) ?_
            rintro e w103 ⟨f103, A103, n103, c103, rfl, hc103, hm103⟩
            have hq8_1 := (show New _ _ from (Upd.refl _ _).drew).transNew hm103
            refine ⟨_, rfl, hK _ _ (hS _ hq8_1) ?_⟩
            simp only [Act.put, List.setIfInBounds_toArray, List.set_cons_zero, List.set_cons_succ]
            refine st_act rfl rfl fun K hK => a_call (args := #[.agg #[.bool bz, .slice Az mz.length cz], .agg #[.bool f103, .slice A103 n103 c103]]) rfl rfl (fun w => by kernel_rfl) (cmpz_any _ _ b 0 _ (h1056.new_ hq8_1) (hc103.big zero_abs)) ?_
            rintro e w104 ⟨rfl, hm104⟩
            rw [hcm]
            have hq8_2 := (show New _ _ from hq8_1).transNew hm104
            refine ⟨_, rfl, hK _ _ (hS _ hq8_2) ?_⟩
            simp only [Act.put, List.setIfInBounds_toArray, List.set_cons_zero, List.set_cons_succ]
            refine st_take (a' := ?_) rfl rfl (y_run (v := .bool true) fun w => by kernel_rfl) ?_ ?_
            rotate_left; (simp only [Act.put, List.setIfInBounds_toArray, List.set_cons_zero, List.set_cons_succ]; rfl)
            refine st_nil ?_
            have hd1058 := (show New _ _ from hq8_2)
            clear hS hq8_1 hq8_2
            have h1059 := h1051.new_ hd1058
            have h1060 := h1052.new_ hd1058
            have h1061 := h1053.new_ hd1058
            have h1062 := h1054.new_ hd1058
            have h1063 := h1055.new_ hd1058
            have h1064 := h1056.new_ hd1058
            have h1065 := h1057.transNew hd1058
            have h1066 := h1049.new_ hd1058
            have h1067 := h1050.new_ hd1058
            clear h1051 h1052 h1053 h1054 h1055 h1056 h1057 h1049 h1050 hd1058
            clear hm103 hm104 hc103 hcm
            go_upto_region 25 with (fail)
            have k1073 : w104.cell? ⟨qa, 0, none⟩ = some (.bool bz) := h1063.cell 0
            have k1074 : w104.cell? ⟨qa, 1, none⟩ = some (.slice Az mz.length cz) := h1063.cell 1
            go_wp2_with fail
            clear k1073 k1074
            refine (negz_any _ (b) _ h1064).mono ?_
            rintro e w1075 ⟨f1068, A1069, n1070, c1071, rfl, hc1072, hn⟩
            have h1076 := h1059.new_ hn
            have h1077 := h1060.new_ hn
            have h1078 := h1061.new_ hn
            have h1079 := h1062.new_ hn
            have h1080 := h1063.new_ hn
            have h1081 := h1064.new_ hn
            have h1082 := h1065.transNew hn
            have h1083 := h1066.new_ hn
            have h1084 := h1067.new_ hn
            clear h1059 h1060 h1061 h1062 h1063 h1064 h1065 h1066 h1067 hn
            have k1085 : w1075.cell? ⟨qa, 0, none⟩ = some (.bool bz) := h1080.cell 0
            have k1086 : w1075.cell? ⟨qa, 1, none⟩ = some (.slice Az mz.length cz) := h1080.cell 1
            have k1087 := h1080.frozen 0
            have k1088 := h1080.frozen 1
            go_upto_region 26 with (fail)
            clear k1085 k1086 k1087 k1088
            obtain ⟨w1089, hw, hN', h1090, h1091, hfar, hall⟩ := store_box hc1072 (by rw [Int.natAbs_neg]; exact h1081.lt) h1080 h1082 (by clear hc1072; omega)
            have hne : qx ≠ qa := by omega
            have h1092 := hfar _ _ _ hne h1076
            clear hne
            have hne : q520 ≠ qa := by omega
            have h1093 := hfar _ _ _ hne h1077
            clear hne
            have h1094 := hall _ _ h1078
            have h1095 := hall _ _ h1079
            have hne : (qa + 1) ≠ qa := by omega
            have h1096 := hfar _ _ _ hne h1083
            clear hne
            have h1097 := hall _ _ h1084
            rw [← hw]
            clear hw hall hfar hc1072 h1076 h1077 h1078 h1079 h1080 h1081 h1082 h1083 h1084
            have h1098 := hN'
            clear hN'
            go_wp2_with fail
            refine (first_any _).mono ?_
            rintro e w1099 ⟨rfl, hn⟩
            have h1100 := h1092.new_ hn
            have h1101 := h1093.new_ hn
            have h1102 := h1094.new_ hn
            have h1103 := h1095.new_ hn
            have h1104 := h1096.new_ hn
            have h1105 := h1097.new_ hn
            have h1106 := h1098.transNew hn
            have h1107 := h1090.new_ hn
            have h1108 := h1091.new_ hn
            clear h1092 h1093 h1094 h1095 h1096 h1097 h1098 h1090 h1091 hn
            have k1109 : w1099.cell? ⟨q520, 0, none⟩ = some (.bool f486) := h1101.cell 0
            have k1110 : w1099.cell? ⟨q520, 1, none⟩ = some (.slice A487 n488 c489) := h1101.cell 1
            have k1111 : w1099.cell? ⟨qx, 0, none⟩ = some (.bool bx) := h1100.cell 0
            have k1112 : w1099.cell? ⟨qx, 1, none⟩ = some (.slice Ax mx.length cx) := h1100.cell 1
            go_wp2_with fail
            clear k1109 k1110 k1111 k1112
            refine (same_any _ _ (a) (a) _ h1103 h1102).mono ?_
            rintro e w1113 ⟨rfl, hn⟩
            have h1114 := h1100.new_ hn
            have h1115 := h1101.new_ hn
            have h1116 := h1102.new_ hn
            have h1117 := h1103.new_ hn
            have h1118 := h1104.new_ hn
            have h1119 := h1105.new_ hn
            have h1120 := h1106.transNew hn
            have h1121 := h1107.new_ hn
            have h1122 := h1108.new_ hn
            clear h1100 h1101 h1102 h1103 h1104 h1105 h1106 h1107 h1108 hn
            rw [decide_eq_true (rfl : a = a)]
            have k1123 : w1113.cell? ⟨(qa + 1), 0, none⟩ = some (.bool f1027) := h1118.cell 0
            have k1124 : w1113.cell? ⟨(qa + 1), 1, none⟩ = some (.slice A1028 n1029 c1030) := h1118.cell 1
            have k1125 : w1113.cell? ⟨qa, 0, none⟩ = some (.bool f1068) := h1121.cell 0
            have k1126 : w1113.cell? ⟨qa, 1, none⟩ = some (.slice A1069 n1070 c1071) := h1121.cell 1
            go_wp2_with fail
            clear k1123 k1124 k1125 k1126
            refine (cmpz_any _ _ (-(remZ a b)) (-b) _ h1119 h1122).mono ?_
            rintro e w1127 ⟨rfl, hn⟩
            have h1128 := h1114.new_ hn
            have h1129 := h1115.new_ hn
            have h1130 := h1116.new_ hn
            have h1131 := h1117.new_ hn
            have h1132 := h1118.new_ hn
            have h1133 := h1119.new_ hn
            have h1134 := h1120.transNew hn
            have h1135 := h1121.new_ hn
            have h1136 := h1122.new_ hn
            clear h1114 h1115 h1116 h1117 h1118 h1119 h1120 h1121 h1122 hn
            have hfin : cmpZ (-(remZ a b)) (-b) = -1 := by
              have h1 := remZ_lt (a := a) Hb0.out
              have h2 := hfr.out
              have h3 := HBN.out
              have h4 : remZ a b < 0 := by simpa using h2
              unfold cmpZ
              rw [if_pos (by omega)]
            rw [hfin]
            clear hfin
            go_wp2
            go_ret
            exact ⟨rfl, h1134⟩
          · skip
            have hcm : cmpZ b 0 = 1 := by have := Hb0.out; unfold cmpZ; repeat' split <;> omega
            have HBN := hide hbn
            clear hbn
            have hS : ∀ w', New w1048 w' → (Blk w' qa 24 [.bool bz, .slice Az mz.length cz]) := fun w' hn => h1055.new_ hn
            refine wp_region_dm (fun w' => Blk w' qa 24 [.bool bz, .slice Az mz.length cz]) [(0, true), (1, false), (2, false), (3, true)] (by kernel_rfl) (by kernel_rfl) (fun _ _ d _ _ h => by cases d <;> exact h) (hS _ (Upd.refl _ _).drew) ?_
            refine st_take (a' := ?_) rfl rfl (y_load2 rfl rfl Try.isAgg24 Try.sizeOf24 (fun _ h => h)) ?_ ?_
            rotate_left; (simp only [Act.put, List.setIfInBounds_toArray, List.set_cons_zero, List.set_cons_succ]; rfl)
            refine st_act rfl rfl fun K hK => a_call (args := #[.int .i64 0]) rfl rfl (fun w => by kernel_rfl) (of_any 0 _ zero_lo zero_hi) ?_
            rintro e w103 ⟨f103, A103, n103, c103, rfl, hc103, hm103⟩
            have hq9_1 := (show New _ _ from (Upd.refl _ _).drew).transNew hm103
            refine ⟨_, rfl, hK _ _ (hS _ hq9_1) ?_⟩
            simp only [Act.put, List.setIfInBounds_toArray, List.set_cons_zero, List.set_cons_succ]
            refine st_act rfl rfl fun K hK => a_call (args := #[.agg #[.bool bz, .slice Az mz.length cz], .agg #[.bool f103, .slice A103 n103 c103]]) rfl rfl (fun w => by kernel_rfl) (cmpz_any _ _ b 0 _ (h1056.new_ hq9_1) (hc103.big zero_abs)) ?_
            rintro e w104 ⟨rfl, hm104⟩
            rw [hcm]
            have hq9_2 := (show New _ _ from hq9_1).transNew hm104
            refine ⟨_, rfl, hK _ _ (hS _ hq9_2) ?_⟩
            simp only [Act.put, List.setIfInBounds_toArray, List.set_cons_zero, List.set_cons_succ]
            refine st_take (a' := ?_) rfl rfl (y_run (v := .bool false) fun w => by kernel_rfl) ?_ ?_
            rotate_left; (simp only [Act.put, List.setIfInBounds_toArray, List.set_cons_zero, List.set_cons_succ]; rfl)
            refine st_nil ?_
            have hd1137 := (show New _ _ from hq9_2)
            clear hS hq9_1 hq9_2
            have h1138 := h1051.new_ hd1137
            have h1139 := h1052.new_ hd1137
            have h1140 := h1053.new_ hd1137
            have h1141 := h1054.new_ hd1137
            have h1142 := h1055.new_ hd1137
            have h1143 := h1056.new_ hd1137
            have h1144 := h1057.transNew hd1137
            have h1145 := h1049.new_ hd1137
            have h1146 := h1050.new_ hd1137
            clear h1051 h1052 h1053 h1054 h1055 h1056 h1057 h1049 h1050 hd1137
            clear hm103 hm104 hc103 hcm
            go_upto_region 26 with (fail)
            go_wp2_with fail
            refine (first_any _).mono ?_
            rintro e w1147 ⟨rfl, hn⟩
            have h1148 := h1138.new_ hn
            have h1149 := h1139.new_ hn
            have h1150 := h1140.new_ hn
            have h1151 := h1141.new_ hn
            have h1152 := h1142.new_ hn
            have h1153 := h1143.new_ hn
            have h1154 := h1144.transNew hn
            have h1155 := h1145.new_ hn
            have h1156 := h1146.new_ hn
            clear h1138 h1139 h1140 h1141 h1142 h1143 h1144 h1145 h1146 hn
            have k1157 : w1147.cell? ⟨q520, 0, none⟩ = some (.bool f486) := h1149.cell 0
            have k1158 : w1147.cell? ⟨q520, 1, none⟩ = some (.slice A487 n488 c489) := h1149.cell 1
            have k1159 : w1147.cell? ⟨qx, 0, none⟩ = some (.bool bx) := h1148.cell 0
            have k1160 : w1147.cell? ⟨qx, 1, none⟩ = some (.slice Ax mx.length cx) := h1148.cell 1
            go_wp2_with fail
            clear k1157 k1158 k1159 k1160
            refine (same_any _ _ (a) (a) _ h1151 h1150).mono ?_
            rintro e w1161 ⟨rfl, hn⟩
            have h1162 := h1148.new_ hn
            have h1163 := h1149.new_ hn
            have h1164 := h1150.new_ hn
            have h1165 := h1151.new_ hn
            have h1166 := h1152.new_ hn
            have h1167 := h1153.new_ hn
            have h1168 := h1154.transNew hn
            have h1169 := h1155.new_ hn
            have h1170 := h1156.new_ hn
            clear h1148 h1149 h1150 h1151 h1152 h1153 h1154 h1155 h1156 hn
            rw [decide_eq_true (rfl : a = a)]
            have k1171 : w1161.cell? ⟨(qa + 1), 0, none⟩ = some (.bool f1027) := h1169.cell 0
            have k1172 : w1161.cell? ⟨(qa + 1), 1, none⟩ = some (.slice A1028 n1029 c1030) := h1169.cell 1
            have k1173 : w1161.cell? ⟨qa, 0, none⟩ = some (.bool bz) := h1166.cell 0
            have k1174 : w1161.cell? ⟨qa, 1, none⟩ = some (.slice Az mz.length cz) := h1166.cell 1
            go_wp2_with fail
            clear k1171 k1172 k1173 k1174
            refine (cmpz_any _ _ (-(remZ a b)) (b) _ h1170 h1167).mono ?_
            rintro e w1175 ⟨rfl, hn⟩
            have h1176 := h1162.new_ hn
            have h1177 := h1163.new_ hn
            have h1178 := h1164.new_ hn
            have h1179 := h1165.new_ hn
            have h1180 := h1166.new_ hn
            have h1181 := h1167.new_ hn
            have h1182 := h1168.transNew hn
            have h1183 := h1169.new_ hn
            have h1184 := h1170.new_ hn
            clear h1162 h1163 h1164 h1165 h1166 h1167 h1168 h1169 h1170 hn
            have hfin : cmpZ (-(remZ a b)) (b) = -1 := by
              have h1 := remZ_lt (a := a) Hb0.out
              have h2 := hfr.out
              have h3 := HBN.out
              have h4 : remZ a b < 0 := by simpa using h2
              unfold cmpZ
              rw [if_pos (by omega)]
            rw [hfin]
            clear hfin
            go_wp2
            go_ret
            exact ⟨rfl, h1182⟩
  · skip
    have k1190 : w209.cell? ⟨q65, 0, none⟩ = some (.bool f45) := h218.cell 0
    have k1191 : w209.cell? ⟨q65, 1, none⟩ = some (.slice A46 n47 c48) := h218.cell 1
    have k1192 : w209.cell? ⟨qz, 0, none⟩ = some (.bool bz) := h215.cell 0
    have k1193 : w209.cell? ⟨qz, 1, none⟩ = some (.slice Az mz.length cz) := h215.cell 1
    go_wp2_with fail
    clear k1190 k1191 k1192 k1193
    refine (sub_any _ _ (capI (a + b)) b _ h217 h213).mono ?_
    rintro e w1194 ⟨f1185, A1186, n1187, c1188, rfl, hc1189, hn⟩
    have h1195 := h210.new_ hn
    have h1196 := h211.new_ hn
    have h1197 := h212.new_ hn
    have h1198 := h213.new_ hn
    have h1199 := h214.new_ hn
    have h1200 := h215.new_ hn
    have h1201 := h216.transNew hn
    have h1202 := h217.new_ hn
    have h1203 := h218.new_ hn
    have h1204 := h219.new_ hn
    have h1205 := h220.new_ hn
    have h1206 := h221.new_ hn
    have h1207 := h222.new_ hn
    have h1208 := h223.new_ hn
    have h1209 := h224.new_ hn
    clear h210 h211 h212 h213 h214 h215 h216 h217 h218 h219 h220 h221 h222 h223 h224 hn
    have hab : capI (a + b) - b = a := by rw [capI_ok He1.out]; omega
    rw [hab, capI_of hxa.out] at hc1189
    rw [hab, okI_of hxa.out]
    clear hab
    have hz1210 := hc1189.big hxa.out
    clear hc1189
    go_upto_region 13 with (fail)
    obtain ⟨w1211, hw⟩ : ∃ w', w' = w1194.alloc (.cells #[.bool f1185, .slice A1186 n1187 c1188] 24) := ⟨_, rfl⟩
    have hn : New w1194 w1211 := by rw [hw]; exact (Upd.refl _ _).alloc _
    have hb1212 : Blk w1211 w1194.heap.size 24 [.bool f1185, .slice A1186 n1187 c1188] := by rw [hw]; exact Blk.new w1194 _ _
    rw [← hw]
    clear hw
    obtain ⟨q1213, hq⟩ : ∃ q, q = w1194.heap.size := ⟨_, rfl⟩
    rw [← hq] at hb1212 ⊢
    clear hq
    have h1214 := h1195.new_ hn
    have h1215 := h1196.new_ hn
    have h1216 := h1197.new_ hn
    have h1217 := h1198.new_ hn
    have h1218 := h1199.new_ hn
    have h1219 := h1200.new_ hn
    have h1220 := h1201.transNew hn
    have h1221 := h1202.new_ hn
    have h1222 := h1203.new_ hn
    have h1223 := h1204.new_ hn
    have h1224 := h1205.new_ hn
    have h1225 := h1206.new_ hn
    have h1226 := h1207.new_ hn
    have h1227 := h1208.new_ hn
    have h1228 := h1209.new_ hn
    have h1229 := hz1210.new_ hn
    clear h1195 h1196 h1197 h1198 h1199 h1200 h1201 h1202 h1203 h1204 h1205 h1206 h1207 h1208 h1209 hz1210 hn
    have k1230 : w1211.cell? ⟨q1213, 0, none⟩ = some (.bool f1185) := hb1212.cell 0
    have k1231 : w1211.cell? ⟨q1213, 1, none⟩ = some (.slice A1186 n1187 c1188) := hb1212.cell 1
    have k1232 : w1211.cell? ⟨qx, 0, none⟩ = some (.bool bx) := h1216.cell 0
    have k1233 : w1211.cell? ⟨qx, 1, none⟩ = some (.slice Ax mx.length cx) := h1216.cell 1
    go_wp2_with fail
    clear k1230 k1231 k1232 k1233
    refine (same_any _ _ (a) (a) _ h1229 h1214).mono ?_
    rintro e w1234 ⟨rfl, hn⟩
    have h1235 := h1214.new_ hn
    have h1236 := h1215.new_ hn
    have h1237 := h1216.new_ hn
    have h1238 := h1217.new_ hn
    have h1239 := h1218.new_ hn
    have h1240 := h1219.new_ hn
    have h1241 := h1220.transNew hn
    have h1242 := h1221.new_ hn
    have h1243 := h1222.new_ hn
    have h1244 := h1223.new_ hn
    have h1245 := h1224.new_ hn
    have h1246 := h1225.new_ hn
    have h1247 := h1226.new_ hn
    have h1248 := h1227.new_ hn
    have h1249 := h1228.new_ hn
    have h1250 := h1229.new_ hn
    have h1251 := hb1212.new_ hn
    clear h1214 h1215 h1216 h1217 h1218 h1219 h1220 h1221 h1222 h1223 h1224 h1225 h1226 h1227 h1228 h1229 hb1212 hn
    rw [decide_eq_true (rfl : a = a)]
    go_upto_region 15 with (fail)
    by_cases hb0 : b = 0
    · skip
      subst hb0
      have k1257 : w1234.cell? ⟨qx, 0, none⟩ = some (.bool bx) := h1237.cell 0
      have k1258 : w1234.cell? ⟨qx, 1, none⟩ = some (.slice Ax mx.length cx) := h1237.cell 1
      have k1259 : w1234.cell? ⟨qz, 0, none⟩ = some (.bool bz) := h1240.cell 0
      have k1260 : w1234.cell? ⟨qz, 1, none⟩ = some (.slice Az mz.length cz) := h1240.cell 1
      go_wp2_with fail
      clear k1257 k1258 k1259 k1260
      refine (div_any _ _ a 0 _ h1235 h1238).mono ?_
      rintro e w1261 ⟨f1252, A1253, n1254, c1255, rfl, hc1256, hn⟩
      have h1262 := h1235.new_ hn
      have h1263 := h1236.new_ hn
      have h1264 := h1237.new_ hn
      have h1265 := h1238.new_ hn
      have h1266 := h1239.new_ hn
      have h1267 := h1240.new_ hn
      have h1268 := h1241.transNew hn
      have h1269 := h1242.new_ hn
      have h1270 := h1243.new_ hn
      have h1271 := h1244.new_ hn
      have h1272 := h1245.new_ hn
      have h1273 := h1246.new_ hn
      have h1274 := h1247.new_ hn
      have h1275 := h1248.new_ hn
      have h1276 := h1249.new_ hn
      have h1277 := h1250.new_ hn
      have h1278 := h1251.new_ hn
      clear h1235 h1236 h1237 h1238 h1239 h1240 h1241 h1242 h1243 h1244 h1245 h1246 h1247 h1248 h1249 h1250 h1251 hn
      rw [show zeroE 0 = 4 from rfl]
      have hz1279 := hc1256.big (Nat.lt_of_le_of_lt (divZ_abs a 0) hxa.out)
      clear hc1256
      go_upto_region 16 with (fail)
      obtain ⟨w1280, hw⟩ : ∃ w', w' = w1261.alloc (.cells #[.bool f1252, .slice A1253 n1254 c1255] 24) := ⟨_, rfl⟩
      have hn : New w1261 w1280 := by rw [hw]; exact (Upd.refl _ _).alloc _
      have hb1281 : Blk w1280 w1261.heap.size 24 [.bool f1252, .slice A1253 n1254 c1255] := by rw [hw]; exact Blk.new w1261 _ _
      rw [← hw]
      clear hw
      obtain ⟨q1282, hq⟩ : ∃ q, q = w1261.heap.size := ⟨_, rfl⟩
      rw [← hq] at hb1281 ⊢
      clear hq
      have h1283 := h1262.new_ hn
      have h1284 := h1263.new_ hn
      have h1285 := h1264.new_ hn
      have h1286 := h1265.new_ hn
      have h1287 := h1266.new_ hn
      have h1288 := h1267.new_ hn
      have h1289 := h1268.transNew hn
      have h1290 := h1269.new_ hn
      have h1291 := h1270.new_ hn
      have h1292 := h1271.new_ hn
      have h1293 := h1272.new_ hn
      have h1294 := h1273.new_ hn
      have h1295 := h1274.new_ hn
      have h1296 := h1275.new_ hn
      have h1297 := h1276.new_ hn
      have h1298 := h1277.new_ hn
      have h1299 := h1278.new_ hn
      have h1300 := hz1279.new_ hn
      clear h1262 h1263 h1264 h1265 h1266 h1267 h1268 h1269 h1270 h1271 h1272 h1273 h1274 h1275 h1276 h1277 h1278 hz1279 hn
      have k1306 : w1280.cell? ⟨qx, 0, none⟩ = some (.bool bx) := h1285.cell 0
      have k1307 : w1280.cell? ⟨qx, 1, none⟩ = some (.slice Ax mx.length cx) := h1285.cell 1
      have k1308 : w1280.cell? ⟨qz, 0, none⟩ = some (.bool bz) := h1288.cell 0
      have k1309 : w1280.cell? ⟨qz, 1, none⟩ = some (.slice Az mz.length cz) := h1288.cell 1
      go_wp2_with fail
      clear k1306 k1307 k1308 k1309
      refine (rem_any _ _ a 0 _ h1283 h1286).mono ?_
      rintro e w1310 ⟨f1301, A1302, n1303, c1304, rfl, hc1305, hn⟩
      have h1311 := h1283.new_ hn
      have h1312 := h1284.new_ hn
      have h1313 := h1285.new_ hn
      have h1314 := h1286.new_ hn
      have h1315 := h1287.new_ hn
      have h1316 := h1288.new_ hn
      have h1317 := h1289.transNew hn
      have h1318 := h1290.new_ hn
      have h1319 := h1291.new_ hn
      have h1320 := h1292.new_ hn
      have h1321 := h1293.new_ hn
      have h1322 := h1294.new_ hn
      have h1323 := h1295.new_ hn
      have h1324 := h1296.new_ hn
      have h1325 := h1297.new_ hn
      have h1326 := h1298.new_ hn
      have h1327 := h1299.new_ hn
      have h1328 := h1300.new_ hn
      have h1329 := hb1281.new_ hn
      clear h1283 h1284 h1285 h1286 h1287 h1288 h1289 h1290 h1291 h1292 h1293 h1294 h1295 h1296 h1297 h1298 h1299 h1300 hb1281 hn
      rw [show zeroE 0 = 4 from rfl]
      have hz1330 := hc1305.big (Nat.lt_of_le_of_lt (remZ_abs a 0) hxa.out)
      clear hc1305
      go_upto_region 17 with (fail)
      obtain ⟨w1331, hw⟩ : ∃ w', w' = w1310.alloc (.cells #[.bool f1301, .slice A1302 n1303 c1304] 24) := ⟨_, rfl⟩
      have hn : New w1310 w1331 := by rw [hw]; exact (Upd.refl _ _).alloc _
      have hb1332 : Blk w1331 w1310.heap.size 24 [.bool f1301, .slice A1302 n1303 c1304] := by rw [hw]; exact Blk.new w1310 _ _
      rw [← hw]
      clear hw
      obtain ⟨q1333, hq⟩ : ∃ q, q = w1310.heap.size := ⟨_, rfl⟩
      rw [← hq] at hb1332 ⊢
      clear hq
      have h1334 := h1311.new_ hn
      have h1335 := h1312.new_ hn
      have h1336 := h1313.new_ hn
      have h1337 := h1314.new_ hn
      have h1338 := h1315.new_ hn
      have h1339 := h1316.new_ hn
      have h1340 := h1317.transNew hn
      have h1341 := h1318.new_ hn
      have h1342 := h1319.new_ hn
      have h1343 := h1320.new_ hn
      have h1344 := h1321.new_ hn
      have h1345 := h1322.new_ hn
      have h1346 := h1323.new_ hn
      have h1347 := h1324.new_ hn
      have h1348 := h1325.new_ hn
      have h1349 := h1326.new_ hn
      have h1350 := h1327.new_ hn
      have h1351 := h1328.new_ hn
      have h1352 := h1329.new_ hn
      have h1353 := hz1330.new_ hn
      clear h1311 h1312 h1313 h1314 h1315 h1316 h1317 h1318 h1319 h1320 h1321 h1322 h1323 h1324 h1325 h1326 h1327 h1328 h1329 hz1330 hn
      go_upto_region 18 with (fail)
      have hS : ∀ w', New w1331 w' → (Blk w' qz 24 [.bool bz, .slice Az mz.length cz]) := fun w' hn => h1339.new_ hn
      refine wp_region_dm (fun w' => Blk w' qz 24 [.bool bz, .slice Az mz.length cz]) [(0, false), (1, true), (2, true), (3, true), (4, true), (5, true), (6, true), (7, true), (8, false), (9, false), (10, true), (11, true)] (by kernel_rfl) (by kernel_rfl) (fun _ _ d _ _ h => by cases d <;> exact h) (hS _ (Upd.refl _ _).drew) ?_
      refine st_act rfl rfl fun K hK => a_call (args := #[]) rfl rfl (fun w => by kernel_rfl) (first_any _) ?_
      rintro e w100 ⟨rfl, hm100⟩
      have hq10_1 := (show New _ _ from (Upd.refl _ _).drew).transNew hm100
      refine ⟨_, rfl, hK _ _ (hS _ hq10_1) ?_⟩
      simp only [Act.put, List.setIfInBounds_toArray, List.set_cons_zero, List.set_cons_succ]
      refine st_take (a' := ?_) rfl rfl (y_move (v := .bool true) rfl rfl) ?_ ?_
      rotate_left; (simp only [Act.put, List.setIfInBounds_toArray, List.set_cons_zero, List.set_cons_succ]; rfl)
      refine st_take (a' := ?_) rfl rfl (y_move (v := .int .i64 4) rfl rfl) ?_ ?_
      rotate_left; (simp only [Act.put, List.setIfInBounds_toArray, List.set_cons_zero, List.set_cons_succ]; rfl)
      refine st_take (a' := ?_) rfl rfl (y_move (v := .int .i64 4) rfl rfl) ?_ ?_
      rotate_left; (simp only [Act.put, List.setIfInBounds_toArray, List.set_cons_zero, List.set_cons_succ]; rfl)
      refine st_take (a' := ?_) rfl rfl (y_run (v := .bool true) fun w => by kernel_rfl) ?_ ?_
      rotate_left; (simp only [Act.put, List.setIfInBounds_toArray, List.set_cons_zero, List.set_cons_succ]; rfl)
      refine st_take (a' := ?_) rfl rfl (y_pick (b := true) (v := .bool true) rfl rfl rfl) ?_ ?_
      rotate_left; (simp only [Act.put, List.setIfInBounds_toArray, List.set_cons_zero, List.set_cons_succ]; rfl)
      refine st_take (a' := ?_) rfl rfl (y_move (v := .bool true) rfl rfl) ?_ ?_
      rotate_left; (simp only [Act.put, List.setIfInBounds_toArray, List.set_cons_zero, List.set_cons_succ]; rfl)
      refine st_take (a' := ?_) rfl rfl (y_load2 rfl rfl Try.isAgg24 Try.sizeOf24 (fun _ h => h)) ?_ ?_
      rotate_left; (simp only [Act.put, List.setIfInBounds_toArray, List.set_cons_zero, List.set_cons_succ]; rfl)
      refine st_act rfl rfl fun K hK => a_call (args := #[.int .i64 0]) rfl rfl (fun w => by kernel_rfl) (of_any 0 _ zero_lo zero_hi) ?_
      rintro e w103 ⟨f103, A103, n103, c103, rfl, hc103, hm103⟩
      have hq10_2 := (show New _ _ from hq10_1).transNew hm103
      refine ⟨_, rfl, hK _ _ (hS _ hq10_2) ?_⟩
      simp only [Act.put, List.setIfInBounds_toArray, List.set_cons_zero, List.set_cons_succ]
      refine st_act rfl rfl fun K hK => a_call (args := #[.agg #[.bool bz, .slice Az mz.length cz], .agg #[.bool f103, .slice A103 n103 c103]]) rfl rfl (fun w => by kernel_rfl) (same_any _ _ 0 0 _ (h1337.new_ hq10_2) (hc103.big zero_abs)) ?_
      rintro e w104 ⟨rfl, hm104⟩
      rw [decide_eq_true (rfl : (0 : Int) = 0)]
      have hq10_3 := (show New _ _ from hq10_2).transNew hm104
      refine ⟨_, rfl, hK _ _ (hS _ hq10_3) ?_⟩
      simp only [Act.put, List.setIfInBounds_toArray, List.set_cons_zero, List.set_cons_succ]
      refine st_take (a' := ?_) rfl rfl (y_pick (b := true) (v := .bool true) rfl rfl rfl) ?_ ?_
      rotate_left; (simp only [Act.put, List.setIfInBounds_toArray, List.set_cons_zero, List.set_cons_succ]; rfl)
      refine st_take (a' := ?_) rfl rfl (y_assign (v := .bool true) rfl rfl) ?_ ?_
      rotate_left; (simp only [Act.put, List.setIfInBounds_toArray, List.set_cons_zero, List.set_cons_succ]; rfl)
      refine st_nil ?_
      have hd1354 := (show New _ _ from hq10_3)
      clear hS hq10_1 hq10_2 hq10_3
      have h1355 := h1334.new_ hd1354
      have h1356 := h1335.new_ hd1354
      have h1357 := h1336.new_ hd1354
      have h1358 := h1337.new_ hd1354
      have h1359 := h1338.new_ hd1354
      have h1360 := h1339.new_ hd1354
      have h1361 := h1340.transNew hd1354
      have h1362 := h1341.new_ hd1354
      have h1363 := h1342.new_ hd1354
      have h1364 := h1343.new_ hd1354
      have h1365 := h1344.new_ hd1354
      have h1366 := h1345.new_ hd1354
      have h1367 := h1346.new_ hd1354
      have h1368 := h1347.new_ hd1354
      have h1369 := h1348.new_ hd1354
      have h1370 := h1349.new_ hd1354
      have h1371 := h1350.new_ hd1354
      have h1372 := h1351.new_ hd1354
      have h1373 := h1352.new_ hd1354
      have h1374 := h1353.new_ hd1354
      have h1375 := hb1332.new_ hd1354
      clear h1334 h1335 h1336 h1337 h1338 h1339 h1340 h1341 h1342 h1343 h1344 h1345 h1346 h1347 h1348 h1349 h1350 h1351 h1352 h1353 hb1332 hd1354
      go_wp2
      go_ret
      exact ⟨rfl, h1361⟩
    · skip
      have Hb0 := hide hb0
      clear hb0
      have k1381 : w1234.cell? ⟨qx, 0, none⟩ = some (.bool bx) := h1237.cell 0
      have k1382 : w1234.cell? ⟨qx, 1, none⟩ = some (.slice Ax mx.length cx) := h1237.cell 1
      have k1383 : w1234.cell? ⟨qz, 0, none⟩ = some (.bool bz) := h1240.cell 0
      have k1384 : w1234.cell? ⟨qz, 1, none⟩ = some (.slice Az mz.length cz) := h1240.cell 1
      go_wp2_with fail
      clear k1381 k1382 k1383 k1384
      refine (div_any _ _ a b _ h1235 h1238).mono ?_
      rintro e w1385 ⟨f1376, A1377, n1378, c1379, rfl, hc1380, hn⟩
      have h1386 := h1235.new_ hn
      have h1387 := h1236.new_ hn
      have h1388 := h1237.new_ hn
      have h1389 := h1238.new_ hn
      have h1390 := h1239.new_ hn
      have h1391 := h1240.new_ hn
      have h1392 := h1241.transNew hn
      have h1393 := h1242.new_ hn
      have h1394 := h1243.new_ hn
      have h1395 := h1244.new_ hn
      have h1396 := h1245.new_ hn
      have h1397 := h1246.new_ hn
      have h1398 := h1247.new_ hn
      have h1399 := h1248.new_ hn
      have h1400 := h1249.new_ hn
      have h1401 := h1250.new_ hn
      have h1402 := h1251.new_ hn
      clear h1235 h1236 h1237 h1238 h1239 h1240 h1241 h1242 h1243 h1244 h1245 h1246 h1247 h1248 h1249 h1250 h1251 hn
      rw [zeroE_pos Hb0.out]
      have hz1403 := hc1380.big (Nat.lt_of_le_of_lt (divZ_abs a b) hxa.out)
      clear hc1380
      go_upto_region 16 with (fail)
      obtain ⟨w1404, hw⟩ : ∃ w', w' = w1385.alloc (.cells #[.bool f1376, .slice A1377 n1378 c1379] 24) := ⟨_, rfl⟩
      have hn : New w1385 w1404 := by rw [hw]; exact (Upd.refl _ _).alloc _
      have hb1405 : Blk w1404 w1385.heap.size 24 [.bool f1376, .slice A1377 n1378 c1379] := by rw [hw]; exact Blk.new w1385 _ _
      rw [← hw]
      clear hw
      obtain ⟨q1406, hq⟩ : ∃ q, q = w1385.heap.size := ⟨_, rfl⟩
      rw [← hq] at hb1405 ⊢
      clear hq
      have h1407 := h1386.new_ hn
      have h1408 := h1387.new_ hn
      have h1409 := h1388.new_ hn
      have h1410 := h1389.new_ hn
      have h1411 := h1390.new_ hn
      have h1412 := h1391.new_ hn
      have h1413 := h1392.transNew hn
      have h1414 := h1393.new_ hn
      have h1415 := h1394.new_ hn
      have h1416 := h1395.new_ hn
      have h1417 := h1396.new_ hn
      have h1418 := h1397.new_ hn
      have h1419 := h1398.new_ hn
      have h1420 := h1399.new_ hn
      have h1421 := h1400.new_ hn
      have h1422 := h1401.new_ hn
      have h1423 := h1402.new_ hn
      have h1424 := hz1403.new_ hn
      clear h1386 h1387 h1388 h1389 h1390 h1391 h1392 h1393 h1394 h1395 h1396 h1397 h1398 h1399 h1400 h1401 h1402 hz1403 hn
      have k1430 : w1404.cell? ⟨qx, 0, none⟩ = some (.bool bx) := h1409.cell 0
      have k1431 : w1404.cell? ⟨qx, 1, none⟩ = some (.slice Ax mx.length cx) := h1409.cell 1
      have k1432 : w1404.cell? ⟨qz, 0, none⟩ = some (.bool bz) := h1412.cell 0
      have k1433 : w1404.cell? ⟨qz, 1, none⟩ = some (.slice Az mz.length cz) := h1412.cell 1
      go_wp2_with fail
      clear k1430 k1431 k1432 k1433
      refine (rem_any _ _ a b _ h1407 h1410).mono ?_
      rintro e w1434 ⟨f1425, A1426, n1427, c1428, rfl, hc1429, hn⟩
      have h1435 := h1407.new_ hn
      have h1436 := h1408.new_ hn
      have h1437 := h1409.new_ hn
      have h1438 := h1410.new_ hn
      have h1439 := h1411.new_ hn
      have h1440 := h1412.new_ hn
      have h1441 := h1413.transNew hn
      have h1442 := h1414.new_ hn
      have h1443 := h1415.new_ hn
      have h1444 := h1416.new_ hn
      have h1445 := h1417.new_ hn
      have h1446 := h1418.new_ hn
      have h1447 := h1419.new_ hn
      have h1448 := h1420.new_ hn
      have h1449 := h1421.new_ hn
      have h1450 := h1422.new_ hn
      have h1451 := h1423.new_ hn
      have h1452 := h1424.new_ hn
      have h1453 := hb1405.new_ hn
      clear h1407 h1408 h1409 h1410 h1411 h1412 h1413 h1414 h1415 h1416 h1417 h1418 h1419 h1420 h1421 h1422 h1423 h1424 hb1405 hn
      rw [zeroE_pos Hb0.out]
      have hz1454 := hc1429.big (Nat.lt_of_le_of_lt (remZ_abs a b) hxa.out)
      have hfr := hide hc1429.parts.1
      clear hc1429
      go_upto_region 19 with (fail)
      obtain ⟨w1455, hw⟩ : ∃ w', w' = w1434.alloc (.cells #[.bool f1425, .slice A1426 n1427 c1428] 24) := ⟨_, rfl⟩
      have hn : New w1434 w1455 := by rw [hw]; exact (Upd.refl _ _).alloc _
      have hb1456 : Blk w1455 w1434.heap.size 24 [.bool f1425, .slice A1426 n1427 c1428] := by rw [hw]; exact Blk.new w1434 _ _
      rw [← hw]
      clear hw
      obtain ⟨q1457, hq⟩ : ∃ q, q = w1434.heap.size := ⟨_, rfl⟩
      rw [← hq] at hb1456 ⊢
      clear hq
      have h1458 := h1435.new_ hn
      have h1459 := h1436.new_ hn
      have h1460 := h1437.new_ hn
      have h1461 := h1438.new_ hn
      have h1462 := h1439.new_ hn
      have h1463 := h1440.new_ hn
      have h1464 := h1441.transNew hn
      have h1465 := h1442.new_ hn
      have h1466 := h1443.new_ hn
      have h1467 := h1444.new_ hn
      have h1468 := h1445.new_ hn
      have h1469 := h1446.new_ hn
      have h1470 := h1447.new_ hn
      have h1471 := h1448.new_ hn
      have h1472 := h1449.new_ hn
      have h1473 := h1450.new_ hn
      have h1474 := h1451.new_ hn
      have h1475 := h1452.new_ hn
      have h1476 := h1453.new_ hn
      have h1477 := hz1454.new_ hn
      clear h1435 h1436 h1437 h1438 h1439 h1440 h1441 h1442 h1443 h1444 h1445 h1446 h1447 h1448 h1449 h1450 h1451 h1452 h1453 hz1454 hn
      have k1483 : w1455.cell? ⟨q1406, 0, none⟩ = some (.bool f1376) := h1476.cell 0
      have k1484 : w1455.cell? ⟨q1406, 1, none⟩ = some (.slice A1377 n1378 c1379) := h1476.cell 1
      have k1485 : w1455.cell? ⟨qz, 0, none⟩ = some (.bool bz) := h1463.cell 0
      have k1486 : w1455.cell? ⟨qz, 1, none⟩ = some (.slice Az mz.length cz) := h1463.cell 1
      go_wp2_with fail
      clear k1483 k1484 k1485 k1486
      refine (mul_any _ _ (divZ a b) (b) _ h1475 h1461).mono ?_
      rintro e w1487 ⟨f1478, A1479, n1480, c1481, rfl, hc1482, hn⟩
      have h1488 := h1458.new_ hn
      have h1489 := h1459.new_ hn
      have h1490 := h1460.new_ hn
      have h1491 := h1461.new_ hn
      have h1492 := h1462.new_ hn
      have h1493 := h1463.new_ hn
      have h1494 := h1464.transNew hn
      have h1495 := h1465.new_ hn
      have h1496 := h1466.new_ hn
      have h1497 := h1467.new_ hn
      have h1498 := h1468.new_ hn
      have h1499 := h1469.new_ hn
      have h1500 := h1470.new_ hn
      have h1501 := h1471.new_ hn
      have h1502 := h1472.new_ hn
      have h1503 := h1473.new_ hn
      have h1504 := h1474.new_ hn
      have h1505 := h1475.new_ hn
      have h1506 := h1476.new_ hn
      have h1507 := h1477.new_ hn
      have h1508 := hb1456.new_ hn
      clear h1458 h1459 h1460 h1461 h1462 h1463 h1464 h1465 h1466 h1467 h1468 h1469 h1470 h1471 h1472 h1473 h1474 h1475 h1476 h1477 hb1456 hn
      have hs := (Nat.lt_of_le_of_lt (divZ_mul_abs a b) hxa.out)
      rw [okI_of hs]
      rw [capI_of hs] at hc1482
      clear hs
      have hz1509 := hc1482.big ((Nat.lt_of_le_of_lt (divZ_mul_abs a b) hxa.out))
      clear hc1482
      go_upto_region 20 with (fail)
      obtain ⟨w1510, hw⟩ : ∃ w', w' = w1487.alloc (.cells #[.bool f1478, .slice A1479 n1480 c1481] 24) := ⟨_, rfl⟩
      have hn : New w1487 w1510 := by rw [hw]; exact (Upd.refl _ _).alloc _
      have hb1511 : Blk w1510 w1487.heap.size 24 [.bool f1478, .slice A1479 n1480 c1481] := by rw [hw]; exact Blk.new w1487 _ _
      rw [← hw]
      clear hw
      obtain ⟨q1512, hq⟩ : ∃ q, q = w1487.heap.size := ⟨_, rfl⟩
      rw [← hq] at hb1511 ⊢
      clear hq
      have h1513 := h1488.new_ hn
      have h1514 := h1489.new_ hn
      have h1515 := h1490.new_ hn
      have h1516 := h1491.new_ hn
      have h1517 := h1492.new_ hn
      have h1518 := h1493.new_ hn
      have h1519 := h1494.transNew hn
      have h1520 := h1495.new_ hn
      have h1521 := h1496.new_ hn
      have h1522 := h1497.new_ hn
      have h1523 := h1498.new_ hn
      have h1524 := h1499.new_ hn
      have h1525 := h1500.new_ hn
      have h1526 := h1501.new_ hn
      have h1527 := h1502.new_ hn
      have h1528 := h1503.new_ hn
      have h1529 := h1504.new_ hn
      have h1530 := h1505.new_ hn
      have h1531 := h1506.new_ hn
      have h1532 := h1507.new_ hn
      have h1533 := h1508.new_ hn
      have h1534 := hz1509.new_ hn
      clear h1488 h1489 h1490 h1491 h1492 h1493 h1494 h1495 h1496 h1497 h1498 h1499 h1500 h1501 h1502 h1503 h1504 h1505 h1506 h1507 h1508 hz1509 hn
      have k1540 : w1510.cell? ⟨q1512, 0, none⟩ = some (.bool f1478) := hb1511.cell 0
      have k1541 : w1510.cell? ⟨q1512, 1, none⟩ = some (.slice A1479 n1480 c1481) := hb1511.cell 1
      have k1542 : w1510.cell? ⟨q1457, 0, none⟩ = some (.bool f1425) := h1533.cell 0
      have k1543 : w1510.cell? ⟨q1457, 1, none⟩ = some (.slice A1426 n1427 c1428) := h1533.cell 1
      go_wp2_with fail
      clear k1540 k1541 k1542 k1543
      refine (add_any _ _ (divZ a b * b) (remZ a b) _ h1534 h1532).mono ?_
      rintro e w1544 ⟨f1535, A1536, n1537, c1538, rfl, hc1539, hn⟩
      have h1545 := h1513.new_ hn
      have h1546 := h1514.new_ hn
      have h1547 := h1515.new_ hn
      have h1548 := h1516.new_ hn
      have h1549 := h1517.new_ hn
      have h1550 := h1518.new_ hn
      have h1551 := h1519.transNew hn
      have h1552 := h1520.new_ hn
      have h1553 := h1521.new_ hn
      have h1554 := h1522.new_ hn
      have h1555 := h1523.new_ hn
      have h1556 := h1524.new_ hn
      have h1557 := h1525.new_ hn
      have h1558 := h1526.new_ hn
      have h1559 := h1527.new_ hn
      have h1560 := h1528.new_ hn
      have h1561 := h1529.new_ hn
      have h1562 := h1530.new_ hn
      have h1563 := h1531.new_ hn
      have h1564 := h1532.new_ hn
      have h1565 := h1533.new_ hn
      have h1566 := h1534.new_ hn
      have h1567 := hb1511.new_ hn
      clear h1513 h1514 h1515 h1516 h1517 h1518 h1519 h1520 h1521 h1522 h1523 h1524 h1525 h1526 h1527 h1528 h1529 h1530 h1531 h1532 h1533 h1534 hb1511 hn
      rw [divZ_sum Hb0.out, capI_of hxa.out] at hc1539
      rw [divZ_sum Hb0.out, okI_of hxa.out]
      have hz1568 := hc1539.big hxa.out
      clear hc1539
      go_upto_region 21 with (fail)
      obtain ⟨w1569, hw⟩ : ∃ w', w' = w1544.alloc (.cells #[.bool f1535, .slice A1536 n1537 c1538] 24) := ⟨_, rfl⟩
      have hn : New w1544 w1569 := by rw [hw]; exact (Upd.refl _ _).alloc _
      have hb1570 : Blk w1569 w1544.heap.size 24 [.bool f1535, .slice A1536 n1537 c1538] := by rw [hw]; exact Blk.new w1544 _ _
      rw [← hw]
      clear hw
      obtain ⟨q1571, hq⟩ : ∃ q, q = w1544.heap.size := ⟨_, rfl⟩
      rw [← hq] at hb1570 ⊢
      clear hq
      have h1572 := h1545.new_ hn
      have h1573 := h1546.new_ hn
      have h1574 := h1547.new_ hn
      have h1575 := h1548.new_ hn
      have h1576 := h1549.new_ hn
      have h1577 := h1550.new_ hn
      have h1578 := h1551.transNew hn
      have h1579 := h1552.new_ hn
      have h1580 := h1553.new_ hn
      have h1581 := h1554.new_ hn
      have h1582 := h1555.new_ hn
      have h1583 := h1556.new_ hn
      have h1584 := h1557.new_ hn
      have h1585 := h1558.new_ hn
      have h1586 := h1559.new_ hn
      have h1587 := h1560.new_ hn
      have h1588 := h1561.new_ hn
      have h1589 := h1562.new_ hn
      have h1590 := h1563.new_ hn
      have h1591 := h1564.new_ hn
      have h1592 := h1565.new_ hn
      have h1593 := h1566.new_ hn
      have h1594 := h1567.new_ hn
      have h1595 := hz1568.new_ hn
      clear h1545 h1546 h1547 h1548 h1549 h1550 h1551 h1552 h1553 h1554 h1555 h1556 h1557 h1558 h1559 h1560 h1561 h1562 h1563 h1564 h1565 h1566 h1567 hz1568 hn
      have k1596 : w1569.cell? ⟨q1457, 0, none⟩ = some (.bool f1425) := h1592.cell 0
      have k1597 : w1569.cell? ⟨q1457, 1, none⟩ = some (.slice A1426 n1427 c1428) := h1592.cell 1
      have k1598 : w1569.cell? ⟨qz, 0, none⟩ = some (.bool bz) := h1577.cell 0
      have k1599 : w1569.cell? ⟨qz, 1, none⟩ = some (.slice Az mz.length cz) := h1577.cell 1
      have k1600 : ∀ o, (w1569.alloc o).cell? ⟨q1457, 0, none⟩ = some (.bool f1425) := fun o => (h1592.alloc o).cell 0
      have k1601 : ∀ o o', ((w1569.alloc o).alloc o').cell? ⟨q1457, 0, none⟩ = some (.bool f1425) := fun o o' => ((h1592.alloc o).alloc o').cell 0
      have k1602 : ∀ o, (w1569.alloc o).cell? ⟨q1457, 1, none⟩ = some (.slice A1426 n1427 c1428) := fun o => (h1592.alloc o).cell 1
      have k1603 : ∀ o o', ((w1569.alloc o).alloc o').cell? ⟨q1457, 1, none⟩ = some (.slice A1426 n1427 c1428) := fun o o' => ((h1592.alloc o).alloc o').cell 1
      have k1604 : ∀ o, (w1569.alloc o).cell? ⟨qz, 0, none⟩ = some (.bool bz) := fun o => (h1577.alloc o).cell 0
      have k1605 : ∀ o o', ((w1569.alloc o).alloc o').cell? ⟨qz, 0, none⟩ = some (.bool bz) := fun o o' => ((h1577.alloc o).alloc o').cell 0
      have k1606 : ∀ o, (w1569.alloc o).cell? ⟨qz, 1, none⟩ = some (.slice Az mz.length cz) := fun o => (h1577.alloc o).cell 1
      have k1607 : ∀ o o', ((w1569.alloc o).alloc o').cell? ⟨qz, 1, none⟩ = some (.slice Az mz.length cz) := fun o o' => ((h1577.alloc o).alloc o').cell 1
      go_region
      · skip
        clear k1596 k1597 k1598 k1599 k1600 k1601 k1602 k1603 k1604 k1605 k1606 k1607
        obtain ⟨w1608, hw⟩ : ∃ w', w' = ((w1569.alloc (.cells #[.bool f1425, .slice A1426 n1427 c1428] 24)).alloc (.cells #[.bool bz, .slice Az mz.length cz] 24)).drew := ⟨_, rfl⟩
        have hn : New w1569 w1608 := by rw [hw]; exact (((Upd.refl _ _).alloc _).alloc _).drew
        have hbP : Blk w1608 w1569.heap.size 24 [.bool f1425, .slice A1426 n1427 c1428] := by rw [hw]; exact ((Blk.new w1569 _ _).alloc _).drew
        have hbQ : Blk w1608 (w1569.heap.size + 1) 24 [.bool bz, .slice Az mz.length cz] := by
          rw [hw]
          have := Blk.new (w1569.alloc (.cells #[.bool f1425, .slice A1426 n1427 c1428] 24)) 24 [.bool bz, .slice Az mz.length cz]
          rw [show (w1569.alloc (.cells #[.bool f1425, .slice A1426 n1427 c1428] 24)).heap.size = w1569.heap.size + 1 by simp] at this
          exact this.drew
        rw [← hw]
        clear hw
        have hl0 : w.heap.size ≤ w1569.heap.size := h1578.size
        have hl_x := h1574.lt
        have hl_back := hb1570.lt
        obtain ⟨qa, hqa⟩ : ∃ q, q = w1569.heap.size := ⟨_, rfl⟩
        rw [← hqa] at hbP hbQ hl0 hl_x hl_back ⊢
        clear hqa
        have h1609 := h1572.new_ hn
        have h1610 := h1573.new_ hn
        have h1611 := h1574.new_ hn
        have h1612 := h1575.new_ hn
        have h1613 := h1576.new_ hn
        have h1614 := h1577.new_ hn
        have h1615 := h1578.transNew hn
        have h1616 := h1579.new_ hn
        have h1617 := h1580.new_ hn
        have h1618 := h1581.new_ hn
        have h1619 := h1582.new_ hn
        have h1620 := h1583.new_ hn
        have h1621 := h1584.new_ hn
        have h1622 := h1585.new_ hn
        have h1623 := h1586.new_ hn
        have h1624 := h1587.new_ hn
        have h1625 := h1588.new_ hn
        have h1626 := h1589.new_ hn
        have h1627 := h1590.new_ hn
        have h1628 := h1591.new_ hn
        have h1629 := h1592.new_ hn
        have h1630 := h1593.new_ hn
        have h1631 := h1594.new_ hn
        have h1632 := h1595.new_ hn
        have h1633 := hb1570.new_ hn
        clear h1572 h1573 h1574 h1575 h1576 h1577 h1578 h1579 h1580 h1581 h1582 h1583 h1584 h1585 h1586 h1587 h1588 h1589 h1590 h1591 h1592 h1593 h1594 h1595 hb1570 hn
        have hbr := hbP
        have hby := hbQ
        clear hbP hbQ
        have h1634 := h1628
        have h1635 := h1612
        cases f1425
        · skip
          have k1636 : w1608.cell? ⟨qa, 0, none⟩ = some (.bool false) := hbr.cell 0
          have k1637 : w1608.cell? ⟨qa, 1, none⟩ = some (.slice A1426 n1427 c1428) := hbr.cell 1
          go_upto_region 24 with (fail)
          clear k1636 k1637
          by_cases hbn : b < 0
          · skip
            have hcm : cmpZ b 0 = (-1) := by have := Hb0.out; unfold cmpZ; repeat' split <;> omega
            have HBN := hide hbn
            clear hbn
            have hS : ∀ w', New w1608 w' → (Blk w' (qa + 1) 24 [.bool bz, .slice Az mz.length cz]) := fun w' hn => hby.new_ hn
            refine wp_region_dm (fun w' => Blk w' (qa + 1) 24 [.bool bz, .slice Az mz.length cz]) [(0, true), (1, false), (2, false), (3, true)] (by kernel_rfl) (by kernel_rfl) (fun _ _ d _ _ h => by cases d <;> exact h) (hS _ (Upd.refl _ _).drew) ?_
            refine st_take (a' := ?_) rfl rfl (y_load2 rfl rfl Try.isAgg24 Try.sizeOf24 (fun _ h => h)) ?_ ?_
            rotate_left; (simp only [Act.put, List.setIfInBounds_toArray, List.set_cons_zero, List.set_cons_succ]; rfl)
            refine st_act rfl rfl fun K hK => a_call (args := #[.int .i64 0]) rfl rfl (fun w => by kernel_rfl) (of_any 0 _ zero_lo zero_hi) ?_
            rintro e w103 ⟨f103, A103, n103, c103, rfl, hc103, hm103⟩
            have hq11_1 := (show New _ _ from (Upd.refl _ _).drew).transNew hm103
            refine ⟨_, rfl, hK _ _ (hS _ hq11_1) ?_⟩
            simp only [Act.put, List.setIfInBounds_toArray, List.set_cons_zero, List.set_cons_succ]
            refine st_act rfl rfl fun K hK => a_call (args := #[.agg #[.bool bz, .slice Az mz.length cz], .agg #[.bool f103, .slice A103 n103 c103]]) rfl rfl (fun w => by kernel_rfl) (cmpz_any _ _ b 0 _ (h1635.new_ hq11_1) (hc103.big zero_abs)) ?_
            rintro e w104 ⟨rfl, hm104⟩
            rw [hcm]
            have hq11_2 := (show New _ _ from hq11_1).transNew hm104
            refine ⟨_, rfl, hK _ _ (hS _ hq11_2) ?_⟩
            simp only [Act.put, List.setIfInBounds_toArray, List.set_cons_zero, List.set_cons_succ]
            refine st_take (a' := ?_) rfl rfl (y_run (v := .bool true) fun w => by kernel_rfl) ?_ ?_
            rotate_left; (simp only [Act.put, List.setIfInBounds_toArray, List.set_cons_zero, List.set_cons_succ]; rfl)
            refine st_nil ?_
            have hd1638 := (show New _ _ from hq11_2)
            clear hS hq11_1 hq11_2
            have h1639 := h1611.new_ hd1638
            have h1640 := h1633.new_ hd1638
            have h1641 := h1609.new_ hd1638
            have h1642 := h1632.new_ hd1638
            have h1643 := hbr.new_ hd1638
            have h1644 := hby.new_ hd1638
            have h1645 := h1634.new_ hd1638
            have h1646 := h1635.new_ hd1638
            have h1647 := h1615.transNew hd1638
            clear h1611 h1633 h1609 h1632 hbr hby h1634 h1635 h1615 hd1638
            clear hm103 hm104 hc103 hcm
            go_upto_region 25 with (fail)
            have k1653 : w104.cell? ⟨(qa + 1), 0, none⟩ = some (.bool bz) := h1644.cell 0
            have k1654 : w104.cell? ⟨(qa + 1), 1, none⟩ = some (.slice Az mz.length cz) := h1644.cell 1
            go_wp2_with fail
            clear k1653 k1654
            refine (negz_any _ (b) _ h1646).mono ?_
            rintro e w1655 ⟨f1648, A1649, n1650, c1651, rfl, hc1652, hn⟩
            have h1656 := h1639.new_ hn
            have h1657 := h1640.new_ hn
            have h1658 := h1641.new_ hn
            have h1659 := h1642.new_ hn
            have h1660 := h1643.new_ hn
            have h1661 := h1644.new_ hn
            have h1662 := h1645.new_ hn
            have h1663 := h1646.new_ hn
            have h1664 := h1647.transNew hn
            clear h1639 h1640 h1641 h1642 h1643 h1644 h1645 h1646 h1647 hn
            have k1665 : w1655.cell? ⟨(qa + 1), 0, none⟩ = some (.bool bz) := h1661.cell 0
            have k1666 : w1655.cell? ⟨(qa + 1), 1, none⟩ = some (.slice Az mz.length cz) := h1661.cell 1
            have k1667 := h1661.frozen 0
            have k1668 := h1661.frozen 1
            go_upto_region 26 with (fail)
            clear k1665 k1666 k1667 k1668
            obtain ⟨w1669, hw, hN', h1670, h1671, hfar, hall⟩ := store_box hc1652 (by rw [Int.natAbs_neg]; exact h1663.lt) h1661 h1664 (by clear hc1652; omega)
            have hne : qx ≠ (qa + 1) := by omega
            have h1672 := hfar _ _ _ hne h1656
            clear hne
            have hne : q1571 ≠ (qa + 1) := by omega
            have h1673 := hfar _ _ _ hne h1657
            clear hne
            have h1674 := hall _ _ h1658
            have h1675 := hall _ _ h1659
            have hne : qa ≠ (qa + 1) := by omega
            have h1676 := hfar _ _ _ hne h1660
            clear hne
            have h1677 := hall _ _ h1662
            rw [← hw]
            clear hw hall hfar hc1652 h1656 h1657 h1658 h1659 h1660 h1661 h1662 h1663 h1664
            have h1678 := hN'
            clear hN'
            go_wp2_with fail
            refine (first_any _).mono ?_
            rintro e w1679 ⟨rfl, hn⟩
            have h1680 := h1672.new_ hn
            have h1681 := h1673.new_ hn
            have h1682 := h1674.new_ hn
            have h1683 := h1675.new_ hn
            have h1684 := h1676.new_ hn
            have h1685 := h1677.new_ hn
            have h1686 := h1678.transNew hn
            have h1687 := h1670.new_ hn
            have h1688 := h1671.new_ hn
            clear h1672 h1673 h1674 h1675 h1676 h1677 h1678 h1670 h1671 hn
            have k1689 : w1679.cell? ⟨q1571, 0, none⟩ = some (.bool f1535) := h1681.cell 0
            have k1690 : w1679.cell? ⟨q1571, 1, none⟩ = some (.slice A1536 n1537 c1538) := h1681.cell 1
            have k1691 : w1679.cell? ⟨qx, 0, none⟩ = some (.bool bx) := h1680.cell 0
            have k1692 : w1679.cell? ⟨qx, 1, none⟩ = some (.slice Ax mx.length cx) := h1680.cell 1
            go_wp2_with fail
            clear k1689 k1690 k1691 k1692
            refine (same_any _ _ (a) (a) _ h1683 h1682).mono ?_
            rintro e w1693 ⟨rfl, hn⟩
            have h1694 := h1680.new_ hn
            have h1695 := h1681.new_ hn
            have h1696 := h1682.new_ hn
            have h1697 := h1683.new_ hn
            have h1698 := h1684.new_ hn
            have h1699 := h1685.new_ hn
            have h1700 := h1686.transNew hn
            have h1701 := h1687.new_ hn
            have h1702 := h1688.new_ hn
            clear h1680 h1681 h1682 h1683 h1684 h1685 h1686 h1687 h1688 hn
            rw [decide_eq_true (rfl : a = a)]
            have k1703 : w1693.cell? ⟨qa, 0, none⟩ = some (.bool false) := h1698.cell 0
            have k1704 : w1693.cell? ⟨qa, 1, none⟩ = some (.slice A1426 n1427 c1428) := h1698.cell 1
            have k1705 : w1693.cell? ⟨(qa + 1), 0, none⟩ = some (.bool f1648) := h1701.cell 0
            have k1706 : w1693.cell? ⟨(qa + 1), 1, none⟩ = some (.slice A1649 n1650 c1651) := h1701.cell 1
            go_wp2_with fail
            clear k1703 k1704 k1705 k1706
            refine (cmpz_any _ _ (remZ a b) (-b) _ h1699 h1702).mono ?_
            rintro e w1707 ⟨rfl, hn⟩
            have h1708 := h1694.new_ hn
            have h1709 := h1695.new_ hn
            have h1710 := h1696.new_ hn
            have h1711 := h1697.new_ hn
            have h1712 := h1698.new_ hn
            have h1713 := h1699.new_ hn
            have h1714 := h1700.transNew hn
            have h1715 := h1701.new_ hn
            have h1716 := h1702.new_ hn
            clear h1694 h1695 h1696 h1697 h1698 h1699 h1700 h1701 h1702 hn
            have hfin : cmpZ (remZ a b) (-b) = -1 := by
              have h1 := remZ_lt (a := a) Hb0.out
              have h2 := hfr.out
              have h3 := HBN.out
              have h4 : 0 ≤ remZ a b := by simpa using h2
              unfold cmpZ
              rw [if_pos (by omega)]
            rw [hfin]
            clear hfin
            go_wp2
            go_ret
            exact ⟨rfl, h1714⟩
          · skip
            have hcm : cmpZ b 0 = 1 := by have := Hb0.out; unfold cmpZ; repeat' split <;> omega
            have HBN := hide hbn
            clear hbn
            have hS : ∀ w', New w1608 w' → (Blk w' (qa + 1) 24 [.bool bz, .slice Az mz.length cz]) := fun w' hn => hby.new_ hn
            refine wp_region_dm (fun w' => Blk w' (qa + 1) 24 [.bool bz, .slice Az mz.length cz]) [(0, true), (1, false), (2, false), (3, true)] (by kernel_rfl) (by kernel_rfl) (fun _ _ d _ _ h => by cases d <;> exact h) (hS _ (Upd.refl _ _).drew) ?_
            refine st_take (a' := ?_) rfl rfl (y_load2 rfl rfl Try.isAgg24 Try.sizeOf24 (fun _ h => h)) ?_ ?_
            rotate_left; (simp only [Act.put, List.setIfInBounds_toArray, List.set_cons_zero, List.set_cons_succ]; rfl)
            refine st_act rfl rfl fun K hK => a_call (args := #[.int .i64 0]) rfl rfl (fun w => by kernel_rfl) (of_any 0 _ zero_lo zero_hi) ?_
            rintro e w103 ⟨f103, A103, n103, c103, rfl, hc103, hm103⟩
            have hq12_1 := (show New _ _ from (Upd.refl _ _).drew).transNew hm103
            refine ⟨_, rfl, hK _ _ (hS _ hq12_1) ?_⟩
            simp only [Act.put, List.setIfInBounds_toArray, List.set_cons_zero, List.set_cons_succ]
            refine st_act rfl rfl fun K hK => a_call (args := #[.agg #[.bool bz, .slice Az mz.length cz], .agg #[.bool f103, .slice A103 n103 c103]]) rfl rfl (fun w => by kernel_rfl) (cmpz_any _ _ b 0 _ (h1635.new_ hq12_1) (hc103.big zero_abs)) ?_
            rintro e w104 ⟨rfl, hm104⟩
            rw [hcm]
            have hq12_2 := (show New _ _ from hq12_1).transNew hm104
            refine ⟨_, rfl, hK _ _ (hS _ hq12_2) ?_⟩
            simp only [Act.put, List.setIfInBounds_toArray, List.set_cons_zero, List.set_cons_succ]
            refine st_take (a' := ?_) rfl rfl (y_run (v := .bool false) fun w => by kernel_rfl) ?_ ?_
            rotate_left; (simp only [Act.put, List.setIfInBounds_toArray, List.set_cons_zero, List.set_cons_succ]; rfl)
            refine st_nil ?_
            have hd1717 := (show New _ _ from hq12_2)
            clear hS hq12_1 hq12_2
            have h1718 := h1611.new_ hd1717
            have h1719 := h1633.new_ hd1717
            have h1720 := h1609.new_ hd1717
            have h1721 := h1632.new_ hd1717
            have h1722 := hbr.new_ hd1717
            have h1723 := hby.new_ hd1717
            have h1724 := h1634.new_ hd1717
            have h1725 := h1635.new_ hd1717
            have h1726 := h1615.transNew hd1717
            clear h1611 h1633 h1609 h1632 hbr hby h1634 h1635 h1615 hd1717
            clear hm103 hm104 hc103 hcm
            go_upto_region 26 with (fail)
            go_wp2_with fail
            refine (first_any _).mono ?_
            rintro e w1727 ⟨rfl, hn⟩
            have h1728 := h1718.new_ hn
            have h1729 := h1719.new_ hn
            have h1730 := h1720.new_ hn
            have h1731 := h1721.new_ hn
            have h1732 := h1722.new_ hn
            have h1733 := h1723.new_ hn
            have h1734 := h1724.new_ hn
            have h1735 := h1725.new_ hn
            have h1736 := h1726.transNew hn
            clear h1718 h1719 h1720 h1721 h1722 h1723 h1724 h1725 h1726 hn
            have k1737 : w1727.cell? ⟨q1571, 0, none⟩ = some (.bool f1535) := h1729.cell 0
            have k1738 : w1727.cell? ⟨q1571, 1, none⟩ = some (.slice A1536 n1537 c1538) := h1729.cell 1
            have k1739 : w1727.cell? ⟨qx, 0, none⟩ = some (.bool bx) := h1728.cell 0
            have k1740 : w1727.cell? ⟨qx, 1, none⟩ = some (.slice Ax mx.length cx) := h1728.cell 1
            go_wp2_with fail
            clear k1737 k1738 k1739 k1740
            refine (same_any _ _ (a) (a) _ h1731 h1730).mono ?_
            rintro e w1741 ⟨rfl, hn⟩
            have h1742 := h1728.new_ hn
            have h1743 := h1729.new_ hn
            have h1744 := h1730.new_ hn
            have h1745 := h1731.new_ hn
            have h1746 := h1732.new_ hn
            have h1747 := h1733.new_ hn
            have h1748 := h1734.new_ hn
            have h1749 := h1735.new_ hn
            have h1750 := h1736.transNew hn
            clear h1728 h1729 h1730 h1731 h1732 h1733 h1734 h1735 h1736 hn
            rw [decide_eq_true (rfl : a = a)]
            have k1751 : w1741.cell? ⟨qa, 0, none⟩ = some (.bool false) := h1746.cell 0
            have k1752 : w1741.cell? ⟨qa, 1, none⟩ = some (.slice A1426 n1427 c1428) := h1746.cell 1
            have k1753 : w1741.cell? ⟨(qa + 1), 0, none⟩ = some (.bool bz) := h1747.cell 0
            have k1754 : w1741.cell? ⟨(qa + 1), 1, none⟩ = some (.slice Az mz.length cz) := h1747.cell 1
            go_wp2_with fail
            clear k1751 k1752 k1753 k1754
            refine (cmpz_any _ _ (remZ a b) (b) _ h1748 h1749).mono ?_
            rintro e w1755 ⟨rfl, hn⟩
            have h1756 := h1742.new_ hn
            have h1757 := h1743.new_ hn
            have h1758 := h1744.new_ hn
            have h1759 := h1745.new_ hn
            have h1760 := h1746.new_ hn
            have h1761 := h1747.new_ hn
            have h1762 := h1748.new_ hn
            have h1763 := h1749.new_ hn
            have h1764 := h1750.transNew hn
            clear h1742 h1743 h1744 h1745 h1746 h1747 h1748 h1749 h1750 hn
            have hfin : cmpZ (remZ a b) (b) = -1 := by
              have h1 := remZ_lt (a := a) Hb0.out
              have h2 := hfr.out
              have h3 := HBN.out
              have h4 : 0 ≤ remZ a b := by simpa using h2
              unfold cmpZ
              rw [if_pos (by omega)]
            rw [hfin]
            clear hfin
            go_wp2
            go_ret
            exact ⟨rfl, h1764⟩
        · skip
          have k1765 : w1608.cell? ⟨qa, 0, none⟩ = some (.bool true) := hbr.cell 0
          have k1766 : w1608.cell? ⟨qa, 1, none⟩ = some (.slice A1426 n1427 c1428) := hbr.cell 1
          go_upto_region 23 with (fail)
          clear k1765 k1766
          have k1772 : w1608.cell? ⟨qa, 0, none⟩ = some (.bool true) := hbr.cell 0
          have k1773 : w1608.cell? ⟨qa, 1, none⟩ = some (.slice A1426 n1427 c1428) := hbr.cell 1
          go_wp2_with fail
          clear k1772 k1773
          refine (negz_any _ (remZ a b) _ h1634).mono ?_
          rintro e w1774 ⟨f1767, A1768, n1769, c1770, rfl, hc1771, hn⟩
          have h1775 := h1611.new_ hn
          have h1776 := h1633.new_ hn
          have h1777 := h1609.new_ hn
          have h1778 := h1632.new_ hn
          have h1779 := hbr.new_ hn
          have h1780 := hby.new_ hn
          have h1781 := h1634.new_ hn
          have h1782 := h1635.new_ hn
          have h1783 := h1615.transNew hn
          clear h1611 h1633 h1609 h1632 hbr hby h1634 h1635 h1615 hn
          have k1784 : w1774.cell? ⟨qa, 0, none⟩ = some (.bool true) := h1779.cell 0
          have k1785 : w1774.cell? ⟨qa, 1, none⟩ = some (.slice A1426 n1427 c1428) := h1779.cell 1
          have k1786 := h1779.frozen 0
          have k1787 := h1779.frozen 1
          go_upto_region 24 with (fail)
          clear k1784 k1785 k1786 k1787
          obtain ⟨w1788, hw, hN', h1789, h1790, hfar, hall⟩ := store_box hc1771 (by rw [Int.natAbs_neg]; exact h1781.lt) h1779 h1783 (by clear hc1771; omega)
          have hne : qx ≠ qa := by omega
          have h1791 := hfar _ _ _ hne h1775
          clear hne
          have hne : q1571 ≠ qa := by omega
          have h1792 := hfar _ _ _ hne h1776
          clear hne
          have h1793 := hall _ _ h1777
          have h1794 := hall _ _ h1778
          have hne : (qa + 1) ≠ qa := by omega
          have h1795 := hfar _ _ _ hne h1780
          clear hne
          have h1796 := hall _ _ h1782
          rw [← hw]
          clear hw hall hfar hc1771 h1775 h1776 h1777 h1778 h1779 h1780 h1781 h1782 h1783
          have h1797 := hN'
          clear hN'
          by_cases hbn : b < 0
          · skip
            have hcm : cmpZ b 0 = (-1) := by have := Hb0.out; unfold cmpZ; repeat' split <;> omega
            have HBN := hide hbn
            clear hbn
            have hS : ∀ w', New w1788 w' → (Blk w' (qa + 1) 24 [.bool bz, .slice Az mz.length cz]) := fun w' hn => h1795.new_ hn
            refine wp_region_dm (fun w' => Blk w' (qa + 1) 24 [.bool bz, .slice Az mz.length cz]) [(0, true), (1, false), (2, false), (3, true)] (by kernel_rfl) (by kernel_rfl) (fun _ _ d _ _ h => by cases d <;> exact h) (hS _ (Upd.refl _ _).drew) ?_
            refine st_take (a' := ?_) rfl rfl (y_load2 rfl rfl Try.isAgg24 Try.sizeOf24 (fun _ h => h)) ?_ ?_
            rotate_left; (simp only [Act.put, List.setIfInBounds_toArray, List.set_cons_zero, List.set_cons_succ]; rfl)
            refine st_act rfl rfl fun K hK => a_call (args := #[.int .i64 0]) rfl rfl (fun w => by kernel_rfl) (of_any 0 _ zero_lo zero_hi) ?_
            rintro e w103 ⟨f103, A103, n103, c103, rfl, hc103, hm103⟩
            have hq13_1 := (show New _ _ from (Upd.refl _ _).drew).transNew hm103
            refine ⟨_, rfl, hK _ _ (hS _ hq13_1) ?_⟩
            simp only [Act.put, List.setIfInBounds_toArray, List.set_cons_zero, List.set_cons_succ]
            refine st_act rfl rfl fun K hK => a_call (args := #[.agg #[.bool bz, .slice Az mz.length cz], .agg #[.bool f103, .slice A103 n103 c103]]) rfl rfl (fun w => by kernel_rfl) (cmpz_any _ _ b 0 _ (h1796.new_ hq13_1) (hc103.big zero_abs)) ?_
            rintro e w104 ⟨rfl, hm104⟩
            rw [hcm]
            have hq13_2 := (show New _ _ from hq13_1).transNew hm104
            refine ⟨_, rfl, hK _ _ (hS _ hq13_2) ?_⟩
            simp only [Act.put, List.setIfInBounds_toArray, List.set_cons_zero, List.set_cons_succ]
            refine st_take (a' := ?_) rfl rfl (y_run (v := .bool true) fun w => by kernel_rfl) ?_ ?_
            rotate_left; (simp only [Act.put, List.setIfInBounds_toArray, List.set_cons_zero, List.set_cons_succ]; rfl)
            refine st_nil ?_
            have hd1798 := (show New _ _ from hq13_2)
            clear hS hq13_1 hq13_2
            have h1799 := h1791.new_ hd1798
            have h1800 := h1792.new_ hd1798
            have h1801 := h1793.new_ hd1798
            have h1802 := h1794.new_ hd1798
            have h1803 := h1795.new_ hd1798
            have h1804 := h1796.new_ hd1798
            have h1805 := h1797.transNew hd1798
            have h1806 := h1789.new_ hd1798
            have h1807 := h1790.new_ hd1798
            clear h1791 h1792 h1793 h1794 h1795 h1796 h1797 h1789 h1790 hd1798
            clear hm103 hm104 hc103 hcm
            go_upto_region 25 with (fail)
            have k1813 : w104.cell? ⟨(qa + 1), 0, none⟩ = some (.bool bz) := h1803.cell 0
            have k1814 : w104.cell? ⟨(qa + 1), 1, none⟩ = some (.slice Az mz.length cz) := h1803.cell 1
            go_wp2_with fail
            clear k1813 k1814
            refine (negz_any _ (b) _ h1804).mono ?_
            rintro e w1815 ⟨f1808, A1809, n1810, c1811, rfl, hc1812, hn⟩
            have h1816 := h1799.new_ hn
            have h1817 := h1800.new_ hn
            have h1818 := h1801.new_ hn
            have h1819 := h1802.new_ hn
            have h1820 := h1803.new_ hn
            have h1821 := h1804.new_ hn
            have h1822 := h1805.transNew hn
            have h1823 := h1806.new_ hn
            have h1824 := h1807.new_ hn
            clear h1799 h1800 h1801 h1802 h1803 h1804 h1805 h1806 h1807 hn
            have k1825 : w1815.cell? ⟨(qa + 1), 0, none⟩ = some (.bool bz) := h1820.cell 0
            have k1826 : w1815.cell? ⟨(qa + 1), 1, none⟩ = some (.slice Az mz.length cz) := h1820.cell 1
            have k1827 := h1820.frozen 0
            have k1828 := h1820.frozen 1
            go_upto_region 26 with (fail)
            clear k1825 k1826 k1827 k1828
            obtain ⟨w1829, hw, hN', h1830, h1831, hfar, hall⟩ := store_box hc1812 (by rw [Int.natAbs_neg]; exact h1821.lt) h1820 h1822 (by clear hc1812; omega)
            have hne : qx ≠ (qa + 1) := by omega
            have h1832 := hfar _ _ _ hne h1816
            clear hne
            have hne : q1571 ≠ (qa + 1) := by omega
            have h1833 := hfar _ _ _ hne h1817
            clear hne
            have h1834 := hall _ _ h1818
            have h1835 := hall _ _ h1819
            have hne : qa ≠ (qa + 1) := by omega
            have h1836 := hfar _ _ _ hne h1823
            clear hne
            have h1837 := hall _ _ h1824
            rw [← hw]
            clear hw hall hfar hc1812 h1816 h1817 h1818 h1819 h1820 h1821 h1822 h1823 h1824
            have h1838 := hN'
            clear hN'
            go_wp2_with fail
            refine (first_any _).mono ?_
            rintro e w1839 ⟨rfl, hn⟩
            have h1840 := h1832.new_ hn
            have h1841 := h1833.new_ hn
            have h1842 := h1834.new_ hn
            have h1843 := h1835.new_ hn
            have h1844 := h1836.new_ hn
            have h1845 := h1837.new_ hn
            have h1846 := h1838.transNew hn
            have h1847 := h1830.new_ hn
            have h1848 := h1831.new_ hn
            clear h1832 h1833 h1834 h1835 h1836 h1837 h1838 h1830 h1831 hn
            have k1849 : w1839.cell? ⟨q1571, 0, none⟩ = some (.bool f1535) := h1841.cell 0
            have k1850 : w1839.cell? ⟨q1571, 1, none⟩ = some (.slice A1536 n1537 c1538) := h1841.cell 1
            have k1851 : w1839.cell? ⟨qx, 0, none⟩ = some (.bool bx) := h1840.cell 0
            have k1852 : w1839.cell? ⟨qx, 1, none⟩ = some (.slice Ax mx.length cx) := h1840.cell 1
            go_wp2_with fail
            clear k1849 k1850 k1851 k1852
            refine (same_any _ _ (a) (a) _ h1843 h1842).mono ?_
            rintro e w1853 ⟨rfl, hn⟩
            have h1854 := h1840.new_ hn
            have h1855 := h1841.new_ hn
            have h1856 := h1842.new_ hn
            have h1857 := h1843.new_ hn
            have h1858 := h1844.new_ hn
            have h1859 := h1845.new_ hn
            have h1860 := h1846.transNew hn
            have h1861 := h1847.new_ hn
            have h1862 := h1848.new_ hn
            clear h1840 h1841 h1842 h1843 h1844 h1845 h1846 h1847 h1848 hn
            rw [decide_eq_true (rfl : a = a)]
            have k1863 : w1853.cell? ⟨qa, 0, none⟩ = some (.bool f1767) := h1858.cell 0
            have k1864 : w1853.cell? ⟨qa, 1, none⟩ = some (.slice A1768 n1769 c1770) := h1858.cell 1
            have k1865 : w1853.cell? ⟨(qa + 1), 0, none⟩ = some (.bool f1808) := h1861.cell 0
            have k1866 : w1853.cell? ⟨(qa + 1), 1, none⟩ = some (.slice A1809 n1810 c1811) := h1861.cell 1
            go_wp2_with fail
            clear k1863 k1864 k1865 k1866
            refine (cmpz_any _ _ (-(remZ a b)) (-b) _ h1859 h1862).mono ?_
            rintro e w1867 ⟨rfl, hn⟩
            have h1868 := h1854.new_ hn
            have h1869 := h1855.new_ hn
            have h1870 := h1856.new_ hn
            have h1871 := h1857.new_ hn
            have h1872 := h1858.new_ hn
            have h1873 := h1859.new_ hn
            have h1874 := h1860.transNew hn
            have h1875 := h1861.new_ hn
            have h1876 := h1862.new_ hn
            clear h1854 h1855 h1856 h1857 h1858 h1859 h1860 h1861 h1862 hn
            have hfin : cmpZ (-(remZ a b)) (-b) = -1 := by
              have h1 := remZ_lt (a := a) Hb0.out
              have h2 := hfr.out
              have h3 := HBN.out
              have h4 : remZ a b < 0 := by simpa using h2
              unfold cmpZ
              rw [if_pos (by omega)]
            rw [hfin]
            clear hfin
            go_wp2
            go_ret
            exact ⟨rfl, h1874⟩
          · skip
            have hcm : cmpZ b 0 = 1 := by have := Hb0.out; unfold cmpZ; repeat' split <;> omega
            have HBN := hide hbn
            clear hbn
            have hS : ∀ w', New w1788 w' → (Blk w' (qa + 1) 24 [.bool bz, .slice Az mz.length cz]) := fun w' hn => h1795.new_ hn
            refine wp_region_dm (fun w' => Blk w' (qa + 1) 24 [.bool bz, .slice Az mz.length cz]) [(0, true), (1, false), (2, false), (3, true)] (by kernel_rfl) (by kernel_rfl) (fun _ _ d _ _ h => by cases d <;> exact h) (hS _ (Upd.refl _ _).drew) ?_
            refine st_take (a' := ?_) rfl rfl (y_load2 rfl rfl Try.isAgg24 Try.sizeOf24 (fun _ h => h)) ?_ ?_
            rotate_left; (simp only [Act.put, List.setIfInBounds_toArray, List.set_cons_zero, List.set_cons_succ]; rfl)
            refine st_act rfl rfl fun K hK => a_call (args := #[.int .i64 0]) rfl rfl (fun w => by kernel_rfl) (of_any 0 _ zero_lo zero_hi) ?_
            rintro e w103 ⟨f103, A103, n103, c103, rfl, hc103, hm103⟩
            have hq14_1 := (show New _ _ from (Upd.refl _ _).drew).transNew hm103
            refine ⟨_, rfl, hK _ _ (hS _ hq14_1) ?_⟩
            simp only [Act.put, List.setIfInBounds_toArray, List.set_cons_zero, List.set_cons_succ]
            refine st_act rfl rfl fun K hK => a_call (args := #[.agg #[.bool bz, .slice Az mz.length cz], .agg #[.bool f103, .slice A103 n103 c103]]) rfl rfl (fun w => by kernel_rfl) (cmpz_any _ _ b 0 _ (h1796.new_ hq14_1) (hc103.big zero_abs)) ?_
            rintro e w104 ⟨rfl, hm104⟩
            rw [hcm]
            have hq14_2 := (show New _ _ from hq14_1).transNew hm104
            refine ⟨_, rfl, hK _ _ (hS _ hq14_2) ?_⟩
            simp only [Act.put, List.setIfInBounds_toArray, List.set_cons_zero, List.set_cons_succ]
            refine st_take (a' := ?_) rfl rfl (y_run (v := .bool false) fun w => by kernel_rfl) ?_ ?_
            rotate_left; (simp only [Act.put, List.setIfInBounds_toArray, List.set_cons_zero, List.set_cons_succ]; rfl)
            refine st_nil ?_
            have hd1877 := (show New _ _ from hq14_2)
            clear hS hq14_1 hq14_2
            have h1878 := h1791.new_ hd1877
            have h1879 := h1792.new_ hd1877
            have h1880 := h1793.new_ hd1877
            have h1881 := h1794.new_ hd1877
            have h1882 := h1795.new_ hd1877
            have h1883 := h1796.new_ hd1877
            have h1884 := h1797.transNew hd1877
            have h1885 := h1789.new_ hd1877
            have h1886 := h1790.new_ hd1877
            clear h1791 h1792 h1793 h1794 h1795 h1796 h1797 h1789 h1790 hd1877
            clear hm103 hm104 hc103 hcm
            go_upto_region 26 with (fail)
            go_wp2_with fail
            refine (first_any _).mono ?_
            rintro e w1887 ⟨rfl, hn⟩
            have h1888 := h1878.new_ hn
            have h1889 := h1879.new_ hn
            have h1890 := h1880.new_ hn
            have h1891 := h1881.new_ hn
            have h1892 := h1882.new_ hn
            have h1893 := h1883.new_ hn
            have h1894 := h1884.transNew hn
            have h1895 := h1885.new_ hn
            have h1896 := h1886.new_ hn
            clear h1878 h1879 h1880 h1881 h1882 h1883 h1884 h1885 h1886 hn
            have k1897 : w1887.cell? ⟨q1571, 0, none⟩ = some (.bool f1535) := h1889.cell 0
            have k1898 : w1887.cell? ⟨q1571, 1, none⟩ = some (.slice A1536 n1537 c1538) := h1889.cell 1
            have k1899 : w1887.cell? ⟨qx, 0, none⟩ = some (.bool bx) := h1888.cell 0
            have k1900 : w1887.cell? ⟨qx, 1, none⟩ = some (.slice Ax mx.length cx) := h1888.cell 1
            go_wp2_with fail
            clear k1897 k1898 k1899 k1900
            refine (same_any _ _ (a) (a) _ h1891 h1890).mono ?_
            rintro e w1901 ⟨rfl, hn⟩
            have h1902 := h1888.new_ hn
            have h1903 := h1889.new_ hn
            have h1904 := h1890.new_ hn
            have h1905 := h1891.new_ hn
            have h1906 := h1892.new_ hn
            have h1907 := h1893.new_ hn
            have h1908 := h1894.transNew hn
            have h1909 := h1895.new_ hn
            have h1910 := h1896.new_ hn
            clear h1888 h1889 h1890 h1891 h1892 h1893 h1894 h1895 h1896 hn
            rw [decide_eq_true (rfl : a = a)]
            have k1911 : w1901.cell? ⟨qa, 0, none⟩ = some (.bool f1767) := h1909.cell 0
            have k1912 : w1901.cell? ⟨qa, 1, none⟩ = some (.slice A1768 n1769 c1770) := h1909.cell 1
            have k1913 : w1901.cell? ⟨(qa + 1), 0, none⟩ = some (.bool bz) := h1906.cell 0
            have k1914 : w1901.cell? ⟨(qa + 1), 1, none⟩ = some (.slice Az mz.length cz) := h1906.cell 1
            go_wp2_with fail
            clear k1911 k1912 k1913 k1914
            refine (cmpz_any _ _ (-(remZ a b)) (b) _ h1910 h1907).mono ?_
            rintro e w1915 ⟨rfl, hn⟩
            have h1916 := h1902.new_ hn
            have h1917 := h1903.new_ hn
            have h1918 := h1904.new_ hn
            have h1919 := h1905.new_ hn
            have h1920 := h1906.new_ hn
            have h1921 := h1907.new_ hn
            have h1922 := h1908.transNew hn
            have h1923 := h1909.new_ hn
            have h1924 := h1910.new_ hn
            clear h1902 h1903 h1904 h1905 h1906 h1907 h1908 h1909 h1910 hn
            have hfin : cmpZ (-(remZ a b)) (b) = -1 := by
              have h1 := remZ_lt (a := a) Hb0.out
              have h2 := hfr.out
              have h3 := HBN.out
              have h4 : remZ a b < 0 := by simpa using h2
              unfold cmpZ
              rw [if_pos (by omega)]
            rw [hfin]
            clear hfin
            go_wp2
            go_ret
            exact ⟨rfl, h1922⟩
      · skip
        clear k1596 k1597 k1598 k1599 k1600 k1601 k1602 k1603 k1604 k1605 k1606 k1607
        obtain ⟨w1925, hw⟩ : ∃ w', w' = ((w1569.alloc (.cells #[.bool bz, .slice Az mz.length cz] 24)).alloc (.cells #[.bool f1425, .slice A1426 n1427 c1428] 24)).drew := ⟨_, rfl⟩
        have hn : New w1569 w1925 := by rw [hw]; exact (((Upd.refl _ _).alloc _).alloc _).drew
        have hbP : Blk w1925 w1569.heap.size 24 [.bool bz, .slice Az mz.length cz] := by rw [hw]; exact ((Blk.new w1569 _ _).alloc _).drew
        have hbQ : Blk w1925 (w1569.heap.size + 1) 24 [.bool f1425, .slice A1426 n1427 c1428] := by
          rw [hw]
          have := Blk.new (w1569.alloc (.cells #[.bool bz, .slice Az mz.length cz] 24)) 24 [.bool f1425, .slice A1426 n1427 c1428]
          rw [show (w1569.alloc (.cells #[.bool bz, .slice Az mz.length cz] 24)).heap.size = w1569.heap.size + 1 by simp] at this
          exact this.drew
        rw [← hw]
        clear hw
        have hl0 : w.heap.size ≤ w1569.heap.size := h1578.size
        have hl_x := h1574.lt
        have hl_back := hb1570.lt
        obtain ⟨qa, hqa⟩ : ∃ q, q = w1569.heap.size := ⟨_, rfl⟩
        rw [← hqa] at hbP hbQ hl0 hl_x hl_back ⊢
        clear hqa
        have h1926 := h1572.new_ hn
        have h1927 := h1573.new_ hn
        have h1928 := h1574.new_ hn
        have h1929 := h1575.new_ hn
        have h1930 := h1576.new_ hn
        have h1931 := h1577.new_ hn
        have h1932 := h1578.transNew hn
        have h1933 := h1579.new_ hn
        have h1934 := h1580.new_ hn
        have h1935 := h1581.new_ hn
        have h1936 := h1582.new_ hn
        have h1937 := h1583.new_ hn
        have h1938 := h1584.new_ hn
        have h1939 := h1585.new_ hn
        have h1940 := h1586.new_ hn
        have h1941 := h1587.new_ hn
        have h1942 := h1588.new_ hn
        have h1943 := h1589.new_ hn
        have h1944 := h1590.new_ hn
        have h1945 := h1591.new_ hn
        have h1946 := h1592.new_ hn
        have h1947 := h1593.new_ hn
        have h1948 := h1594.new_ hn
        have h1949 := h1595.new_ hn
        have h1950 := hb1570.new_ hn
        clear h1572 h1573 h1574 h1575 h1576 h1577 h1578 h1579 h1580 h1581 h1582 h1583 h1584 h1585 h1586 h1587 h1588 h1589 h1590 h1591 h1592 h1593 h1594 h1595 hb1570 hn
        have hbr := hbQ
        have hby := hbP
        clear hbP hbQ
        have h1951 := h1945
        have h1952 := h1929
        cases f1425
        · skip
          have k1953 : w1925.cell? ⟨(qa + 1), 0, none⟩ = some (.bool false) := hbr.cell 0
          have k1954 : w1925.cell? ⟨(qa + 1), 1, none⟩ = some (.slice A1426 n1427 c1428) := hbr.cell 1
          go_upto_region 24 with (fail)
          clear k1953 k1954
          by_cases hbn : b < 0
          · skip
            have hcm : cmpZ b 0 = (-1) := by have := Hb0.out; unfold cmpZ; repeat' split <;> omega
            have HBN := hide hbn
            clear hbn
            have hS : ∀ w', New w1925 w' → (Blk w' qa 24 [.bool bz, .slice Az mz.length cz]) := fun w' hn => hby.new_ hn
            refine wp_region_dm (fun w' => Blk w' qa 24 [.bool bz, .slice Az mz.length cz]) [(0, true), (1, false), (2, false), (3, true)] (by kernel_rfl) (by kernel_rfl) (fun _ _ d _ _ h => by cases d <;> exact h) (hS _ (Upd.refl _ _).drew) ?_
            refine st_take (a' := ?_) rfl rfl (y_load2 rfl rfl Try.isAgg24 Try.sizeOf24 (fun _ h => h)) ?_ ?_
            rotate_left; (simp only [Act.put, List.setIfInBounds_toArray, List.set_cons_zero, List.set_cons_succ]; rfl)
            refine st_act rfl rfl fun K hK => a_call (args := #[.int .i64 0]) rfl rfl (fun w => by kernel_rfl) (of_any 0 _ zero_lo zero_hi) ?_
            rintro e w103 ⟨f103, A103, n103, c103, rfl, hc103, hm103⟩
            have hq15_1 := (show New _ _ from (Upd.refl _ _).drew).transNew hm103
            refine ⟨_, rfl, hK _ _ (hS _ hq15_1) ?_⟩
            simp only [Act.put, List.setIfInBounds_toArray, List.set_cons_zero, List.set_cons_succ]
            refine st_act rfl rfl fun K hK => a_call (args := #[.agg #[.bool bz, .slice Az mz.length cz], .agg #[.bool f103, .slice A103 n103 c103]]) rfl rfl (fun w => by kernel_rfl) (cmpz_any _ _ b 0 _ (h1952.new_ hq15_1) (hc103.big zero_abs)) ?_
            rintro e w104 ⟨rfl, hm104⟩
            rw [hcm]
            have hq15_2 := (show New _ _ from hq15_1).transNew hm104
            refine ⟨_, rfl, hK _ _ (hS _ hq15_2) ?_⟩
            simp only [Act.put, List.setIfInBounds_toArray, List.set_cons_zero, List.set_cons_succ]
            refine st_take (a' := ?_) rfl rfl (y_run (v := .bool true) fun w => by kernel_rfl) ?_ ?_
            rotate_left; (simp only [Act.put, List.setIfInBounds_toArray, List.set_cons_zero, List.set_cons_succ]; rfl)
            refine st_nil ?_
            have hd1955 := (show New _ _ from hq15_2)
            clear hS hq15_1 hq15_2
            have h1956 := h1928.new_ hd1955
            have h1957 := h1950.new_ hd1955
            have h1958 := h1926.new_ hd1955
            have h1959 := h1949.new_ hd1955
            have h1960 := hbr.new_ hd1955
            have h1961 := hby.new_ hd1955
            have h1962 := h1951.new_ hd1955
            have h1963 := h1952.new_ hd1955
            have h1964 := h1932.transNew hd1955
            clear h1928 h1950 h1926 h1949 hbr hby h1951 h1952 h1932 hd1955
            clear hm103 hm104 hc103 hcm
            go_upto_region 25 with (fail)
            have k1970 : w104.cell? ⟨qa, 0, none⟩ = some (.bool bz) := h1961.cell 0
            have k1971 : w104.cell? ⟨qa, 1, none⟩ = some (.slice Az mz.length cz) := h1961.cell 1
            go_wp2_with fail
            clear k1970 k1971
            refine (negz_any _ (b) _ h1963).mono ?_
            rintro e w1972 ⟨f1965, A1966, n1967, c1968, rfl, hc1969, hn⟩
            have h1973 := h1956.new_ hn
            have h1974 := h1957.new_ hn
            have h1975 := h1958.new_ hn
            have h1976 := h1959.new_ hn
            have h1977 := h1960.new_ hn
            have h1978 := h1961.new_ hn
            have h1979 := h1962.new_ hn
            have h1980 := h1963.new_ hn
            have h1981 := h1964.transNew hn
            clear h1956 h1957 h1958 h1959 h1960 h1961 h1962 h1963 h1964 hn
            have k1982 : w1972.cell? ⟨qa, 0, none⟩ = some (.bool bz) := h1978.cell 0
            have k1983 : w1972.cell? ⟨qa, 1, none⟩ = some (.slice Az mz.length cz) := h1978.cell 1
            have k1984 := h1978.frozen 0
            have k1985 := h1978.frozen 1
            go_upto_region 26 with (fail)
            clear k1982 k1983 k1984 k1985
            obtain ⟨w1986, hw, hN', h1987, h1988, hfar, hall⟩ := store_box hc1969 (by rw [Int.natAbs_neg]; exact h1980.lt) h1978 h1981 (by clear hc1969; omega)
            have hne : qx ≠ qa := by omega
            have h1989 := hfar _ _ _ hne h1973
            clear hne
            have hne : q1571 ≠ qa := by omega
            have h1990 := hfar _ _ _ hne h1974
            clear hne
            have h1991 := hall _ _ h1975
            have h1992 := hall _ _ h1976
            have hne : (qa + 1) ≠ qa := by omega
            have h1993 := hfar _ _ _ hne h1977
            clear hne
            have h1994 := hall _ _ h1979
            rw [← hw]
            clear hw hall hfar hc1969 h1973 h1974 h1975 h1976 h1977 h1978 h1979 h1980 h1981
            have h1995 := hN'
            clear hN'
            go_wp2_with fail
            refine (first_any _).mono ?_
            rintro e w1996 ⟨rfl, hn⟩
            have h1997 := h1989.new_ hn
            have h1998 := h1990.new_ hn
            have h1999 := h1991.new_ hn
            have h2000 := h1992.new_ hn
            have h2001 := h1993.new_ hn
            have h2002 := h1994.new_ hn
            have h2003 := h1995.transNew hn
            have h2004 := h1987.new_ hn
            have h2005 := h1988.new_ hn
            clear h1989 h1990 h1991 h1992 h1993 h1994 h1995 h1987 h1988 hn
            have k2006 : w1996.cell? ⟨q1571, 0, none⟩ = some (.bool f1535) := h1998.cell 0
            have k2007 : w1996.cell? ⟨q1571, 1, none⟩ = some (.slice A1536 n1537 c1538) := h1998.cell 1
            have k2008 : w1996.cell? ⟨qx, 0, none⟩ = some (.bool bx) := h1997.cell 0
            have k2009 : w1996.cell? ⟨qx, 1, none⟩ = some (.slice Ax mx.length cx) := h1997.cell 1
            go_wp2_with fail
            clear k2006 k2007 k2008 k2009
            refine (same_any _ _ (a) (a) _ h2000 h1999).mono ?_
            rintro e w2010 ⟨rfl, hn⟩
            have h2011 := h1997.new_ hn
            have h2012 := h1998.new_ hn
            have h2013 := h1999.new_ hn
            have h2014 := h2000.new_ hn
            have h2015 := h2001.new_ hn
            have h2016 := h2002.new_ hn
            have h2017 := h2003.transNew hn
            have h2018 := h2004.new_ hn
            have h2019 := h2005.new_ hn
            clear h1997 h1998 h1999 h2000 h2001 h2002 h2003 h2004 h2005 hn
            rw [decide_eq_true (rfl : a = a)]
            have k2020 : w2010.cell? ⟨(qa + 1), 0, none⟩ = some (.bool false) := h2015.cell 0
            have k2021 : w2010.cell? ⟨(qa + 1), 1, none⟩ = some (.slice A1426 n1427 c1428) := h2015.cell 1
            have k2022 : w2010.cell? ⟨qa, 0, none⟩ = some (.bool f1965) := h2018.cell 0
            have k2023 : w2010.cell? ⟨qa, 1, none⟩ = some (.slice A1966 n1967 c1968) := h2018.cell 1
            go_wp2_with fail
            clear k2020 k2021 k2022 k2023
            refine (cmpz_any _ _ (remZ a b) (-b) _ h2016 h2019).mono ?_
            rintro e w2024 ⟨rfl, hn⟩
            have h2025 := h2011.new_ hn
            have h2026 := h2012.new_ hn
            have h2027 := h2013.new_ hn
            have h2028 := h2014.new_ hn
            have h2029 := h2015.new_ hn
            have h2030 := h2016.new_ hn
            have h2031 := h2017.transNew hn
            have h2032 := h2018.new_ hn
            have h2033 := h2019.new_ hn
            clear h2011 h2012 h2013 h2014 h2015 h2016 h2017 h2018 h2019 hn
            have hfin : cmpZ (remZ a b) (-b) = -1 := by
              have h1 := remZ_lt (a := a) Hb0.out
              have h2 := hfr.out
              have h3 := HBN.out
              have h4 : 0 ≤ remZ a b := by simpa using h2
              unfold cmpZ
              rw [if_pos (by omega)]
            rw [hfin]
            clear hfin
            go_wp2
            go_ret
            exact ⟨rfl, h2031⟩
          · skip
            have hcm : cmpZ b 0 = 1 := by have := Hb0.out; unfold cmpZ; repeat' split <;> omega
            have HBN := hide hbn
            clear hbn
            have hS : ∀ w', New w1925 w' → (Blk w' qa 24 [.bool bz, .slice Az mz.length cz]) := fun w' hn => hby.new_ hn
            refine wp_region_dm (fun w' => Blk w' qa 24 [.bool bz, .slice Az mz.length cz]) [(0, true), (1, false), (2, false), (3, true)] (by kernel_rfl) (by kernel_rfl) (fun _ _ d _ _ h => by cases d <;> exact h) (hS _ (Upd.refl _ _).drew) ?_
            refine st_take (a' := ?_) rfl rfl (y_load2 rfl rfl Try.isAgg24 Try.sizeOf24 (fun _ h => h)) ?_ ?_
            rotate_left; (simp only [Act.put, List.setIfInBounds_toArray, List.set_cons_zero, List.set_cons_succ]; rfl)
            refine st_act rfl rfl fun K hK => a_call (args := #[.int .i64 0]) rfl rfl (fun w => by kernel_rfl) (of_any 0 _ zero_lo zero_hi) ?_
            rintro e w103 ⟨f103, A103, n103, c103, rfl, hc103, hm103⟩
            have hq16_1 := (show New _ _ from (Upd.refl _ _).drew).transNew hm103
            refine ⟨_, rfl, hK _ _ (hS _ hq16_1) ?_⟩
            simp only [Act.put, List.setIfInBounds_toArray, List.set_cons_zero, List.set_cons_succ]
            refine st_act rfl rfl fun K hK => a_call (args := #[.agg #[.bool bz, .slice Az mz.length cz], .agg #[.bool f103, .slice A103 n103 c103]]) rfl rfl (fun w => by kernel_rfl) (cmpz_any _ _ b 0 _ (h1952.new_ hq16_1) (hc103.big zero_abs)) ?_
            rintro e w104 ⟨rfl, hm104⟩
            rw [hcm]
            have hq16_2 := (show New _ _ from hq16_1).transNew hm104
            refine ⟨_, rfl, hK _ _ (hS _ hq16_2) ?_⟩
            simp only [Act.put, List.setIfInBounds_toArray, List.set_cons_zero, List.set_cons_succ]
            refine st_take (a' := ?_) rfl rfl (y_run (v := .bool false) fun w => by kernel_rfl) ?_ ?_
            rotate_left; (simp only [Act.put, List.setIfInBounds_toArray, List.set_cons_zero, List.set_cons_succ]; rfl)
            refine st_nil ?_
            have hd2034 := (show New _ _ from hq16_2)
            clear hS hq16_1 hq16_2
            have h2035 := h1928.new_ hd2034
            have h2036 := h1950.new_ hd2034
            have h2037 := h1926.new_ hd2034
            have h2038 := h1949.new_ hd2034
            have h2039 := hbr.new_ hd2034
            have h2040 := hby.new_ hd2034
            have h2041 := h1951.new_ hd2034
            have h2042 := h1952.new_ hd2034
            have h2043 := h1932.transNew hd2034
            clear h1928 h1950 h1926 h1949 hbr hby h1951 h1952 h1932 hd2034
            clear hm103 hm104 hc103 hcm
            go_upto_region 26 with (fail)
            go_wp2_with fail
            refine (first_any _).mono ?_
            rintro e w2044 ⟨rfl, hn⟩
            have h2045 := h2035.new_ hn
            have h2046 := h2036.new_ hn
            have h2047 := h2037.new_ hn
            have h2048 := h2038.new_ hn
            have h2049 := h2039.new_ hn
            have h2050 := h2040.new_ hn
            have h2051 := h2041.new_ hn
            have h2052 := h2042.new_ hn
            have h2053 := h2043.transNew hn
            clear h2035 h2036 h2037 h2038 h2039 h2040 h2041 h2042 h2043 hn
            have k2054 : w2044.cell? ⟨q1571, 0, none⟩ = some (.bool f1535) := h2046.cell 0
            have k2055 : w2044.cell? ⟨q1571, 1, none⟩ = some (.slice A1536 n1537 c1538) := h2046.cell 1
            have k2056 : w2044.cell? ⟨qx, 0, none⟩ = some (.bool bx) := h2045.cell 0
            have k2057 : w2044.cell? ⟨qx, 1, none⟩ = some (.slice Ax mx.length cx) := h2045.cell 1
            go_wp2_with fail
            clear k2054 k2055 k2056 k2057
            refine (same_any _ _ (a) (a) _ h2048 h2047).mono ?_
            rintro e w2058 ⟨rfl, hn⟩
            have h2059 := h2045.new_ hn
            have h2060 := h2046.new_ hn
            have h2061 := h2047.new_ hn
            have h2062 := h2048.new_ hn
            have h2063 := h2049.new_ hn
            have h2064 := h2050.new_ hn
            have h2065 := h2051.new_ hn
            have h2066 := h2052.new_ hn
            have h2067 := h2053.transNew hn
            clear h2045 h2046 h2047 h2048 h2049 h2050 h2051 h2052 h2053 hn
            rw [decide_eq_true (rfl : a = a)]
            have k2068 : w2058.cell? ⟨(qa + 1), 0, none⟩ = some (.bool false) := h2063.cell 0
            have k2069 : w2058.cell? ⟨(qa + 1), 1, none⟩ = some (.slice A1426 n1427 c1428) := h2063.cell 1
            have k2070 : w2058.cell? ⟨qa, 0, none⟩ = some (.bool bz) := h2064.cell 0
            have k2071 : w2058.cell? ⟨qa, 1, none⟩ = some (.slice Az mz.length cz) := h2064.cell 1
            go_wp2_with fail
            clear k2068 k2069 k2070 k2071
            refine (cmpz_any _ _ (remZ a b) (b) _ h2065 h2066).mono ?_
            rintro e w2072 ⟨rfl, hn⟩
            have h2073 := h2059.new_ hn
            have h2074 := h2060.new_ hn
            have h2075 := h2061.new_ hn
            have h2076 := h2062.new_ hn
            have h2077 := h2063.new_ hn
            have h2078 := h2064.new_ hn
            have h2079 := h2065.new_ hn
            have h2080 := h2066.new_ hn
            have h2081 := h2067.transNew hn
            clear h2059 h2060 h2061 h2062 h2063 h2064 h2065 h2066 h2067 hn
            have hfin : cmpZ (remZ a b) (b) = -1 := by
              have h1 := remZ_lt (a := a) Hb0.out
              have h2 := hfr.out
              have h3 := HBN.out
              have h4 : 0 ≤ remZ a b := by simpa using h2
              unfold cmpZ
              rw [if_pos (by omega)]
            rw [hfin]
            clear hfin
            go_wp2
            go_ret
            exact ⟨rfl, h2081⟩
        · skip
          have k2082 : w1925.cell? ⟨(qa + 1), 0, none⟩ = some (.bool true) := hbr.cell 0
          have k2083 : w1925.cell? ⟨(qa + 1), 1, none⟩ = some (.slice A1426 n1427 c1428) := hbr.cell 1
          go_upto_region 23 with (fail)
          clear k2082 k2083
          have k2089 : w1925.cell? ⟨(qa + 1), 0, none⟩ = some (.bool true) := hbr.cell 0
          have k2090 : w1925.cell? ⟨(qa + 1), 1, none⟩ = some (.slice A1426 n1427 c1428) := hbr.cell 1
          go_wp2_with fail
          clear k2089 k2090
          refine (negz_any _ (remZ a b) _ h1951).mono ?_
          rintro e w2091 ⟨f2084, A2085, n2086, c2087, rfl, hc2088, hn⟩
          have h2092 := h1928.new_ hn
          have h2093 := h1950.new_ hn
          have h2094 := h1926.new_ hn
          have h2095 := h1949.new_ hn
          have h2096 := hbr.new_ hn
          have h2097 := hby.new_ hn
          have h2098 := h1951.new_ hn
          have h2099 := h1952.new_ hn
          have h2100 := h1932.transNew hn
          clear h1928 h1950 h1926 h1949 hbr hby h1951 h1952 h1932 hn
          have k2101 : w2091.cell? ⟨(qa + 1), 0, none⟩ = some (.bool true) := h2096.cell 0
          have k2102 : w2091.cell? ⟨(qa + 1), 1, none⟩ = some (.slice A1426 n1427 c1428) := h2096.cell 1
          have k2103 := h2096.frozen 0
          have k2104 := h2096.frozen 1
          go_upto_region 24 with (fail)
          clear k2101 k2102 k2103 k2104
          obtain ⟨w2105, hw, hN', h2106, h2107, hfar, hall⟩ := store_box hc2088 (by rw [Int.natAbs_neg]; exact h2098.lt) h2096 h2100 (by clear hc2088; omega)
          have hne : qx ≠ (qa + 1) := by omega
          have h2108 := hfar _ _ _ hne h2092
          clear hne
          have hne : q1571 ≠ (qa + 1) := by omega
          have h2109 := hfar _ _ _ hne h2093
          clear hne
          have h2110 := hall _ _ h2094
          have h2111 := hall _ _ h2095
          have hne : qa ≠ (qa + 1) := by omega
          have h2112 := hfar _ _ _ hne h2097
          clear hne
          have h2113 := hall _ _ h2099
          rw [← hw]
          clear hw hall hfar hc2088 h2092 h2093 h2094 h2095 h2096 h2097 h2098 h2099 h2100
          have h2114 := hN'
          clear hN'
          by_cases hbn : b < 0
          · skip
            have hcm : cmpZ b 0 = (-1) := by have := Hb0.out; unfold cmpZ; repeat' split <;> omega
            have HBN := hide hbn
            clear hbn
            have hS : ∀ w', New w2105 w' → (Blk w' qa 24 [.bool bz, .slice Az mz.length cz]) := fun w' hn => h2112.new_ hn
            refine wp_region_dm (fun w' => Blk w' qa 24 [.bool bz, .slice Az mz.length cz]) [(0, true), (1, false), (2, false), (3, true)] (by kernel_rfl) (by kernel_rfl) (fun _ _ d _ _ h => by cases d <;> exact h) (hS _ (Upd.refl _ _).drew) ?_
            refine st_take (a' := ?_) rfl rfl (y_load2 rfl rfl Try.isAgg24 Try.sizeOf24 (fun _ h => h)) ?_ ?_
            rotate_left; (simp only [Act.put, List.setIfInBounds_toArray, List.set_cons_zero, List.set_cons_succ]; rfl)
            refine st_act rfl rfl fun K hK => a_call (args := #[.int .i64 0]) rfl rfl (fun w => by kernel_rfl) (of_any 0 _ zero_lo zero_hi) ?_
            rintro e w103 ⟨f103, A103, n103, c103, rfl, hc103, hm103⟩
            have hq17_1 := (show New _ _ from (Upd.refl _ _).drew).transNew hm103
            refine ⟨_, rfl, hK _ _ (hS _ hq17_1) ?_⟩
            simp only [Act.put, List.setIfInBounds_toArray, List.set_cons_zero, List.set_cons_succ]
            refine st_act rfl rfl fun K hK => a_call (args := #[.agg #[.bool bz, .slice Az mz.length cz], .agg #[.bool f103, .slice A103 n103 c103]]) rfl rfl (fun w => by kernel_rfl) (cmpz_any _ _ b 0 _ (h2113.new_ hq17_1) (hc103.big zero_abs)) ?_
            rintro e w104 ⟨rfl, hm104⟩
            rw [hcm]
            have hq17_2 := (show New _ _ from hq17_1).transNew hm104
            refine ⟨_, rfl, hK _ _ (hS _ hq17_2) ?_⟩
            simp only [Act.put, List.setIfInBounds_toArray, List.set_cons_zero, List.set_cons_succ]
            refine st_take (a' := ?_) rfl rfl (y_run (v := .bool true) fun w => by kernel_rfl) ?_ ?_
            rotate_left; (simp only [Act.put, List.setIfInBounds_toArray, List.set_cons_zero, List.set_cons_succ]; rfl)
            refine st_nil ?_
            have hd2115 := (show New _ _ from hq17_2)
            clear hS hq17_1 hq17_2
            have h2116 := h2108.new_ hd2115
            have h2117 := h2109.new_ hd2115
            have h2118 := h2110.new_ hd2115
            have h2119 := h2111.new_ hd2115
            have h2120 := h2112.new_ hd2115
            have h2121 := h2113.new_ hd2115
            have h2122 := h2114.transNew hd2115
            have h2123 := h2106.new_ hd2115
            have h2124 := h2107.new_ hd2115
            clear h2108 h2109 h2110 h2111 h2112 h2113 h2114 h2106 h2107 hd2115
            clear hm103 hm104 hc103 hcm
            go_upto_region 25 with (fail)
            have k2130 : w104.cell? ⟨qa, 0, none⟩ = some (.bool bz) := h2120.cell 0
            have k2131 : w104.cell? ⟨qa, 1, none⟩ = some (.slice Az mz.length cz) := h2120.cell 1
            go_wp2_with fail
            clear k2130 k2131
            refine (negz_any _ (b) _ h2121).mono ?_
            rintro e w2132 ⟨f2125, A2126, n2127, c2128, rfl, hc2129, hn⟩
            have h2133 := h2116.new_ hn
            have h2134 := h2117.new_ hn
            have h2135 := h2118.new_ hn
            have h2136 := h2119.new_ hn
            have h2137 := h2120.new_ hn
            have h2138 := h2121.new_ hn
            have h2139 := h2122.transNew hn
            have h2140 := h2123.new_ hn
            have h2141 := h2124.new_ hn
            clear h2116 h2117 h2118 h2119 h2120 h2121 h2122 h2123 h2124 hn
            have k2142 : w2132.cell? ⟨qa, 0, none⟩ = some (.bool bz) := h2137.cell 0
            have k2143 : w2132.cell? ⟨qa, 1, none⟩ = some (.slice Az mz.length cz) := h2137.cell 1
            have k2144 := h2137.frozen 0
            have k2145 := h2137.frozen 1
            go_upto_region 26 with (fail)
            clear k2142 k2143 k2144 k2145
            obtain ⟨w2146, hw, hN', h2147, h2148, hfar, hall⟩ := store_box hc2129 (by rw [Int.natAbs_neg]; exact h2138.lt) h2137 h2139 (by clear hc2129; omega)
            have hne : qx ≠ qa := by omega
            have h2149 := hfar _ _ _ hne h2133
            clear hne
            have hne : q1571 ≠ qa := by omega
            have h2150 := hfar _ _ _ hne h2134
            clear hne
            have h2151 := hall _ _ h2135
            have h2152 := hall _ _ h2136
            have hne : (qa + 1) ≠ qa := by omega
            have h2153 := hfar _ _ _ hne h2140
            clear hne
            have h2154 := hall _ _ h2141
            rw [← hw]
            clear hw hall hfar hc2129 h2133 h2134 h2135 h2136 h2137 h2138 h2139 h2140 h2141
            have h2155 := hN'
            clear hN'
            go_wp2_with fail
            refine (first_any _).mono ?_
            rintro e w2156 ⟨rfl, hn⟩
            have h2157 := h2149.new_ hn
            have h2158 := h2150.new_ hn
            have h2159 := h2151.new_ hn
            have h2160 := h2152.new_ hn
            have h2161 := h2153.new_ hn
            have h2162 := h2154.new_ hn
            have h2163 := h2155.transNew hn
            have h2164 := h2147.new_ hn
            have h2165 := h2148.new_ hn
            clear h2149 h2150 h2151 h2152 h2153 h2154 h2155 h2147 h2148 hn
            have k2166 : w2156.cell? ⟨q1571, 0, none⟩ = some (.bool f1535) := h2158.cell 0
            have k2167 : w2156.cell? ⟨q1571, 1, none⟩ = some (.slice A1536 n1537 c1538) := h2158.cell 1
            have k2168 : w2156.cell? ⟨qx, 0, none⟩ = some (.bool bx) := h2157.cell 0
            have k2169 : w2156.cell? ⟨qx, 1, none⟩ = some (.slice Ax mx.length cx) := h2157.cell 1
            go_wp2_with fail
            clear k2166 k2167 k2168 k2169
            refine (same_any _ _ (a) (a) _ h2160 h2159).mono ?_
            rintro e w2170 ⟨rfl, hn⟩
            have h2171 := h2157.new_ hn
            have h2172 := h2158.new_ hn
            have h2173 := h2159.new_ hn
            have h2174 := h2160.new_ hn
            have h2175 := h2161.new_ hn
            have h2176 := h2162.new_ hn
            have h2177 := h2163.transNew hn
            have h2178 := h2164.new_ hn
            have h2179 := h2165.new_ hn
            clear h2157 h2158 h2159 h2160 h2161 h2162 h2163 h2164 h2165 hn
            rw [decide_eq_true (rfl : a = a)]
            have k2180 : w2170.cell? ⟨(qa + 1), 0, none⟩ = some (.bool f2084) := h2175.cell 0
            have k2181 : w2170.cell? ⟨(qa + 1), 1, none⟩ = some (.slice A2085 n2086 c2087) := h2175.cell 1
            have k2182 : w2170.cell? ⟨qa, 0, none⟩ = some (.bool f2125) := h2178.cell 0
            have k2183 : w2170.cell? ⟨qa, 1, none⟩ = some (.slice A2126 n2127 c2128) := h2178.cell 1
            go_wp2_with fail
            clear k2180 k2181 k2182 k2183
            refine (cmpz_any _ _ (-(remZ a b)) (-b) _ h2176 h2179).mono ?_
            rintro e w2184 ⟨rfl, hn⟩
            have h2185 := h2171.new_ hn
            have h2186 := h2172.new_ hn
            have h2187 := h2173.new_ hn
            have h2188 := h2174.new_ hn
            have h2189 := h2175.new_ hn
            have h2190 := h2176.new_ hn
            have h2191 := h2177.transNew hn
            have h2192 := h2178.new_ hn
            have h2193 := h2179.new_ hn
            clear h2171 h2172 h2173 h2174 h2175 h2176 h2177 h2178 h2179 hn
            have hfin : cmpZ (-(remZ a b)) (-b) = -1 := by
              have h1 := remZ_lt (a := a) Hb0.out
              have h2 := hfr.out
              have h3 := HBN.out
              have h4 : remZ a b < 0 := by simpa using h2
              unfold cmpZ
              rw [if_pos (by omega)]
            rw [hfin]
            clear hfin
            go_wp2
            go_ret
            exact ⟨rfl, h2191⟩
          · skip
            have hcm : cmpZ b 0 = 1 := by have := Hb0.out; unfold cmpZ; repeat' split <;> omega
            have HBN := hide hbn
            clear hbn
            have hS : ∀ w', New w2105 w' → (Blk w' qa 24 [.bool bz, .slice Az mz.length cz]) := fun w' hn => h2112.new_ hn
            refine wp_region_dm (fun w' => Blk w' qa 24 [.bool bz, .slice Az mz.length cz]) [(0, true), (1, false), (2, false), (3, true)] (by kernel_rfl) (by kernel_rfl) (fun _ _ d _ _ h => by cases d <;> exact h) (hS _ (Upd.refl _ _).drew) ?_
            refine st_take (a' := ?_) rfl rfl (y_load2 rfl rfl Try.isAgg24 Try.sizeOf24 (fun _ h => h)) ?_ ?_
            rotate_left; (simp only [Act.put, List.setIfInBounds_toArray, List.set_cons_zero, List.set_cons_succ]; rfl)
            refine st_act rfl rfl fun K hK => a_call (args := #[.int .i64 0]) rfl rfl (fun w => by kernel_rfl) (of_any 0 _ zero_lo zero_hi) ?_
            rintro e w103 ⟨f103, A103, n103, c103, rfl, hc103, hm103⟩
            have hq18_1 := (show New _ _ from (Upd.refl _ _).drew).transNew hm103
            refine ⟨_, rfl, hK _ _ (hS _ hq18_1) ?_⟩
            simp only [Act.put, List.setIfInBounds_toArray, List.set_cons_zero, List.set_cons_succ]
            refine st_act rfl rfl fun K hK => a_call (args := #[.agg #[.bool bz, .slice Az mz.length cz], .agg #[.bool f103, .slice A103 n103 c103]]) rfl rfl (fun w => by kernel_rfl) (cmpz_any _ _ b 0 _ (h2113.new_ hq18_1) (hc103.big zero_abs)) ?_
            rintro e w104 ⟨rfl, hm104⟩
            rw [hcm]
            have hq18_2 := (show New _ _ from hq18_1).transNew hm104
            refine ⟨_, rfl, hK _ _ (hS _ hq18_2) ?_⟩
            simp only [Act.put, List.setIfInBounds_toArray, List.set_cons_zero, List.set_cons_succ]
            refine st_take (a' := ?_) rfl rfl (y_run (v := .bool false) fun w => by kernel_rfl) ?_ ?_
            rotate_left; (simp only [Act.put, List.setIfInBounds_toArray, List.set_cons_zero, List.set_cons_succ]; rfl)
            refine st_nil ?_
            have hd2194 := (show New _ _ from hq18_2)
            clear hS hq18_1 hq18_2
            have h2195 := h2108.new_ hd2194
            have h2196 := h2109.new_ hd2194
            have h2197 := h2110.new_ hd2194
            have h2198 := h2111.new_ hd2194
            have h2199 := h2112.new_ hd2194
            have h2200 := h2113.new_ hd2194
            have h2201 := h2114.transNew hd2194
            have h2202 := h2106.new_ hd2194
            have h2203 := h2107.new_ hd2194
            clear h2108 h2109 h2110 h2111 h2112 h2113 h2114 h2106 h2107 hd2194
            clear hm103 hm104 hc103 hcm
            go_upto_region 26 with (fail)
            go_wp2_with fail
            refine (first_any _).mono ?_
            rintro e w2204 ⟨rfl, hn⟩
            have h2205 := h2195.new_ hn
            have h2206 := h2196.new_ hn
            have h2207 := h2197.new_ hn
            have h2208 := h2198.new_ hn
            have h2209 := h2199.new_ hn
            have h2210 := h2200.new_ hn
            have h2211 := h2201.transNew hn
            have h2212 := h2202.new_ hn
            have h2213 := h2203.new_ hn
            clear h2195 h2196 h2197 h2198 h2199 h2200 h2201 h2202 h2203 hn
            have k2214 : w2204.cell? ⟨q1571, 0, none⟩ = some (.bool f1535) := h2206.cell 0
            have k2215 : w2204.cell? ⟨q1571, 1, none⟩ = some (.slice A1536 n1537 c1538) := h2206.cell 1
            have k2216 : w2204.cell? ⟨qx, 0, none⟩ = some (.bool bx) := h2205.cell 0
            have k2217 : w2204.cell? ⟨qx, 1, none⟩ = some (.slice Ax mx.length cx) := h2205.cell 1
            go_wp2_with fail
            clear k2214 k2215 k2216 k2217
            refine (same_any _ _ (a) (a) _ h2208 h2207).mono ?_
            rintro e w2218 ⟨rfl, hn⟩
            have h2219 := h2205.new_ hn
            have h2220 := h2206.new_ hn
            have h2221 := h2207.new_ hn
            have h2222 := h2208.new_ hn
            have h2223 := h2209.new_ hn
            have h2224 := h2210.new_ hn
            have h2225 := h2211.transNew hn
            have h2226 := h2212.new_ hn
            have h2227 := h2213.new_ hn
            clear h2205 h2206 h2207 h2208 h2209 h2210 h2211 h2212 h2213 hn
            rw [decide_eq_true (rfl : a = a)]
            have k2228 : w2218.cell? ⟨(qa + 1), 0, none⟩ = some (.bool f2084) := h2226.cell 0
            have k2229 : w2218.cell? ⟨(qa + 1), 1, none⟩ = some (.slice A2085 n2086 c2087) := h2226.cell 1
            have k2230 : w2218.cell? ⟨qa, 0, none⟩ = some (.bool bz) := h2223.cell 0
            have k2231 : w2218.cell? ⟨qa, 1, none⟩ = some (.slice Az mz.length cz) := h2223.cell 1
            go_wp2_with fail
            clear k2228 k2229 k2230 k2231
            refine (cmpz_any _ _ (-(remZ a b)) (b) _ h2227 h2224).mono ?_
            rintro e w2232 ⟨rfl, hn⟩
            have h2233 := h2219.new_ hn
            have h2234 := h2220.new_ hn
            have h2235 := h2221.new_ hn
            have h2236 := h2222.new_ hn
            have h2237 := h2223.new_ hn
            have h2238 := h2224.new_ hn
            have h2239 := h2225.transNew hn
            have h2240 := h2226.new_ hn
            have h2241 := h2227.new_ hn
            clear h2219 h2220 h2221 h2222 h2223 h2224 h2225 h2226 h2227 hn
            have hfin : cmpZ (-(remZ a b)) (b) = -1 := by
              have h1 := remZ_lt (a := a) Hb0.out
              have h2 := hfr.out
              have h3 := HBN.out
              have h4 : remZ a b < 0 := by simpa using h2
              unfold cmpZ
              rw [if_pos (by omega)]
            rw [hfin]
            clear hfin
            go_wp2
            go_ret
            exact ⟨rfl, h2239⟩
end Go.Proofs.Ytfhflpchfgkgcaa
