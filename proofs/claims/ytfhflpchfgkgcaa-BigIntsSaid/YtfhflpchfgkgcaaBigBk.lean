/- The law BigBack: the walk. -/
import Derived.Test.YtfhflpchfgkgcaaBigBp
namespace Go.Proofs.Ytfhflpchfgkgcaa
open Go.RowKit
set_option maxHeartbeats 12800000 in
set_option maxRecDepth 100000 in
theorem back_walk (x : Value) (u : Nat) (n : Int) (s : Bool) (a : Int) (w : World) (hx : BigAt w x a) (hu : u < 18446744073709551616) : Calls Try.prog 6 #[x, .int .u64 (u : Int), .int .i64 n, .bool s] w (IsBool true w) := by
  obtain ⟨bx, vx, mx, rfl, rx, lx, gx⟩ := hx
  obtain ⟨Ax, cx, rfl⟩ := rx.form
  obtain ⟨w1, hw1, hN, hbx, -⟩ := one_box w 24 (.bool bx) (.slice Ax mx.length cx)
  have hzx : BigAt w1 (.agg #[.bool bx, .slice Ax mx.length cx]) a := ⟨_, _, _, rfl, rx.new_ hN, lx, gx⟩
  have hrx := rx.new_ hN
  clear rx lx gx
  have Hw1 := hide hw1
  clear hw1
  go_enter Try.func6, Try.ntmps6
  go_wp2_with fail
  rw [← Hw1.out]
  obtain ⟨qx, hqx⟩ : ∃ q, q = w.heap.size := ⟨_, rfl⟩
  rw [← hqx] at hbx ⊢
  clear hqx
  refine (first_any _).mono ?_
  rintro e w1 ⟨rfl, hn⟩
  have h2 := hzx.new_ hn
  have h3 := hrx.new_ hn
  have h4 := hbx.new_ hn
  have h5 := hN.transNew hn
  clear hzx hrx hbx hN hn
  have k6 : w1.cell? ⟨qx, 0, none⟩ = some (.bool bx) := h4.cell 0
  have k7 : w1.cell? ⟨qx, 1, none⟩ = some (.slice Ax mx.length cx) := h4.cell 1
  go_wp2_with fail
  clear k6 k7
  refine (few_any _ _ mx _ h3).mono ?_
  rintro e w8 ⟨rfl, hn⟩
  have h9 := h2.new_ hn
  have h10 := h3.new_ hn
  have h11 := h4.new_ hn
  have h12 := h5.transNew hn
  clear h2 h3 h4 h5 hn
  obtain ⟨d, hd⟩ : ∃ d, d = decide (mx.length ≤ 40) := ⟨_, rfl⟩
  rw [← hd]
  clear hd
  cases d
  · skip
    go_wp2_with fail
    refine (first_any _).mono ?_
    rintro e w13 ⟨rfl, hn⟩
    have h14 := h9.new_ hn
    have h15 := h10.new_ hn
    have h16 := h11.new_ hn
    have h17 := h12.transNew hn
    clear h9 h10 h11 h12 hn
    go_wp2
    go_ret
    exact ⟨rfl, h17⟩
  have hlt := h9.lt
  have hP := parse_text hlt
  have hS := text_size hlt
  clear hlt
  obtain ⟨t, ht⟩ : ∃ t, t = strOfNums (textI a) := ⟨_, rfl⟩
  rw [← ht] at hP hS
  have HT := hide (And.intro ht (And.intro hP hS))
  clear ht hP hS
  have k18 : w8.cell? ⟨qx, 0, none⟩ = some (.bool bx) := h11.cell 0
  have k19 : w8.cell? ⟨qx, 1, none⟩ = some (.slice Ax mx.length cx) := h11.cell 1
  go_wp2_with fail
  clear k18 k19
  refine (text_any _ a _ h9).mono ?_
  rintro e w20 ⟨rfl, hn⟩
  have h21 := h9.new_ hn
  have h22 := h10.new_ hn
  have h23 := h11.new_ hn
  have h24 := h12.transNew hn
  clear h9 h10 h11 h12 hn
  rw [← HT.out.1]
  go_wp2_with fail
  have hcon := parse_any t w20 HT.out.2.2
  rw [HT.out.2.1] at hcon
  refine (hcon).mono ?_
  rintro e w30 ⟨f25, A26, n27, c28, rfl, hc29, hn⟩
  have h31 := h21.new_ hn
  have h32 := h22.new_ hn
  have h33 := h23.new_ hn
  have h34 := h24.transNew hn
  clear h21 h22 h23 h24 hn
  clear hcon
  simp only at hc29 ⊢
  have hzb := hc29.big h31.lt
  clear hc29
  go_upto_region 6 with (fail)
  obtain ⟨w35, hw⟩ : ∃ w', w' = w30.alloc (.cells #[.bool f25, .slice A26 n27 c28] 24) := ⟨_, rfl⟩
  have hn : New w30 w35 := by rw [hw]; exact (Upd.refl _ _).alloc _
  have hb36 : Blk w35 w30.heap.size 24 [.bool f25, .slice A26 n27 c28] := by rw [hw]; exact Blk.new w30 _ _
  rw [← hw]
  clear hw
  obtain ⟨q37, hq⟩ : ∃ q, q = w30.heap.size := ⟨_, rfl⟩
  rw [← hq] at hb36 ⊢
  clear hq
  have h38 := h31.new_ hn
  have h39 := h32.new_ hn
  have h40 := h33.new_ hn
  have h41 := h34.transNew hn
  have h42 := hzb.new_ hn
  clear h31 h32 h33 h34 hzb hn
  have k43 : w35.cell? ⟨qx, 0, none⟩ = some (.bool bx) := h40.cell 0
  have k44 : w35.cell? ⟨qx, 1, none⟩ = some (.slice Ax mx.length cx) := h40.cell 1
  have k45 : w35.cell? ⟨q37, 0, none⟩ = some (.bool f25) := hb36.cell 0
  have k46 : w35.cell? ⟨q37, 1, none⟩ = some (.slice A26 n27 c28) := hb36.cell 1
  go_wp2_with fail
  clear k43 k44 k45 k46
  refine (same_any _ _ a a _ h38 h42).mono ?_
  rintro e w47 ⟨rfl, hn⟩
  have h48 := h38.new_ hn
  have h49 := h39.new_ hn
  have h50 := h40.new_ hn
  have h51 := h41.transNew hn
  have h52 := h42.new_ hn
  have h53 := hb36.new_ hn
  clear h38 h39 h40 h41 h42 hb36 hn
  rw [decide_eq_true (rfl : a = a)]
  go_wp2_with fail
  refine (fromWord_any u s _ hu).mono ?_
  rintro e w59 ⟨f54, A55, n56, c57, rfl, hc58, hn⟩
  have h60 := h48.new_ hn
  have h61 := h49.new_ hn
  have h62 := h50.new_ hn
  have h63 := h51.transNew hn
  have h64 := h52.new_ hn
  have h65 := h53.new_ hn
  clear h48 h49 h50 h51 h52 h53 hn
  have hzw := hc58.big (wordI_abs hu)
  clear hc58
  go_wp2_with fail
  refine (word_any _ (wordI u s) _ hzw).mono ?_
  rintro e w66 ⟨rfl, hn⟩
  have h67 := h60.new_ hn
  have h68 := h61.new_ hn
  have h69 := h62.new_ hn
  have h70 := h63.transNew hn
  have h71 := h64.new_ hn
  have h72 := h65.new_ hn
  clear h60 h61 h62 h63 h64 h65 hn
  rw [word_back hu]
  clear hzw
  by_cases ht : n < 0
  · skip
    have hE : rangeE n = 1 := by rw [rangeE, if_pos (by omega)]
    have k78 : w66.cell? ⟨qx, 0, none⟩ = some (.bool bx) := h69.cell 0
    have k79 : w66.cell? ⟨qx, 1, none⟩ = some (.slice Ax mx.length cx) := h69.cell 1
    go_wp2_with fail
    clear k78 k79
    refine (asUint_any n _ (a) _ h67).mono ?_
    rintro e w80 ⟨f73, A74, n75, c76, rfl, hc77, hn⟩
    have h81 := h67.new_ hn
    have h82 := h68.new_ hn
    have h83 := h69.new_ hn
    have h84 := h70.transNew hn
    have h85 := h71.new_ hn
    have h86 := h72.new_ hn
    clear h67 h68 h69 h70 h71 h72 hn
    rw [hE]
    have hz87 := hc77.big (asU_abs _ _)
    clear hc77
    go_upto_region 9 with (fail)
    obtain ⟨w88, hw⟩ : ∃ w', w' = w80.alloc (.cells #[.bool f73, .slice A74 n75 c76] 24) := ⟨_, rfl⟩
    have hn : New w80 w88 := by rw [hw]; exact (Upd.refl _ _).alloc _
    have hb89 : Blk w88 w80.heap.size 24 [.bool f73, .slice A74 n75 c76] := by rw [hw]; exact Blk.new w80 _ _
    rw [← hw]
    clear hw
    obtain ⟨q90, hq⟩ : ∃ q, q = w80.heap.size := ⟨_, rfl⟩
    rw [← hq] at hb89 ⊢
    clear hq
    have h91 := h81.new_ hn
    have h92 := h82.new_ hn
    have h93 := h83.new_ hn
    have h94 := h84.transNew hn
    have h95 := h85.new_ hn
    have h96 := h86.new_ hn
    have h97 := hz87.new_ hn
    clear h81 h82 h83 h84 h85 h86 hz87 hn
    have k103 : w88.cell? ⟨qx, 0, none⟩ = some (.bool bx) := h93.cell 0
    have k104 : w88.cell? ⟨qx, 1, none⟩ = some (.slice Ax mx.length cx) := h93.cell 1
    go_wp2_with fail
    clear k103 k104
    refine (asInt_any n _ (a) _ h91).mono ?_
    rintro e w105 ⟨f98, A99, n100, c101, rfl, hc102, hn⟩
    have h106 := h91.new_ hn
    have h107 := h92.new_ hn
    have h108 := h93.new_ hn
    have h109 := h94.transNew hn
    have h110 := h95.new_ hn
    have h111 := h96.new_ hn
    have h112 := h97.new_ hn
    have h113 := hb89.new_ hn
    clear h91 h92 h93 h94 h95 h96 h97 hb89 hn
    rw [hE]
    have hz114 := hc102.big (asI_abs _ _)
    clear hc102
    go_upto_region 10 with (fail)
    obtain ⟨w115, hw⟩ : ∃ w', w' = w105.alloc (.cells #[.bool f98, .slice A99 n100 c101] 24) := ⟨_, rfl⟩
    have hn : New w105 w115 := by rw [hw]; exact (Upd.refl _ _).alloc _
    have hb116 : Blk w115 w105.heap.size 24 [.bool f98, .slice A99 n100 c101] := by rw [hw]; exact Blk.new w105 _ _
    rw [← hw]
    clear hw
    obtain ⟨q117, hq⟩ : ∃ q, q = w105.heap.size := ⟨_, rfl⟩
    rw [← hq] at hb116 ⊢
    clear hq
    have h118 := h106.new_ hn
    have h119 := h107.new_ hn
    have h120 := h108.new_ hn
    have h121 := h109.transNew hn
    have h122 := h110.new_ hn
    have h123 := h111.new_ hn
    have h124 := h112.new_ hn
    have h125 := h113.new_ hn
    have h126 := hz114.new_ hn
    clear h106 h107 h108 h109 h110 h111 h112 h113 hz114 hn
    go_wp2_with fail
    refine (first_any _).mono ?_
    rintro e w127 ⟨rfl, hn⟩
    have h128 := h118.new_ hn
    have h129 := h119.new_ hn
    have h130 := h120.new_ hn
    have h131 := h121.transNew hn
    have h132 := h122.new_ hn
    have h133 := h123.new_ hn
    have h134 := h124.new_ hn
    have h135 := h125.new_ hn
    have h136 := h126.new_ hn
    have h137 := hb116.new_ hn
    clear h118 h119 h120 h121 h122 h123 h124 h125 h126 hb116 hn
    go_wp2
    go_ret
    exact ⟨rfl, h131⟩
  · skip
    have ht0 := ht
    by_cases ht : 256 < n
    · skip
      have hE : rangeE n = 1 := by rw [rangeE, if_pos (by omega)]
      have k143 : w66.cell? ⟨qx, 0, none⟩ = some (.bool bx) := h69.cell 0
      have k144 : w66.cell? ⟨qx, 1, none⟩ = some (.slice Ax mx.length cx) := h69.cell 1
      go_wp2_with fail
      clear k143 k144
      refine (asUint_any n _ (a) _ h67).mono ?_
      rintro e w145 ⟨f138, A139, n140, c141, rfl, hc142, hn⟩
      have h146 := h67.new_ hn
      have h147 := h68.new_ hn
      have h148 := h69.new_ hn
      have h149 := h70.transNew hn
      have h150 := h71.new_ hn
      have h151 := h72.new_ hn
      clear h67 h68 h69 h70 h71 h72 hn
      rw [hE]
      have hz152 := hc142.big (asU_abs _ _)
      clear hc142
      go_upto_region 9 with (fail)
      obtain ⟨w153, hw⟩ : ∃ w', w' = w145.alloc (.cells #[.bool f138, .slice A139 n140 c141] 24) := ⟨_, rfl⟩
      have hn : New w145 w153 := by rw [hw]; exact (Upd.refl _ _).alloc _
      have hb154 : Blk w153 w145.heap.size 24 [.bool f138, .slice A139 n140 c141] := by rw [hw]; exact Blk.new w145 _ _
      rw [← hw]
      clear hw
      obtain ⟨q155, hq⟩ : ∃ q, q = w145.heap.size := ⟨_, rfl⟩
      rw [← hq] at hb154 ⊢
      clear hq
      have h156 := h146.new_ hn
      have h157 := h147.new_ hn
      have h158 := h148.new_ hn
      have h159 := h149.transNew hn
      have h160 := h150.new_ hn
      have h161 := h151.new_ hn
      have h162 := hz152.new_ hn
      clear h146 h147 h148 h149 h150 h151 hz152 hn
      have k168 : w153.cell? ⟨qx, 0, none⟩ = some (.bool bx) := h158.cell 0
      have k169 : w153.cell? ⟨qx, 1, none⟩ = some (.slice Ax mx.length cx) := h158.cell 1
      go_wp2_with fail
      clear k168 k169
      refine (asInt_any n _ (a) _ h156).mono ?_
      rintro e w170 ⟨f163, A164, n165, c166, rfl, hc167, hn⟩
      have h171 := h156.new_ hn
      have h172 := h157.new_ hn
      have h173 := h158.new_ hn
      have h174 := h159.transNew hn
      have h175 := h160.new_ hn
      have h176 := h161.new_ hn
      have h177 := h162.new_ hn
      have h178 := hb154.new_ hn
      clear h156 h157 h158 h159 h160 h161 h162 hb154 hn
      rw [hE]
      have hz179 := hc167.big (asI_abs _ _)
      clear hc167
      go_upto_region 10 with (fail)
      obtain ⟨w180, hw⟩ : ∃ w', w' = w170.alloc (.cells #[.bool f163, .slice A164 n165 c166] 24) := ⟨_, rfl⟩
      have hn : New w170 w180 := by rw [hw]; exact (Upd.refl _ _).alloc _
      have hb181 : Blk w180 w170.heap.size 24 [.bool f163, .slice A164 n165 c166] := by rw [hw]; exact Blk.new w170 _ _
      rw [← hw]
      clear hw
      obtain ⟨q182, hq⟩ : ∃ q, q = w170.heap.size := ⟨_, rfl⟩
      rw [← hq] at hb181 ⊢
      clear hq
      have h183 := h171.new_ hn
      have h184 := h172.new_ hn
      have h185 := h173.new_ hn
      have h186 := h174.transNew hn
      have h187 := h175.new_ hn
      have h188 := h176.new_ hn
      have h189 := h177.new_ hn
      have h190 := h178.new_ hn
      have h191 := hz179.new_ hn
      clear h171 h172 h173 h174 h175 h176 h177 h178 hz179 hn
      go_wp2_with fail
      refine (first_any _).mono ?_
      rintro e w192 ⟨rfl, hn⟩
      have h193 := h183.new_ hn
      have h194 := h184.new_ hn
      have h195 := h185.new_ hn
      have h196 := h186.transNew hn
      have h197 := h187.new_ hn
      have h198 := h188.new_ hn
      have h199 := h189.new_ hn
      have h200 := h190.new_ hn
      have h201 := h191.new_ hn
      have h202 := hb181.new_ hn
      clear h183 h184 h185 h186 h187 h188 h189 h190 h191 hb181 hn
      go_wp2
      go_ret
      exact ⟨rfl, h196⟩
    · skip
      skip
      have hE : rangeE n = 0 := by rw [rangeE, if_neg (by omega)]
      have Hn := hide (And.intro ht0 ht)
      clear ht0 ht
      have k208 : w66.cell? ⟨qx, 0, none⟩ = some (.bool bx) := h69.cell 0
      have k209 : w66.cell? ⟨qx, 1, none⟩ = some (.slice Ax mx.length cx) := h69.cell 1
      go_wp2_with fail
      clear k208 k209
      refine (asUint_any n _ (a) _ h67).mono ?_
      rintro e w210 ⟨f203, A204, n205, c206, rfl, hc207, hn⟩
      have h211 := h67.new_ hn
      have h212 := h68.new_ hn
      have h213 := h69.new_ hn
      have h214 := h70.transNew hn
      have h215 := h71.new_ hn
      have h216 := h72.new_ hn
      clear h67 h68 h69 h70 h71 h72 hn
      rw [hE]
      have hz217 := hc207.big (asU_abs _ _)
      clear hc207
      go_upto_region 9 with (fail)
      obtain ⟨w218, hw⟩ : ∃ w', w' = w210.alloc (.cells #[.bool f203, .slice A204 n205 c206] 24) := ⟨_, rfl⟩
      have hn : New w210 w218 := by rw [hw]; exact (Upd.refl _ _).alloc _
      have hb219 : Blk w218 w210.heap.size 24 [.bool f203, .slice A204 n205 c206] := by rw [hw]; exact Blk.new w210 _ _
      rw [← hw]
      clear hw
      obtain ⟨q220, hq⟩ : ∃ q, q = w210.heap.size := ⟨_, rfl⟩
      rw [← hq] at hb219 ⊢
      clear hq
      have h221 := h211.new_ hn
      have h222 := h212.new_ hn
      have h223 := h213.new_ hn
      have h224 := h214.transNew hn
      have h225 := h215.new_ hn
      have h226 := h216.new_ hn
      have h227 := hz217.new_ hn
      clear h211 h212 h213 h214 h215 h216 hz217 hn
      have k233 : w218.cell? ⟨qx, 0, none⟩ = some (.bool bx) := h223.cell 0
      have k234 : w218.cell? ⟨qx, 1, none⟩ = some (.slice Ax mx.length cx) := h223.cell 1
      go_wp2_with fail
      clear k233 k234
      refine (asInt_any n _ (a) _ h221).mono ?_
      rintro e w235 ⟨f228, A229, n230, c231, rfl, hc232, hn⟩
      have h236 := h221.new_ hn
      have h237 := h222.new_ hn
      have h238 := h223.new_ hn
      have h239 := h224.transNew hn
      have h240 := h225.new_ hn
      have h241 := h226.new_ hn
      have h242 := h227.new_ hn
      have h243 := hb219.new_ hn
      clear h221 h222 h223 h224 h225 h226 h227 hb219 hn
      rw [hE]
      have hz244 := hc232.big (asI_abs _ _)
      clear hc232
      go_upto_region 10 with (fail)
      obtain ⟨w245, hw⟩ : ∃ w', w' = w235.alloc (.cells #[.bool f228, .slice A229 n230 c231] 24) := ⟨_, rfl⟩
      have hn : New w235 w245 := by rw [hw]; exact (Upd.refl _ _).alloc _
      have hb246 : Blk w245 w235.heap.size 24 [.bool f228, .slice A229 n230 c231] := by rw [hw]; exact Blk.new w235 _ _
      rw [← hw]
      clear hw
      obtain ⟨q247, hq⟩ : ∃ q, q = w235.heap.size := ⟨_, rfl⟩
      rw [← hq] at hb246 ⊢
      clear hq
      have h248 := h236.new_ hn
      have h249 := h237.new_ hn
      have h250 := h238.new_ hn
      have h251 := h239.transNew hn
      have h252 := h240.new_ hn
      have h253 := h241.new_ hn
      have h254 := h242.new_ hn
      have h255 := h243.new_ hn
      have h256 := hz244.new_ hn
      clear h236 h237 h238 h239 h240 h241 h242 h243 hz244 hn
      have k262 : w245.cell? ⟨q247, 0, none⟩ = some (.bool f228) := hb246.cell 0
      have k263 : w245.cell? ⟨q247, 1, none⟩ = some (.slice A229 n230 c231) := hb246.cell 1
      go_wp2_with fail
      clear k262 k263
      refine (asUint_any n _ (asI n a) _ h256).mono ?_
      rintro e w264 ⟨f257, A258, n259, c260, rfl, hc261, hn⟩
      have h265 := h248.new_ hn
      have h266 := h249.new_ hn
      have h267 := h250.new_ hn
      have h268 := h251.transNew hn
      have h269 := h252.new_ hn
      have h270 := h253.new_ hn
      have h271 := h254.new_ hn
      have h272 := h255.new_ hn
      have h273 := h256.new_ hn
      have h274 := hb246.new_ hn
      clear h248 h249 h250 h251 h252 h253 h254 h255 h256 hb246 hn
      rw [hE]
      have hz275 := hc261.big (asU_abs _ _)
      clear hc261
      go_upto_region 13 with (fail)
      obtain ⟨w276, hw⟩ : ∃ w', w' = w264.alloc (.cells #[.bool f257, .slice A258 n259 c260] 24) := ⟨_, rfl⟩
      have hn : New w264 w276 := by rw [hw]; exact (Upd.refl _ _).alloc _
      have hb277 : Blk w276 w264.heap.size 24 [.bool f257, .slice A258 n259 c260] := by rw [hw]; exact Blk.new w264 _ _
      rw [← hw]
      clear hw
      obtain ⟨q278, hq⟩ : ∃ q, q = w264.heap.size := ⟨_, rfl⟩
      rw [← hq] at hb277 ⊢
      clear hq
      have h279 := h265.new_ hn
      have h280 := h266.new_ hn
      have h281 := h267.new_ hn
      have h282 := h268.transNew hn
      have h283 := h269.new_ hn
      have h284 := h270.new_ hn
      have h285 := h271.new_ hn
      have h286 := h272.new_ hn
      have h287 := h273.new_ hn
      have h288 := h274.new_ hn
      have h289 := hz275.new_ hn
      clear h265 h266 h267 h268 h269 h270 h271 h272 h273 h274 hz275 hn
      have k295 : w276.cell? ⟨q220, 0, none⟩ = some (.bool f203) := h286.cell 0
      have k296 : w276.cell? ⟨q220, 1, none⟩ = some (.slice A204 n205 c206) := h286.cell 1
      go_wp2_with fail
      clear k295 k296
      refine (asInt_any n _ (asU n a) _ h285).mono ?_
      rintro e w297 ⟨f290, A291, n292, c293, rfl, hc294, hn⟩
      have h298 := h279.new_ hn
      have h299 := h280.new_ hn
      have h300 := h281.new_ hn
      have h301 := h282.transNew hn
      have h302 := h283.new_ hn
      have h303 := h284.new_ hn
      have h304 := h285.new_ hn
      have h305 := h286.new_ hn
      have h306 := h287.new_ hn
      have h307 := h288.new_ hn
      have h308 := h289.new_ hn
      have h309 := hb277.new_ hn
      clear h279 h280 h281 h282 h283 h284 h285 h286 h287 h288 h289 hb277 hn
      rw [hE]
      have hz310 := hc294.big (asI_abs _ _)
      clear hc294
      go_upto_region 14 with (fail)
      obtain ⟨w311, hw⟩ : ∃ w', w' = w297.alloc (.cells #[.bool f290, .slice A291 n292 c293] 24) := ⟨_, rfl⟩
      have hn : New w297 w311 := by rw [hw]; exact (Upd.refl _ _).alloc _
      have hb312 : Blk w311 w297.heap.size 24 [.bool f290, .slice A291 n292 c293] := by rw [hw]; exact Blk.new w297 _ _
      rw [← hw]
      clear hw
      obtain ⟨q313, hq⟩ : ∃ q, q = w297.heap.size := ⟨_, rfl⟩
      rw [← hq] at hb312 ⊢
      clear hq
      have h314 := h298.new_ hn
      have h315 := h299.new_ hn
      have h316 := h300.new_ hn
      have h317 := h301.transNew hn
      have h318 := h302.new_ hn
      have h319 := h303.new_ hn
      have h320 := h304.new_ hn
      have h321 := h305.new_ hn
      have h322 := h306.new_ hn
      have h323 := h307.new_ hn
      have h324 := h308.new_ hn
      have h325 := h309.new_ hn
      have h326 := hz310.new_ hn
      clear h298 h299 h300 h301 h302 h303 h304 h305 h306 h307 h308 h309 hz310 hn
      have h1 : asU n (asI n a) = asU n a ∧ asI n (asU n a) = asI n a := by
        have h0 := Hn.out
        obtain ⟨k, rfl⟩ := Int.eq_ofNat_of_zero_le (show 0 ≤ n by omega)
        exact ⟨asU_I (Nat.le_refl _) (by omega) a, asI_of (by omega) (asU_U (Nat.le_refl _) (by omega) a)⟩
      have h2 := cmpZ_asU n a
      have HG := hide (And.intro h1.1.symm (And.intro h1.2.symm h2))
      clear h1 h2
      go_wp2_with fail
      have hS : ∀ w', New w311 w' → (Blk w' q220 24 [.bool f203, .slice A204 n205 c206] ∧ Blk w' q247 24 [.bool f228, .slice A229 n230 c231] ∧ Blk w' q278 24 [.bool f257, .slice A258 n259 c260] ∧ Blk w' q313 24 [.bool f290, .slice A291 n292 c293]) := fun w' hn => ⟨h321.new_ hn, h323.new_ hn, h325.new_ hn, hb312.new_ hn⟩
      refine wp_region_dm (fun w' => Blk w' q220 24 [.bool f203, .slice A204 n205 c206] ∧ Blk w' q247 24 [.bool f228, .slice A229 n230 c231] ∧ Blk w' q278 24 [.bool f257, .slice A258 n259 c260] ∧ Blk w' q313 24 [.bool f290, .slice A291 n292 c293]) [(0, false), (1, true), (2, true), (3, true), (4, true), (5, true), (6, true), (7, true), (8, true), (9, true), (10, true), (11, true), (12, false), (13, true), (14, true), (15, true), (16, true), (17, false), (18, true), (19, true), (20, true), (21, false), (22, false), (23, true), (24, true), (25, true)] (by kernel_rfl) (by kernel_rfl) (fun _ _ d _ _ h => by cases d <;> exact h) (hS _ (Upd.refl _ _).drew) ?_
      refine st_act rfl rfl fun K hK => a_call (args := #[]) rfl rfl (fun w => by kernel_rfl) (first_any _) ?_
      rintro e w100 ⟨rfl, hm100⟩
      have hq1_1 := (show New _ _ from (Upd.refl _ _).drew).transNew hm100
      refine ⟨_, rfl, hK _ _ (hS _ hq1_1) ?_⟩
      simp only [Act.put, List.setIfInBounds_toArray, List.set_cons_zero, List.set_cons_succ]
      refine st_take (a' := ?_) rfl rfl (y_move (v := .bool true) rfl rfl) ?_ ?_
      rotate_left; (simp only [Act.put, List.setIfInBounds_toArray, List.set_cons_zero, List.set_cons_succ]; rfl)
      refine st_take (a' := ?_) rfl rfl (y_move (v := .int .i64 0) rfl rfl) ?_ ?_
      rotate_left; (simp only [Act.put, List.setIfInBounds_toArray, List.set_cons_zero, List.set_cons_succ]; rfl)
      refine st_take (a' := ?_) rfl rfl (y_run (v := .bool true) fun w => by kernel_rfl) ?_ ?_
      rotate_left; (simp only [Act.put, List.setIfInBounds_toArray, List.set_cons_zero, List.set_cons_succ]; rfl)
      refine st_take (a' := ?_) rfl rfl (y_pick (b := true) (v := .bool true) rfl rfl rfl) ?_ ?_
      rotate_left; (simp only [Act.put, List.setIfInBounds_toArray, List.set_cons_zero, List.set_cons_succ]; rfl)
      refine st_take (a' := ?_) rfl rfl (y_move (v := .bool true) rfl rfl) ?_ ?_
      rotate_left; (simp only [Act.put, List.setIfInBounds_toArray, List.set_cons_zero, List.set_cons_succ]; rfl)
      refine st_take (a' := ?_) rfl rfl (y_move (v := .int .i64 0) rfl rfl) ?_ ?_
      rotate_left; (simp only [Act.put, List.setIfInBounds_toArray, List.set_cons_zero, List.set_cons_succ]; rfl)
      refine st_take (a' := ?_) rfl rfl (y_run (v := .bool true) fun w => by kernel_rfl) ?_ ?_
      rotate_left; (simp only [Act.put, List.setIfInBounds_toArray, List.set_cons_zero, List.set_cons_succ]; rfl)
      refine st_take (a' := ?_) rfl rfl (y_pick (b := true) (v := .bool true) rfl rfl rfl) ?_ ?_
      rotate_left; (simp only [Act.put, List.setIfInBounds_toArray, List.set_cons_zero, List.set_cons_succ]; rfl)
      refine st_take (a' := ?_) rfl rfl (y_move (v := .bool true) rfl rfl) ?_ ?_
      rotate_left; (simp only [Act.put, List.setIfInBounds_toArray, List.set_cons_zero, List.set_cons_succ]; rfl)
      refine st_take (a' := ?_) rfl rfl (y_load2 rfl rfl Try.isAgg24 Try.sizeOf24 (fun _ h => h.1)) ?_ ?_
      rotate_left; (simp only [Act.put, List.setIfInBounds_toArray, List.set_cons_zero, List.set_cons_succ]; rfl)
      refine st_take (a' := ?_) rfl rfl (y_load2 rfl rfl Try.isAgg24 Try.sizeOf24 (fun _ h => h.2.2.1)) ?_ ?_
      rotate_left; (simp only [Act.put, List.setIfInBounds_toArray, List.set_cons_zero, List.set_cons_succ]; rfl)
      refine st_act rfl rfl fun K hK => a_call (args := #[.agg #[.bool f203, .slice A204 n205 c206], .agg #[.bool f257, .slice A258 n259 c260]]) rfl rfl (fun w => by kernel_rfl) (same_any _ _ (asU n a) (asU n (asI n a)) _ (h320.new_ hq1_1) (h324.new_ hq1_1)) ?_
      rintro e w101 ⟨rfl, hm101⟩
      rw [decide_eq_true (HG.out.1)]
      have hq1_2 := (show New _ _ from hq1_1).transNew hm101
      refine ⟨_, rfl, hK _ _ (hS _ hq1_2) ?_⟩
      simp only [Act.put, List.setIfInBounds_toArray, List.set_cons_zero, List.set_cons_succ]
      refine st_take (a' := ?_) rfl rfl (y_pick (b := true) (v := .bool true) rfl rfl rfl) ?_ ?_
      rotate_left; (simp only [Act.put, List.setIfInBounds_toArray, List.set_cons_zero, List.set_cons_succ]; rfl)
      refine st_take (a' := ?_) rfl rfl (y_move (v := .bool true) rfl rfl) ?_ ?_
      rotate_left; (simp only [Act.put, List.setIfInBounds_toArray, List.set_cons_zero, List.set_cons_succ]; rfl)
      refine st_take (a' := ?_) rfl rfl (y_load2 rfl rfl Try.isAgg24 Try.sizeOf24 (fun _ h => h.2.1)) ?_ ?_
      rotate_left; (simp only [Act.put, List.setIfInBounds_toArray, List.set_cons_zero, List.set_cons_succ]; rfl)
      refine st_take (a' := ?_) rfl rfl (y_load2 rfl rfl Try.isAgg24 Try.sizeOf24 (fun _ h => h.2.2.2)) ?_ ?_
      rotate_left; (simp only [Act.put, List.setIfInBounds_toArray, List.set_cons_zero, List.set_cons_succ]; rfl)
      refine st_act rfl rfl fun K hK => a_call (args := #[.agg #[.bool f228, .slice A229 n230 c231], .agg #[.bool f290, .slice A291 n292 c293]]) rfl rfl (fun w => by kernel_rfl) (same_any _ _ (asI n a) (asI n (asU n a)) _ (h322.new_ hq1_2) (h326.new_ hq1_2)) ?_
      rintro e w102 ⟨rfl, hm102⟩
      rw [decide_eq_true (HG.out.2.1)]
      have hq1_3 := (show New _ _ from hq1_2).transNew hm102
      refine ⟨_, rfl, hK _ _ (hS _ hq1_3) ?_⟩
      simp only [Act.put, List.setIfInBounds_toArray, List.set_cons_zero, List.set_cons_succ]
      refine st_take (a' := ?_) rfl rfl (y_pick (b := true) (v := .bool true) rfl rfl rfl) ?_ ?_
      rotate_left; (simp only [Act.put, List.setIfInBounds_toArray, List.set_cons_zero, List.set_cons_succ]; rfl)
      refine st_take (a' := ?_) rfl rfl (y_move (v := .bool true) rfl rfl) ?_ ?_
      rotate_left; (simp only [Act.put, List.setIfInBounds_toArray, List.set_cons_zero, List.set_cons_succ]; rfl)
      refine st_take (a' := ?_) rfl rfl (y_load2 rfl rfl Try.isAgg24 Try.sizeOf24 (fun _ h => h.1)) ?_ ?_
      rotate_left; (simp only [Act.put, List.setIfInBounds_toArray, List.set_cons_zero, List.set_cons_succ]; rfl)
      refine st_act rfl rfl fun K hK => a_call (args := #[.int .i64 0]) rfl rfl (fun w => by kernel_rfl) (of_any 0 _ zero_lo zero_hi) ?_
      rintro e w103 ⟨f103, A103, n103, c103, rfl, hc103, hm103⟩
      have hq1_4 := (show New _ _ from hq1_3).transNew hm103
      refine ⟨_, rfl, hK _ _ (hS _ hq1_4) ?_⟩
      simp only [Act.put, List.setIfInBounds_toArray, List.set_cons_zero, List.set_cons_succ]
      refine st_act rfl rfl fun K hK => a_call (args := #[.agg #[.bool f203, .slice A204 n205 c206], .agg #[.bool f103, .slice A103 n103 c103]]) rfl rfl (fun w => by kernel_rfl) (cmpz_any _ _ (asU n a) 0 _ (h320.new_ hq1_4) (hc103.big zero_abs)) ?_
      rintro e w104 ⟨rfl, hm104⟩
      have hq1_5 := (show New _ _ from hq1_4).transNew hm104
      refine ⟨_, rfl, hK _ _ (hS _ hq1_5) ?_⟩
      simp only [Act.put, List.setIfInBounds_toArray, List.set_cons_zero, List.set_cons_succ]
      refine st_take (a' := ?_) rfl rfl (y_bin (k := .i64) (m := cmpZ (asU n a) 0) (n := 0) (v := .bool true) rfl rfl rfl (r_geq HG.out.2.2)) ?_ ?_
      rotate_left; (simp only [Act.put, List.setIfInBounds_toArray, List.set_cons_zero, List.set_cons_succ]; rfl)
      refine st_take (a' := ?_) rfl rfl (y_pick (b := true) (v := .bool true) rfl rfl rfl) ?_ ?_
      rotate_left; (simp only [Act.put, List.setIfInBounds_toArray, List.set_cons_zero, List.set_cons_succ]; rfl)
      refine st_take (a' := ?_) rfl rfl (y_assign (v := .bool true) rfl rfl) ?_ ?_
      rotate_left; (simp only [Act.put, List.setIfInBounds_toArray, List.set_cons_zero, List.set_cons_succ]; rfl)
      refine st_nil ?_
      have hd327 := (show New _ _ from hq1_5)
      clear hS hq1_1 hq1_2 hq1_3 hq1_4 hq1_5
      have h328 := h314.new_ hd327
      have h329 := h315.new_ hd327
      have h330 := h316.new_ hd327
      have h331 := h317.transNew hd327
      have h332 := h318.new_ hd327
      have h333 := h319.new_ hd327
      have h334 := h320.new_ hd327
      have h335 := h321.new_ hd327
      have h336 := h322.new_ hd327
      have h337 := h323.new_ hd327
      have h338 := h324.new_ hd327
      have h339 := h325.new_ hd327
      have h340 := h326.new_ hd327
      have h341 := hb312.new_ hd327
      clear h314 h315 h316 h317 h318 h319 h320 h321 h322 h323 h324 h325 h326 hb312 hd327
      go_wp2
      go_ret
      exact ⟨rfl, h331⟩
end Go.Proofs.Ytfhflpchfgkgcaa
