/- few; the chapter's examples: first() is true. -/
import Derived.Test.YtfhflpchfgkgcaaBigU
namespace Go.Proofs.Ytfhflpchfgkgcaa
open Go.RowKit
theorem few_any (b : Bool) (v : Value) (m : List Nat) (w : World) (hr : RowAt w 1 v m.length (encW m)) : Calls Try.prog 15 #[.agg #[.bool b, v]] w (IsBool (decide (m.length ≤ 40)) w) := by
  obtain ⟨A, c, rfl⟩ := hr.form
  have hmax := row_max hr
  clear hr
  go_enter Try.func15, Try.ntmps15
  go_wp2
  go_ret
  refine ⟨?_, (Upd.refl _ _).alloc _⟩
  show Ending.returned (.bool (decide ((m.length : Int) ≤ 40))) = _
  congr 2
  simp only [decide_eq_decide]
  omega
theorem digs_one {d : Nat} (h0 : 0 < d) (h : d < 10) : digs d = [d] := by
  rw [digs_pos h0, Nat.mod_eq_of_lt h, Nat.div_eq_of_lt h, digs_zero]
theorem textI_m3 : textI (-3) = [45, 51] := by
  rw [textI, if_neg (by decide), if_pos (by decide), show (-3 : Int).natAbs = 3 from rfl, digs_one (by omega) (by omega)]; rfl
theorem textI_m1 : textI (-1) = [45, 49] := by
  rw [textI, if_neg (by decide), if_pos (by decide), show (-1 : Int).natAbs = 1 from rfl, digs_one (by omega) (by omega)]; rfl
theorem textI_m56 : textI (-56) = [45, 53, 54] := by
  rw [textI, if_neg (by decide), if_pos (by decide), show (-56 : Int).natAbs = 56 from rfl, digs_pos (by omega), show 56 / 10 = 5 from rfl, digs_one (by omega) (by omega)]; rfl
theorem parse_m0 (w : World) : Calls Try.prog 16 #[.string ⟨#[45, 48]⟩] w (IsZE 0 2 w) := by
  have h := parse_any ⟨#[45, 48]⟩ w (by decide)
  have e : parseZ (⟨#[45, 48]⟩ : ByteArray).data.toList = (0, 2) := rfl
  rw [e] at h
  exact h
theorem word_m1 (w : World) : Calls Try.prog 27 #[.int .u64 18446744073709551615, .bool true] w (IsZ (-1) w) := by
  have h := fromWord_any 18446744073709551615 true w (by omega)
  rw [show wordI 18446744073709551615 true = -1 by decide] at h
  exact h
theorem may_can {w : World} {f : Bool} {A : Option Addr} {n c : Nat} {z : Int} (h : CanAt w (.agg #[.bool f, .slice A n c]) z) (hz : z.natAbs < 2 ^ 256) : ∃ m, mayB f m = true ∧ m.length = n ∧ RowAt w 1 (.slice A n c) m.length (encW m) := by
  obtain ⟨h1, h2, h3⟩ := h.parts
  refine ⟨canon z.natAbs, ?_, h2.symm, by rw [← h2]; exact h3⟩
  rw [h1]
  exact may_canon hz
set_option maxHeartbeats 6400000 in
theorem first_any (w : World) : Calls Try.prog 14 #[] w (IsBool true w) := by
  have hN : New w w := Upd.refl _ _
  go_enter Try.func14, Try.ntmps14
  go_wp2_with fail
  refine (of_any (-7) _ (by omega) (by omega)).mono ?_
  rintro e w6 ⟨f1, A2, n3, c4, rfl, hc5, hn⟩
  have h7 := hN.transNew hn
  clear hN hn
  have hz8 := hc5.big (by decide)
  clear hc5
  go_wp2_with fail
  refine (of_any (2) _ (by omega) (by omega)).mono ?_
  rintro e w14 ⟨f9, A10, n11, c12, rfl, hc13, hn⟩
  have h15 := h7.transNew hn
  have h16 := hz8.new_ hn
  clear h7 hz8 hn
  have hz17 := hc13.big (by decide)
  clear hc13
  go_wp2_with fail
  refine (div_any _ _ (-7) 2 _ h16 hz17).mono ?_
  rintro e w23 ⟨f18, A19, n20, c21, rfl, hc22, hn⟩
  have h24 := h15.transNew hn
  have h25 := h16.new_ hn
  have h26 := hz17.new_ hn
  clear h15 h16 hz17 hn
  rw [show divZ (-7) 2 = -3 by decide] at hc22
  rw [show zeroE 2 = 0 by decide]
  obtain ⟨mA, hmA, hnA, hrA⟩ := may_can hc22 (by decide)
  have HmA := hide (And.intro hmA hnA)
  clear hmA hnA
  have hz27 := hc22.big (by decide)
  clear hc22
  go_upto_region 2 with (fail)
  obtain ⟨w28, hw⟩ : ∃ w', w' = w23.alloc (.cells #[.bool f18, .slice A19 n20 c21] 24) := ⟨_, rfl⟩
  have hn : New w23 w28 := by rw [hw]; exact (Upd.refl _ _).alloc _
  have hb29 : Blk w28 w23.heap.size 24 [.bool f18, .slice A19 n20 c21] := by rw [hw]; exact Blk.new w23 _ _
  rw [← hw]
  clear hw
  obtain ⟨q30, hq⟩ : ∃ q, q = w23.heap.size := ⟨_, rfl⟩
  rw [← hq] at hb29 ⊢
  clear hq
  have h31 := h24.transNew hn
  have h32 := h25.new_ hn
  have h33 := h26.new_ hn
  have h34 := hrA.new_ hn
  have h35 := hz27.new_ hn
  clear h24 h25 h26 hrA hz27 hn
  go_wp2_with fail
  refine (of_any (200) _ (by omega) (by omega)).mono ?_
  rintro e w41 ⟨f36, A37, n38, c39, rfl, hc40, hn⟩
  have h42 := h31.transNew hn
  have h43 := h32.new_ hn
  have h44 := h33.new_ hn
  have h45 := h34.new_ hn
  have h46 := h35.new_ hn
  have h47 := hb29.new_ hn
  clear h31 h32 h33 h34 h35 hb29 hn
  have hz48 := hc40.big (by decide)
  clear hc40
  go_wp2_with fail
  refine (asInt_any 8 _ 200 _ hz48).mono ?_
  rintro e w54 ⟨f49, A50, n51, c52, rfl, hc53, hn⟩
  have h55 := h42.transNew hn
  have h56 := h43.new_ hn
  have h57 := h44.new_ hn
  have h58 := h45.new_ hn
  have h59 := h46.new_ hn
  have h60 := h47.new_ hn
  have h61 := hz48.new_ hn
  clear h42 h43 h44 h45 h46 h47 hz48 hn
  rw [show asI 8 200 = -56 by decide] at hc53
  rw [show rangeE 8 = 0 by decide]
  have hz62 := hc53.big (by decide)
  clear hc53
  go_upto_region 3 with (fail)
  obtain ⟨w63, hw⟩ : ∃ w', w' = w54.alloc (.cells #[.bool f49, .slice A50 n51 c52] 24) := ⟨_, rfl⟩
  have hn : New w54 w63 := by rw [hw]; exact (Upd.refl _ _).alloc _
  have hb64 : Blk w63 w54.heap.size 24 [.bool f49, .slice A50 n51 c52] := by rw [hw]; exact Blk.new w54 _ _
  rw [← hw]
  clear hw
  obtain ⟨q65, hq⟩ : ∃ q, q = w54.heap.size := ⟨_, rfl⟩
  rw [← hq] at hb64 ⊢
  clear hq
  have h66 := h55.transNew hn
  have h67 := h56.new_ hn
  have h68 := h57.new_ hn
  have h69 := h58.new_ hn
  have h70 := h59.new_ hn
  have h71 := h60.new_ hn
  have h72 := h61.new_ hn
  have h73 := hz62.new_ hn
  clear h55 h56 h57 h58 h59 h60 h61 hz62 hn
  go_wp2_with fail
  refine (parse_m0 _).mono ?_
  rintro e w79 ⟨f74, A75, n76, c77, rfl, hc78, hn⟩
  have h80 := h66.transNew hn
  have h81 := h67.new_ hn
  have h82 := h68.new_ hn
  have h83 := h69.new_ hn
  have h84 := h70.new_ hn
  have h85 := h71.new_ hn
  have h86 := h72.new_ hn
  have h87 := h73.new_ hn
  have h88 := hb64.new_ hn
  clear h66 h67 h68 h69 h70 h71 h72 h73 hb64 hn
  have hz89 := hc78.big (by decide)
  clear hc78
  go_upto_region 4 with (fail)
  obtain ⟨w90, hw⟩ : ∃ w', w' = w79.alloc (.cells #[.bool f74, .slice A75 n76 c77] 24) := ⟨_, rfl⟩
  have hn : New w79 w90 := by rw [hw]; exact (Upd.refl _ _).alloc _
  have hb91 : Blk w90 w79.heap.size 24 [.bool f74, .slice A75 n76 c77] := by rw [hw]; exact Blk.new w79 _ _
  rw [← hw]
  clear hw
  obtain ⟨q92, hq⟩ : ∃ q, q = w79.heap.size := ⟨_, rfl⟩
  rw [← hq] at hb91 ⊢
  clear hq
  have h93 := h80.transNew hn
  have h94 := h81.new_ hn
  have h95 := h82.new_ hn
  have h96 := h83.new_ hn
  have h97 := h84.new_ hn
  have h98 := h85.new_ hn
  have h99 := h86.new_ hn
  have h100 := h87.new_ hn
  have h101 := h88.new_ hn
  have h102 := hz89.new_ hn
  clear h80 h81 h82 h83 h84 h85 h86 h87 h88 hz89 hn
  go_wp2_with fail
  refine (of_any (1) _ (by omega) (by omega)).mono ?_
  rintro e w108 ⟨f103, A104, n105, c106, rfl, hc107, hn⟩
  have h109 := h93.transNew hn
  have h110 := h94.new_ hn
  have h111 := h95.new_ hn
  have h112 := h96.new_ hn
  have h113 := h97.new_ hn
  have h114 := h98.new_ hn
  have h115 := h99.new_ hn
  have h116 := h100.new_ hn
  have h117 := h101.new_ hn
  have h118 := h102.new_ hn
  have h119 := hb91.new_ hn
  clear h93 h94 h95 h96 h97 h98 h99 h100 h101 h102 hb91 hn
  have hz120 := hc107.big (by decide)
  clear hc107
  go_wp2_with fail
  refine (of_any (0) _ (by omega) (by omega)).mono ?_
  rintro e w126 ⟨f121, A122, n123, c124, rfl, hc125, hn⟩
  have h127 := h109.transNew hn
  have h128 := h110.new_ hn
  have h129 := h111.new_ hn
  have h130 := h112.new_ hn
  have h131 := h113.new_ hn
  have h132 := h114.new_ hn
  have h133 := h115.new_ hn
  have h134 := h116.new_ hn
  have h135 := h117.new_ hn
  have h136 := h118.new_ hn
  have h137 := h119.new_ hn
  have h138 := hz120.new_ hn
  clear h109 h110 h111 h112 h113 h114 h115 h116 h117 h118 h119 hz120 hn
  have hz139 := hc125.big (by decide)
  clear hc125
  go_wp2_with fail
  refine (div_any _ _ 1 0 _ h138 hz139).mono ?_
  rintro e w145 ⟨f140, A141, n142, c143, rfl, hc144, hn⟩
  have h146 := h127.transNew hn
  have h147 := h128.new_ hn
  have h148 := h129.new_ hn
  have h149 := h130.new_ hn
  have h150 := h131.new_ hn
  have h151 := h132.new_ hn
  have h152 := h133.new_ hn
  have h153 := h134.new_ hn
  have h154 := h135.new_ hn
  have h155 := h136.new_ hn
  have h156 := h137.new_ hn
  have h157 := h138.new_ hn
  have h158 := hz139.new_ hn
  clear h127 h128 h129 h130 h131 h132 h133 h134 h135 h136 h137 h138 hz139 hn
  rw [show divZ 1 0 = 0 by decide] at hc144
  rw [show zeroE 0 = 4 by decide]
  have hz159 := hc144.big (by decide)
  clear hc144
  go_upto_region 5 with (fail)
  obtain ⟨w160, hw⟩ : ∃ w', w' = w145.alloc (.cells #[.bool f140, .slice A141 n142 c143] 24) := ⟨_, rfl⟩
  have hn : New w145 w160 := by rw [hw]; exact (Upd.refl _ _).alloc _
  have hb161 : Blk w160 w145.heap.size 24 [.bool f140, .slice A141 n142 c143] := by rw [hw]; exact Blk.new w145 _ _
  rw [← hw]
  clear hw
  obtain ⟨q162, hq⟩ : ∃ q, q = w145.heap.size := ⟨_, rfl⟩
  rw [← hq] at hb161 ⊢
  clear hq
  have h163 := h146.transNew hn
  have h164 := h147.new_ hn
  have h165 := h148.new_ hn
  have h166 := h149.new_ hn
  have h167 := h150.new_ hn
  have h168 := h151.new_ hn
  have h169 := h152.new_ hn
  have h170 := h153.new_ hn
  have h171 := h154.new_ hn
  have h172 := h155.new_ hn
  have h173 := h156.new_ hn
  have h174 := h157.new_ hn
  have h175 := h158.new_ hn
  have h176 := hz159.new_ hn
  clear h146 h147 h148 h149 h150 h151 h152 h153 h154 h155 h156 h157 h158 hz159 hn
  have k177 : w160.cell? ⟨q30, 0, none⟩ = some (.bool f18) := h168.cell 0
  have k178 : w160.cell? ⟨q30, 1, none⟩ = some (.slice A19 n20 c21) := h168.cell 1
  go_wp2_with fail
  clear k177 k178
  refine (text_any _ (-3) _ h167).mono ?_
  rintro e w179 ⟨rfl, hn⟩
  have h180 := h163.transNew hn
  have h181 := h164.new_ hn
  have h182 := h165.new_ hn
  have h183 := h166.new_ hn
  have h184 := h167.new_ hn
  have h185 := h168.new_ hn
  have h186 := h169.new_ hn
  have h187 := h170.new_ hn
  have h188 := h171.new_ hn
  have h189 := h172.new_ hn
  have h190 := h173.new_ hn
  have h191 := h174.new_ hn
  have h192 := h175.new_ hn
  have h193 := h176.new_ hn
  have h194 := hb161.new_ hn
  clear h163 h164 h165 h166 h167 h168 h169 h170 h171 h172 h173 h174 h175 h176 hb161 hn
  rw [textI_m3, show strOfNums [45, 51] = ⟨#[45, 51]⟩ from rfl]
  have k195 : w179.cell? ⟨q65, 0, none⟩ = some (.bool f49) := h188.cell 0
  have k196 : w179.cell? ⟨q65, 1, none⟩ = some (.slice A50 n51 c52) := h188.cell 1
  go_wp2_with fail
  clear k195 k196
  refine (text_any _ (-56) _ h187).mono ?_
  rintro e w197 ⟨rfl, hn⟩
  have h198 := h180.transNew hn
  have h199 := h181.new_ hn
  have h200 := h182.new_ hn
  have h201 := h183.new_ hn
  have h202 := h184.new_ hn
  have h203 := h185.new_ hn
  have h204 := h186.new_ hn
  have h205 := h187.new_ hn
  have h206 := h188.new_ hn
  have h207 := h189.new_ hn
  have h208 := h190.new_ hn
  have h209 := h191.new_ hn
  have h210 := h192.new_ hn
  have h211 := h193.new_ hn
  have h212 := h194.new_ hn
  clear h180 h181 h182 h183 h184 h185 h186 h187 h188 h189 h190 h191 h192 h193 h194 hn
  rw [textI_m56, show strOfNums [45, 53, 54] = ⟨#[45, 53, 54]⟩ from rfl]
  go_wp2_with fail
  refine (word_m1 _).mono ?_
  rintro e w218 ⟨f213, A214, n215, c216, rfl, hc217, hn⟩
  have h219 := h198.transNew hn
  have h220 := h199.new_ hn
  have h221 := h200.new_ hn
  have h222 := h201.new_ hn
  have h223 := h202.new_ hn
  have h224 := h203.new_ hn
  have h225 := h204.new_ hn
  have h226 := h205.new_ hn
  have h227 := h206.new_ hn
  have h228 := h207.new_ hn
  have h229 := h208.new_ hn
  have h230 := h209.new_ hn
  have h231 := h210.new_ hn
  have h232 := h211.new_ hn
  have h233 := h212.new_ hn
  clear h198 h199 h200 h201 h202 h203 h204 h205 h206 h207 h208 h209 h210 h211 h212 hn
  have hz234 := hc217.big (by decide)
  clear hc217
  go_wp2_with fail
  refine (text_any _ (-1) _ hz234).mono ?_
  rintro e w235 ⟨rfl, hn⟩
  have h236 := h219.transNew hn
  have h237 := h220.new_ hn
  have h238 := h221.new_ hn
  have h239 := h222.new_ hn
  have h240 := h223.new_ hn
  have h241 := h224.new_ hn
  have h242 := h225.new_ hn
  have h243 := h226.new_ hn
  have h244 := h227.new_ hn
  have h245 := h228.new_ hn
  have h246 := h229.new_ hn
  have h247 := h230.new_ hn
  have h248 := h231.new_ hn
  have h249 := h232.new_ hn
  have h250 := h233.new_ hn
  have h251 := hz234.new_ hn
  clear h219 h220 h221 h222 h223 h224 h225 h226 h227 h228 h229 h230 h231 h232 h233 hz234 hn
  rw [textI_m1, show strOfNums [45, 49] = ⟨#[45, 49]⟩ from rfl]
  have k252 : w235.cell? ⟨q30, 0, none⟩ = some (.bool f18) := h241.cell 0
  have k253 : w235.cell? ⟨q30, 1, none⟩ = some (.slice A19 n20 c21) := h241.cell 1
  go_wp2_with fail
  clear k252 k253
  have hmy := may_any f18 _ mA _ h239
  refine (hmy).mono ?_
  rintro e w254 ⟨rfl, hn⟩
  have h255 := h236.transNew hn
  have h256 := h237.new_ hn
  have h257 := h238.new_ hn
  have h258 := h239.new_ hn
  have h259 := h240.new_ hn
  have h260 := h241.new_ hn
  have h261 := h242.new_ hn
  have h262 := h243.new_ hn
  have h263 := h244.new_ hn
  have h264 := h245.new_ hn
  have h265 := h246.new_ hn
  have h266 := h247.new_ hn
  have h267 := h248.new_ hn
  have h268 := h249.new_ hn
  have h269 := h250.new_ hn
  have h270 := h251.new_ hn
  clear h236 h237 h238 h239 h240 h241 h242 h243 h244 h245 h246 h247 h248 h249 h250 h251 hn
  rw [HmA.out.1]
  go_wp2
  go_ret
  exact ⟨rfl, h255⟩
end Go.Proofs.Ytfhflpchfgkgcaa
