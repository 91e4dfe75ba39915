/- The law BigCuts2: the walk. -/
import Derived.Test.YtfhflpchfgkgcaaBigW
namespace Go.Proofs.Ytfhflpchfgkgcaa
open Go.RowKit
theorem asU_abs (n z : Int) : (asU n z).natAbs < 2 ^ 256 := by
  unfold asU
  split
  · decide
  · rename_i h
    have h3 : (2 : Nat) ^ n.toNat ≤ 2 ^ 256 := Nat.pow_le_pow_right (by omega) (by omega)
    rw [pow_cast]
    have h0 : 0 < 2 ^ n.toNat := Nat.two_pow_pos _
    generalize (2 : Nat) ^ n.toNat = P at *
    have h4 := Int.emod_nonneg z (show (P : Int) ≠ 0 by omega)
    have h5 := Int.emod_lt_of_pos z (show (0 : Int) < P by omega)
    generalize (2 : Nat) ^ 256 = Q at *
    omega
theorem asU_pnat {n : Nat} (h : n ≤ 256) (z : Int) : 0 ≤ asU n z ∧ asU n z < 2 ^ n := by
  rw [asU_nat h, pow_cast]
  have h0 : 0 < 2 ^ n := Nat.two_pow_pos _
  generalize (2 : Nat) ^ n = P at *
  exact ⟨Int.emod_nonneg z (show (P : Int) ≠ 0 by omega), Int.emod_lt_of_pos z (show (0 : Int) < P by omega)⟩
theorem asI_eq {n : Nat} (h : n ≤ 256) (z : Int) : asI n z = if n = 0 ∨ asU n z < 2 ^ (n - 1) then asU n z else asU n z - 2 ^ n := by
  unfold asI
  rw [if_neg (by omega), Int.toNat_natCast]
  simp
theorem asI_abs (n z : Int) : (asI n z).natAbs < 2 ^ 256 := by
  by_cases h : n < 0 ∨ 256 < n
  · unfold asI
    rw [if_pos h]
    decide
  · obtain ⟨k, rfl⟩ := Int.eq_ofNat_of_zero_le (show 0 ≤ n by omega)
    have hk : k ≤ 256 := by omega
    have ⟨h1, h2⟩ := asU_pnat hk z
    have h3 : (2 : Nat) ^ k ≤ 2 ^ 256 := Nat.pow_le_pow_right (by omega) hk
    rw [asI_eq hk]
    split
    · exact asU_abs _ _
    · rename_i hn
      rw [not_or] at hn
      have h4 : (2 : Nat) ^ k = 2 * 2 ^ (k - 1) := by rw [← Nat.pow_succ', show (k - 1).succ = k by omega]
      have h5 := hn.2
      rw [pow_cast] at h2 h5 ⊢
      have h6 : 0 < 2 ^ (k - 1) := Nat.two_pow_pos _
      rw [h4] at h2 h3 ⊢
      generalize (2 : Nat) ^ (k - 1) = P at *
      generalize (2 : Nat) ^ 256 = Q at *
      omega
theorem two_dvd {n m : Nat} (h : n ≤ m) : (2 : Int) ^ n ∣ 2 ^ m := by
  rw [pow_cast, pow_cast]; exact Int.natCast_dvd_natCast.mpr (Nat.pow_dvd_pow 2 h)
theorem asU_U {n m : Nat} (h : n ≤ m) (hm : m ≤ 256) (z : Int) : asU n (asU m z) = asU n z := by
  rw [asU_nat (by omega), asU_nat hm, asU_nat (by omega)]
  exact Int.emod_emod_of_dvd z (two_dvd h)
theorem asU_I {n m : Nat} (h : n ≤ m) (hm : m ≤ 256) (z : Int) : asU n (asI m z) = asU n z := by
  rw [asI_eq hm]
  split
  · exact asU_U h hm z
  · rw [← asU_U h hm z, asU_nat (by omega), asU_nat (n := n) (by omega)]
    have hd : (2 : Int) ^ n ∣ 2 ^ m := two_dvd h
    rw [Int.sub_emod, Int.emod_eq_zero_of_dvd hd, Int.sub_zero, Int.emod_emod]
theorem asI_of {n : Nat} (hn : n ≤ 256) {y z : Int} (h : asU n y = asU n z) : asI n y = asI n z := by
  rw [asI_eq hn, asI_eq hn, h]
theorem asI_I {n m : Nat} (h : n ≤ m) (hm : m ≤ 256) (z : Int) : asI n (asI m z) = asI n z := asI_of (by omega) (asU_I h hm z)
set_option maxHeartbeats 6400000 in
set_option maxRecDepth 100000 in
theorem cuts2_walk (x : Value) (i j a : Int) (w : World) (hx : BigAt w x a) : Calls Try.prog 5 #[x, .int .i64 i, .int .i64 j] w (IsBool true w) := by
  obtain ⟨bx, vx, mx, rfl, rx, lx, gx⟩ := hx
  obtain ⟨Ax, cx, rfl⟩ := rx.form
  obtain ⟨w1, hw1, hN, hbx, -⟩ := one_box w 24 (.bool bx) (.slice Ax mx.length cx)
  have hzx : BigAt w1 (.agg #[.bool bx, .slice Ax mx.length cx]) a := ⟨_, _, _, rfl, rx.new_ hN, lx, gx⟩
  have hrx := rx.new_ hN
  clear rx lx gx
  have Hw1 := hide hw1
  clear hw1
  go_enter Try.func5, Try.ntmps5
  go_wp2_with fail
  rw [← Hw1.out]
  obtain ⟨qx, hqx⟩ : ∃ q, q = w.heap.size := ⟨_, rfl⟩
  rw [← hqx] at hbx ⊢
  clear hqx
  refine (first_any _).mono ?_
  rintro e w1 ⟨rfl, hn⟩
  have h2 := hzx.new_ hn
  have h3 := hrx.new_ hn
  have h4 := hbx.new_ hn
  have h5 := hN.transNew hn
  clear hzx hrx hbx hN hn
  have k6 : w1.cell? ⟨qx, 0, none⟩ = some (.bool bx) := h4.cell 0
  have k7 : w1.cell? ⟨qx, 1, none⟩ = some (.slice Ax mx.length cx) := h4.cell 1
  go_wp2_with fail
  clear k6 k7
  refine (few_any _ _ mx _ h3).mono ?_
  rintro e w8 ⟨rfl, hn⟩
  have h9 := h2.new_ hn
  have h10 := h3.new_ hn
  have h11 := h4.new_ hn
  have h12 := h5.transNew hn
  clear h2 h3 h4 h5 hn
  obtain ⟨d, hd⟩ : ∃ d, d = decide (mx.length ≤ 40) := ⟨_, rfl⟩
  rw [← hd]
  clear hd
  cases d
  · skip
    go_wp2_with fail
    refine (first_any _).mono ?_
    rintro e w13 ⟨rfl, hn⟩
    have h14 := h9.new_ hn
    have h15 := h10.new_ hn
    have h16 := h11.new_ hn
    have h17 := h12.transNew hn
    clear h9 h10 h11 h12 hn
    go_wp2
    go_ret
    exact ⟨rfl, h17⟩
  by_cases ht : i < 0
  · skip
    go_wp2_with fail
    refine (first_any _).mono ?_
    rintro e w18 ⟨rfl, hn⟩
    have h19 := h9.new_ hn
    have h20 := h10.new_ hn
    have h21 := h11.new_ hn
    have h22 := h12.transNew hn
    clear h9 h10 h11 h12 hn
    go_wp2
    go_ret
    exact ⟨rfl, h22⟩
  have c1 := ht
  by_cases ht : j < i
  · skip
    go_wp2_with fail
    refine (first_any _).mono ?_
    rintro e w23 ⟨rfl, hn⟩
    have h24 := h9.new_ hn
    have h25 := h10.new_ hn
    have h26 := h11.new_ hn
    have h27 := h12.transNew hn
    clear h9 h10 h11 h12 hn
    go_wp2
    go_ret
    exact ⟨rfl, h27⟩
  have c2 := ht
  by_cases ht : 256 < j
  · skip
    go_wp2_with fail
    refine (first_any _).mono ?_
    rintro e w28 ⟨rfl, hn⟩
    have h29 := h9.new_ hn
    have h30 := h10.new_ hn
    have h31 := h11.new_ hn
    have h32 := h12.transNew hn
    clear h9 h10 h11 h12 hn
    go_wp2
    go_ret
    exact ⟨rfl, h32⟩
  have hEi : rangeE i = 0 := by rw [rangeE, if_neg (by omega)]
  have hEj : rangeE j = 0 := by rw [rangeE, if_neg (by omega)]
  have k38 : w8.cell? ⟨qx, 0, none⟩ = some (.bool bx) := h11.cell 0
  have k39 : w8.cell? ⟨qx, 1, none⟩ = some (.slice Ax mx.length cx) := h11.cell 1
  go_wp2_with fail
  clear k38 k39
  refine (asUint_any j _ (a) _ h9).mono ?_
  rintro e w40 ⟨f33, A34, n35, c36, rfl, hc37, hn⟩
  have h41 := h9.new_ hn
  have h42 := h10.new_ hn
  have h43 := h11.new_ hn
  have h44 := h12.transNew hn
  clear h9 h10 h11 h12 hn
  rw [hEj]
  have hz45 := hc37.big (asU_abs _ _)
  clear hc37
  go_upto_region 6 with (fail)
  obtain ⟨w46, hw⟩ : ∃ w', w' = w40.alloc (.cells #[.bool f33, .slice A34 n35 c36] 24) := ⟨_, rfl⟩
  have hn : New w40 w46 := by rw [hw]; exact (Upd.refl _ _).alloc _
  have hb47 : Blk w46 w40.heap.size 24 [.bool f33, .slice A34 n35 c36] := by rw [hw]; exact Blk.new w40 _ _
  rw [← hw]
  clear hw
  obtain ⟨q48, hq⟩ : ∃ q, q = w40.heap.size := ⟨_, rfl⟩
  rw [← hq] at hb47 ⊢
  clear hq
  have h49 := h41.new_ hn
  have h50 := h42.new_ hn
  have h51 := h43.new_ hn
  have h52 := h44.transNew hn
  have h53 := hz45.new_ hn
  clear h41 h42 h43 h44 hz45 hn
  have Hc := hide (And.intro c1 (And.intro c2 ht))
  clear c1 c2 ht
  have k59 : w46.cell? ⟨q48, 0, none⟩ = some (.bool f33) := hb47.cell 0
  have k60 : w46.cell? ⟨q48, 1, none⟩ = some (.slice A34 n35 c36) := hb47.cell 1
  go_wp2_with fail
  clear k59 k60
  refine (asUint_any i _ (asU j a) _ h53).mono ?_
  rintro e w61 ⟨f54, A55, n56, c57, rfl, hc58, hn⟩
  have h62 := h49.new_ hn
  have h63 := h50.new_ hn
  have h64 := h51.new_ hn
  have h65 := h52.transNew hn
  have h66 := h53.new_ hn
  have h67 := hb47.new_ hn
  clear h49 h50 h51 h52 h53 hb47 hn
  rw [hEi]
  have hz68 := hc58.big (asU_abs _ _)
  clear hc58
  go_upto_region 7 with (fail)
  obtain ⟨w69, hw⟩ : ∃ w', w' = w61.alloc (.cells #[.bool f54, .slice A55 n56 c57] 24) := ⟨_, rfl⟩
  have hn : New w61 w69 := by rw [hw]; exact (Upd.refl _ _).alloc _
  have hb70 : Blk w69 w61.heap.size 24 [.bool f54, .slice A55 n56 c57] := by rw [hw]; exact Blk.new w61 _ _
  rw [← hw]
  clear hw
  obtain ⟨q71, hq⟩ : ∃ q, q = w61.heap.size := ⟨_, rfl⟩
  rw [← hq] at hb70 ⊢
  clear hq
  have h72 := h62.new_ hn
  have h73 := h63.new_ hn
  have h74 := h64.new_ hn
  have h75 := h65.transNew hn
  have h76 := h66.new_ hn
  have h77 := h67.new_ hn
  have h78 := hz68.new_ hn
  clear h62 h63 h64 h65 h66 h67 hz68 hn
  have k84 : w69.cell? ⟨qx, 0, none⟩ = some (.bool bx) := h74.cell 0
  have k85 : w69.cell? ⟨qx, 1, none⟩ = some (.slice Ax mx.length cx) := h74.cell 1
  go_wp2_with fail
  clear k84 k85
  refine (asUint_any i _ (a) _ h72).mono ?_
  rintro e w86 ⟨f79, A80, n81, c82, rfl, hc83, hn⟩
  have h87 := h72.new_ hn
  have h88 := h73.new_ hn
  have h89 := h74.new_ hn
  have h90 := h75.transNew hn
  have h91 := h76.new_ hn
  have h92 := h77.new_ hn
  have h93 := h78.new_ hn
  have h94 := hb70.new_ hn
  clear h72 h73 h74 h75 h76 h77 h78 hb70 hn
  rw [hEi]
  have hz95 := hc83.big (asU_abs _ _)
  clear hc83
  go_upto_region 8 with (fail)
  obtain ⟨w96, hw⟩ : ∃ w', w' = w86.alloc (.cells #[.bool f79, .slice A80 n81 c82] 24) := ⟨_, rfl⟩
  have hn : New w86 w96 := by rw [hw]; exact (Upd.refl _ _).alloc _
  have hb97 : Blk w96 w86.heap.size 24 [.bool f79, .slice A80 n81 c82] := by rw [hw]; exact Blk.new w86 _ _
  rw [← hw]
  clear hw
  obtain ⟨q98, hq⟩ : ∃ q, q = w86.heap.size := ⟨_, rfl⟩
  rw [← hq] at hb97 ⊢
  clear hq
  have h99 := h87.new_ hn
  have h100 := h88.new_ hn
  have h101 := h89.new_ hn
  have h102 := h90.transNew hn
  have h103 := h91.new_ hn
  have h104 := h92.new_ hn
  have h105 := h93.new_ hn
  have h106 := h94.new_ hn
  have h107 := hz95.new_ hn
  clear h87 h88 h89 h90 h91 h92 h93 h94 hz95 hn
  have k113 : w96.cell? ⟨qx, 0, none⟩ = some (.bool bx) := h101.cell 0
  have k114 : w96.cell? ⟨qx, 1, none⟩ = some (.slice Ax mx.length cx) := h101.cell 1
  go_wp2_with fail
  clear k113 k114
  refine (asInt_any j _ (a) _ h99).mono ?_
  rintro e w115 ⟨f108, A109, n110, c111, rfl, hc112, hn⟩
  have h116 := h99.new_ hn
  have h117 := h100.new_ hn
  have h118 := h101.new_ hn
  have h119 := h102.transNew hn
  have h120 := h103.new_ hn
  have h121 := h104.new_ hn
  have h122 := h105.new_ hn
  have h123 := h106.new_ hn
  have h124 := h107.new_ hn
  have h125 := hb97.new_ hn
  clear h99 h100 h101 h102 h103 h104 h105 h106 h107 hb97 hn
  rw [hEj]
  have hz126 := hc112.big (asI_abs _ _)
  clear hc112
  go_upto_region 9 with (fail)
  obtain ⟨w127, hw⟩ : ∃ w', w' = w115.alloc (.cells #[.bool f108, .slice A109 n110 c111] 24) := ⟨_, rfl⟩
  have hn : New w115 w127 := by rw [hw]; exact (Upd.refl _ _).alloc _
  have hb128 : Blk w127 w115.heap.size 24 [.bool f108, .slice A109 n110 c111] := by rw [hw]; exact Blk.new w115 _ _
  rw [← hw]
  clear hw
  obtain ⟨q129, hq⟩ : ∃ q, q = w115.heap.size := ⟨_, rfl⟩
  rw [← hq] at hb128 ⊢
  clear hq
  have h130 := h116.new_ hn
  have h131 := h117.new_ hn
  have h132 := h118.new_ hn
  have h133 := h119.transNew hn
  have h134 := h120.new_ hn
  have h135 := h121.new_ hn
  have h136 := h122.new_ hn
  have h137 := h123.new_ hn
  have h138 := h124.new_ hn
  have h139 := h125.new_ hn
  have h140 := hz126.new_ hn
  clear h116 h117 h118 h119 h120 h121 h122 h123 h124 h125 hz126 hn
  have k146 : w127.cell? ⟨q129, 0, none⟩ = some (.bool f108) := hb128.cell 0
  have k147 : w127.cell? ⟨q129, 1, none⟩ = some (.slice A109 n110 c111) := hb128.cell 1
  go_wp2_with fail
  clear k146 k147
  refine (asInt_any i _ (asI j a) _ h140).mono ?_
  rintro e w148 ⟨f141, A142, n143, c144, rfl, hc145, hn⟩
  have h149 := h130.new_ hn
  have h150 := h131.new_ hn
  have h151 := h132.new_ hn
  have h152 := h133.transNew hn
  have h153 := h134.new_ hn
  have h154 := h135.new_ hn
  have h155 := h136.new_ hn
  have h156 := h137.new_ hn
  have h157 := h138.new_ hn
  have h158 := h139.new_ hn
  have h159 := h140.new_ hn
  have h160 := hb128.new_ hn
  clear h130 h131 h132 h133 h134 h135 h136 h137 h138 h139 h140 hb128 hn
  rw [hEi]
  have hz161 := hc145.big (asI_abs _ _)
  clear hc145
  go_upto_region 10 with (fail)
  obtain ⟨w162, hw⟩ : ∃ w', w' = w148.alloc (.cells #[.bool f141, .slice A142 n143 c144] 24) := ⟨_, rfl⟩
  have hn : New w148 w162 := by rw [hw]; exact (Upd.refl _ _).alloc _
  have hb163 : Blk w162 w148.heap.size 24 [.bool f141, .slice A142 n143 c144] := by rw [hw]; exact Blk.new w148 _ _
  rw [← hw]
  clear hw
  obtain ⟨q164, hq⟩ : ∃ q, q = w148.heap.size := ⟨_, rfl⟩
  rw [← hq] at hb163 ⊢
  clear hq
  have h165 := h149.new_ hn
  have h166 := h150.new_ hn
  have h167 := h151.new_ hn
  have h168 := h152.transNew hn
  have h169 := h153.new_ hn
  have h170 := h154.new_ hn
  have h171 := h155.new_ hn
  have h172 := h156.new_ hn
  have h173 := h157.new_ hn
  have h174 := h158.new_ hn
  have h175 := h159.new_ hn
  have h176 := h160.new_ hn
  have h177 := hz161.new_ hn
  clear h149 h150 h151 h152 h153 h154 h155 h156 h157 h158 h159 h160 hz161 hn
  have k183 : w162.cell? ⟨qx, 0, none⟩ = some (.bool bx) := h167.cell 0
  have k184 : w162.cell? ⟨qx, 1, none⟩ = some (.slice Ax mx.length cx) := h167.cell 1
  go_wp2_with fail
  clear k183 k184
  refine (asInt_any i _ (a) _ h165).mono ?_
  rintro e w185 ⟨f178, A179, n180, c181, rfl, hc182, hn⟩
  have h186 := h165.new_ hn
  have h187 := h166.new_ hn
  have h188 := h167.new_ hn
  have h189 := h168.transNew hn
  have h190 := h169.new_ hn
  have h191 := h170.new_ hn
  have h192 := h171.new_ hn
  have h193 := h172.new_ hn
  have h194 := h173.new_ hn
  have h195 := h174.new_ hn
  have h196 := h175.new_ hn
  have h197 := h176.new_ hn
  have h198 := h177.new_ hn
  have h199 := hb163.new_ hn
  clear h165 h166 h167 h168 h169 h170 h171 h172 h173 h174 h175 h176 h177 hb163 hn
  rw [hEi]
  have hz200 := hc182.big (asI_abs _ _)
  clear hc182
  go_upto_region 11 with (fail)
  obtain ⟨w201, hw⟩ : ∃ w', w' = w185.alloc (.cells #[.bool f178, .slice A179 n180 c181] 24) := ⟨_, rfl⟩
  have hn : New w185 w201 := by rw [hw]; exact (Upd.refl _ _).alloc _
  have hb202 : Blk w201 w185.heap.size 24 [.bool f178, .slice A179 n180 c181] := by rw [hw]; exact Blk.new w185 _ _
  rw [← hw]
  clear hw
  obtain ⟨q203, hq⟩ : ∃ q, q = w185.heap.size := ⟨_, rfl⟩
  rw [← hq] at hb202 ⊢
  clear hq
  have h204 := h186.new_ hn
  have h205 := h187.new_ hn
  have h206 := h188.new_ hn
  have h207 := h189.transNew hn
  have h208 := h190.new_ hn
  have h209 := h191.new_ hn
  have h210 := h192.new_ hn
  have h211 := h193.new_ hn
  have h212 := h194.new_ hn
  have h213 := h195.new_ hn
  have h214 := h196.new_ hn
  have h215 := h197.new_ hn
  have h216 := h198.new_ hn
  have h217 := h199.new_ hn
  have h218 := hz200.new_ hn
  clear h186 h187 h188 h189 h190 h191 h192 h193 h194 h195 h196 h197 h198 h199 hz200 hn
  have k224 : w201.cell? ⟨q48, 0, none⟩ = some (.bool f33) := h209.cell 0
  have k225 : w201.cell? ⟨q48, 1, none⟩ = some (.slice A34 n35 c36) := h209.cell 1
  go_wp2_with fail
  clear k224 k225
  refine (asUint_any j _ (asU j a) _ h208).mono ?_
  rintro e w226 ⟨f219, A220, n221, c222, rfl, hc223, hn⟩
  have h227 := h204.new_ hn
  have h228 := h205.new_ hn
  have h229 := h206.new_ hn
  have h230 := h207.transNew hn
  have h231 := h208.new_ hn
  have h232 := h209.new_ hn
  have h233 := h210.new_ hn
  have h234 := h211.new_ hn
  have h235 := h212.new_ hn
  have h236 := h213.new_ hn
  have h237 := h214.new_ hn
  have h238 := h215.new_ hn
  have h239 := h216.new_ hn
  have h240 := h217.new_ hn
  have h241 := h218.new_ hn
  have h242 := hb202.new_ hn
  clear h204 h205 h206 h207 h208 h209 h210 h211 h212 h213 h214 h215 h216 h217 h218 hb202 hn
  rw [hEj]
  have hz243 := hc223.big (asU_abs _ _)
  clear hc223
  go_upto_region 14 with (fail)
  obtain ⟨w244, hw⟩ : ∃ w', w' = w226.alloc (.cells #[.bool f219, .slice A220 n221 c222] 24) := ⟨_, rfl⟩
  have hn : New w226 w244 := by rw [hw]; exact (Upd.refl _ _).alloc _
  have hb245 : Blk w244 w226.heap.size 24 [.bool f219, .slice A220 n221 c222] := by rw [hw]; exact Blk.new w226 _ _
  rw [← hw]
  clear hw
  obtain ⟨q246, hq⟩ : ∃ q, q = w226.heap.size := ⟨_, rfl⟩
  rw [← hq] at hb245 ⊢
  clear hq
  have h247 := h227.new_ hn
  have h248 := h228.new_ hn
  have h249 := h229.new_ hn
  have h250 := h230.transNew hn
  have h251 := h231.new_ hn
  have h252 := h232.new_ hn
  have h253 := h233.new_ hn
  have h254 := h234.new_ hn
  have h255 := h235.new_ hn
  have h256 := h236.new_ hn
  have h257 := h237.new_ hn
  have h258 := h238.new_ hn
  have h259 := h239.new_ hn
  have h260 := h240.new_ hn
  have h261 := h241.new_ hn
  have h262 := h242.new_ hn
  have h263 := hz243.new_ hn
  clear h227 h228 h229 h230 h231 h232 h233 h234 h235 h236 h237 h238 h239 h240 h241 h242 hz243 hn
  go_wp2_with fail
  refine (first_any _).mono ?_
  rintro e w264 ⟨rfl, hn⟩
  have h265 := h247.new_ hn
  have h266 := h248.new_ hn
  have h267 := h249.new_ hn
  have h268 := h250.transNew hn
  have h269 := h251.new_ hn
  have h270 := h252.new_ hn
  have h271 := h253.new_ hn
  have h272 := h254.new_ hn
  have h273 := h255.new_ hn
  have h274 := h256.new_ hn
  have h275 := h257.new_ hn
  have h276 := h258.new_ hn
  have h277 := h259.new_ hn
  have h278 := h260.new_ hn
  have h279 := h261.new_ hn
  have h280 := h262.new_ hn
  have h281 := h263.new_ hn
  have h282 := hb245.new_ hn
  clear h247 h248 h249 h250 h251 h252 h253 h254 h255 h256 h257 h258 h259 h260 h261 h262 h263 hb245 hn
  obtain ⟨ni, rfl⟩ := Int.eq_ofNat_of_zero_le (show 0 ≤ i by have := Hc.out; omega)
  obtain ⟨nj, rfl⟩ := Int.eq_ofNat_of_zero_le (show 0 ≤ j by have := Hc.out; omega)
  have hij : ni ≤ nj := by have := Hc.out; omega
  have hj6 : nj ≤ 256 := by have := Hc.out; omega
  have E1 := asU_U hij hj6 a
  have E2 := asI_I hij hj6 a
  have E3 := asU_U (Nat.le_refl nj) hj6 a
  clear hij hj6
  have HE := hide (And.intro E1 (And.intro E2 E3))
  clear E1 E2 E3
  have k283 : w264.cell? ⟨q71, 0, none⟩ = some (.bool f54) := h272.cell 0
  have k284 : w264.cell? ⟨q71, 1, none⟩ = some (.slice A55 n56 c57) := h272.cell 1
  have k285 : w264.cell? ⟨q98, 0, none⟩ = some (.bool f79) := h274.cell 0
  have k286 : w264.cell? ⟨q98, 1, none⟩ = some (.slice A80 n81 c82) := h274.cell 1
  go_wp2_with fail
  clear k283 k284 k285 k286
  refine (same_any _ _ (asU ni (asU nj a)) (asU ni a) _ h271 h273).mono ?_
  rintro e w287 ⟨rfl, hn⟩
  have h288 := h265.new_ hn
  have h289 := h266.new_ hn
  have h290 := h267.new_ hn
  have h291 := h268.transNew hn
  have h292 := h269.new_ hn
  have h293 := h270.new_ hn
  have h294 := h271.new_ hn
  have h295 := h272.new_ hn
  have h296 := h273.new_ hn
  have h297 := h274.new_ hn
  have h298 := h275.new_ hn
  have h299 := h276.new_ hn
  have h300 := h277.new_ hn
  have h301 := h278.new_ hn
  have h302 := h279.new_ hn
  have h303 := h280.new_ hn
  have h304 := h281.new_ hn
  have h305 := h282.new_ hn
  clear h265 h266 h267 h268 h269 h270 h271 h272 h273 h274 h275 h276 h277 h278 h279 h280 h281 h282 hn
  rw [decide_eq_true (HE.out.1)]
  have k306 : w287.cell? ⟨q164, 0, none⟩ = some (.bool f141) := h301.cell 0
  have k307 : w287.cell? ⟨q164, 1, none⟩ = some (.slice A142 n143 c144) := h301.cell 1
  have k308 : w287.cell? ⟨q203, 0, none⟩ = some (.bool f178) := h303.cell 0
  have k309 : w287.cell? ⟨q203, 1, none⟩ = some (.slice A179 n180 c181) := h303.cell 1
  go_wp2_with fail
  clear k306 k307 k308 k309
  refine (same_any _ _ (asI ni (asI nj a)) (asI ni a) _ h300 h302).mono ?_
  rintro e w310 ⟨rfl, hn⟩
  have h311 := h288.new_ hn
  have h312 := h289.new_ hn
  have h313 := h290.new_ hn
  have h314 := h291.transNew hn
  have h315 := h292.new_ hn
  have h316 := h293.new_ hn
  have h317 := h294.new_ hn
  have h318 := h295.new_ hn
  have h319 := h296.new_ hn
  have h320 := h297.new_ hn
  have h321 := h298.new_ hn
  have h322 := h299.new_ hn
  have h323 := h300.new_ hn
  have h324 := h301.new_ hn
  have h325 := h302.new_ hn
  have h326 := h303.new_ hn
  have h327 := h304.new_ hn
  have h328 := h305.new_ hn
  clear h288 h289 h290 h291 h292 h293 h294 h295 h296 h297 h298 h299 h300 h301 h302 h303 h304 h305 hn
  rw [decide_eq_true (HE.out.2.1)]
  have k329 : w310.cell? ⟨q246, 0, none⟩ = some (.bool f219) := h328.cell 0
  have k330 : w310.cell? ⟨q246, 1, none⟩ = some (.slice A220 n221 c222) := h328.cell 1
  have k331 : w310.cell? ⟨q48, 0, none⟩ = some (.bool f33) := h316.cell 0
  have k332 : w310.cell? ⟨q48, 1, none⟩ = some (.slice A34 n35 c36) := h316.cell 1
  go_wp2_with fail
  clear k329 k330 k331 k332
  refine (same_any _ _ (asU nj (asU nj a)) (asU nj a) _ h327 h315).mono ?_
  rintro e w333 ⟨rfl, hn⟩
  have h334 := h311.new_ hn
  have h335 := h312.new_ hn
  have h336 := h313.new_ hn
  have h337 := h314.transNew hn
  have h338 := h315.new_ hn
  have h339 := h316.new_ hn
  have h340 := h317.new_ hn
  have h341 := h318.new_ hn
  have h342 := h319.new_ hn
  have h343 := h320.new_ hn
  have h344 := h321.new_ hn
  have h345 := h322.new_ hn
  have h346 := h323.new_ hn
  have h347 := h324.new_ hn
  have h348 := h325.new_ hn
  have h349 := h326.new_ hn
  have h350 := h327.new_ hn
  have h351 := h328.new_ hn
  clear h311 h312 h313 h314 h315 h316 h317 h318 h319 h320 h321 h322 h323 h324 h325 h326 h327 h328 hn
  rw [decide_eq_true (HE.out.2.2)]
  go_wp2
  go_ret
  exact ⟨rfl, h337⟩
end Go.Proofs.Ytfhflpchfgkgcaa
