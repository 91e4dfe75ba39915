import Derived.Test.YtecgdgjlmlpcnaaCmc
namespace Go.Proofs.Ytecgdgjlmlpcnaa
open Go.RowKit
set_option linter.unusedSimpArgs false
set_option linter.unusedVariables false
set_option maxHeartbeats 8000000 in
set_option maxRecDepth 100000 in
theorem cnumber_c (v : Vl) (Av : Option Addr) (cv : Nat) (Bv : Option Addr) (dv : Nat) (w : World) (hmv : SRow w .u32 Av v.mag cv) (hsv : SRow w .u16 Bv v.s dv) (hvv : VOk v) : Calls Try.prog 26 #[vv v Av cv Bv dv] w (IsRet (.tuple #[nv ((numberV v).1), iv ((numberV v).2)]) w) := by
  refine enter_abs Try.func26 rfl fun a0 hs0 hd0 hp => ?_
  have hs0 : a0.tmps.size = 37 := hs0
  have hN0 : New w w := Upd.refl _ _
  have hp0 : a0.eval (.tmp 0) = vv v Av cv Bv dv := hp 0 _ rfl
  refine wp_seq_k fun K1 hK1 => ?_
  refine wp_g [true, true, true] [] [] 37
    [IsNew w 29 [iv v.k, iv v.nk, iv v.nn, .bool v.neg, sv Av v.mag cv, sv Bv v.s dv, iv v.ref],
     IsNew w 23 [iv 0, iv 0],
     ve (iv 0)]
    [0, 1] (newsCons (fun v w h => IsNew.old h) (newsCons (fun v w h => IsNew.old h) newsNil)) hs0 (.nw (.nw (.eq (.nil)))) ?_ (fun i h => by cases h) ?_
  refine .o2 (step_allocN (cs := [iv v.k, iv v.nk, iv v.nn, .bool v.neg, sv Av v.mag cv, sv Bv v.s dv, iv v.ref]) (t := 29) rfl (noG rfl) (fun _ w hn k => v_box rfl (k.fx 0 hp0) (fun w => rfl)) (fun q _ hq hb => ⟨q, rfl, hq, hb⟩)) ?_
  refine .o2 (step_allocN (cs := [iv 0, iv 0]) (t := 23) rfl (noG rfl) (fun _ w hn k => rfl) (fun q _ hq hb => ⟨q, rfl, hq, hb⟩)) ?_
  refine .o1 (tk rfl rfl fun _ w hn k => ⟨_, v_assign rfl rfl, rfl⟩) ?_
  exact .nil
  intro a2 w3 hn4 ha5
  obtain ⟨hs6, hd7, hN19⟩ := aft ha5 hs0 hd0 hN0 hn4
  obtain ⟨q9, h8, hq10, hb11⟩ : IsNew _ _ _ _ _ := ha5.got 0 1 rfl (by kernel_rfl)
  obtain ⟨q13, h12, hq14, hb15⟩ : IsNew _ _ _ _ _ := ha5.got 1 2 rfl (by kernel_rfl)
  have hne16 : q9 ≠ q13 := ha5.ne 0 1 1 2 h8 h12
  have hq17 := Nat.le_trans hN0.size hq10
  have hq18 := Nat.le_trans hN0.size hq14
  refine st_nil (hK1 _ _ ?_)
  refine wp_seq_k fun K20 hK20 => ?_
  refine wp_g0 [true, true, false] [(2, false)] 37
    [ve (vv v Av cv Bv dv),
     (fun (v_ : Value) (W : World) => ∃ (A5 : Option Addr) (c6 : Nat) (A7 : Option Addr) (c8 : Nat), v_ = vv (cleanV v) A5 c6 A7 c8 ∧ SRow W .u32 A5 ((cleanV v).mag) c6 ∧ SRow W .u16 A7 ((cleanV v).s) c8),
     vt] hs6 (.eq (.cons (fun v W W' hn ⟨A5, c6, A7, c8, he, h0, h1⟩ => ⟨A5, c6, A7, c8, he, h0.new_ hn, h1.new_ hn⟩) (.tt (.nil)))) ?_ ?_
  refine .o1 (tk rfl rfl fun _ w hn k => ⟨_, v_load rfl (k.fx 1 h8) (l_agg Try.isAgg29 Try.sizeOf29 (hb11.new_ hn) rfl), rfl⟩) ?_
  refine .o1 (tkC rfl (noG rfl) rfl fun _ w hn k => (by
        refine ⟨#[vv v Av cv Bv dv], _, args1 (k.eq1 0 6 rfl), fun w => by kernel_rfl, clean_c v _ _ _ _ _ (hmv.new_ (hN19.transNew hn)) (hsv.new_ (hN19.transNew hn)), ?_⟩
        rintro e w' ⟨A1, c2, A3, c4, rfl, hmo0, hmo1, hm⟩
        exact ⟨_, rfl, hm, ⟨A1, c2, A3, c4, rfl, hmo0, hmo1⟩⟩)) ?_
  refine .off ?_
  exact .nil
  intro a21 w22 hn23 ha24
  obtain ⟨hs25, hd26, hN38⟩ := aft ha24 hs6 hd7 hN19 hn23
  have h27 := ha24.fx 1 h8
  have h28 := ha24.fx 2 h12
  obtain ⟨A30, cc31, A33, cc34, h29, hr32, hr35⟩ : (fun (v_ : Value) (W : World) => ∃ (A5 : Option Addr) (c6 : Nat) (A7 : Option Addr) (c8 : Nat), v_ = vv (cleanV v) A5 c6 A7 c8 ∧ SRow W .u32 A5 ((cleanV v).mag) c6 ∧ SRow W .u16 A7 ((cleanV v).s) c8) _ _ := ha24.got 1 7 rfl (by kernel_rfl)
  have h29 : a21.eval (.tmp 7) = vv (cleanV v) A30 cc31 A33 cc34 := h29
  have hb36 := hb11.new_ hn23
  have hb37 := hb15.new_ hn23
  obtain ⟨w39, hst40, hb410, hu42, hf43⟩ := s_many (P := Try.prog) (t := 29) (i := 0) [iv ((cleanV v).k), iv ((cleanV v).nk), iv ((cleanV v).nn), .bool ((cleanV v).neg), sv A30 ((cleanV v).mag) cc31, sv A33 ((cleanV v).s) cc34, iv ((cleanV v).ref)] Try.sizeOf29 rfl rfl rfl hb36 (Nat.le_of_ble_eq_true rfl)
  have hb41 : Blk w39 q9 29 [iv ((cleanV v).k), iv ((cleanV v).nk), iv ((cleanV v).nn), .bool ((cleanV v).neg), sv A30 ((cleanV v).mag) cc31, sv A33 ((cleanV v).s) cc34, iv ((cleanV v).ref)] := hb410
  refine st_act rfl rfl fun K44 hL45 => a_store' rfl h27 h29 hst40 (hL45 _ _ trivial ?_)
  have hr46 := hr32.far hb36 hu42 (by first | rfl | decide | simp [notK])
  have hr47 := hr35.far hb36 hu42 (by first | rfl | decide | simp [notK])
  have hb48 := hf43 _ _ _ (fun h => hne16 h.symm) hb37
  have hN49 := hN38.trans hu42 (fun k hk hkb => by subst hkb; omega)
  refine st_nil (hK20 _ _ ?_)
  refine wp_seq_k fun K50 hK50 => ?_
  refine wp_seq_k fun K51 hK51 => ?_
  refine wp_g0 [true, true] [] 37
    [ve (pv q9),
     ve (iv ((cleanV v).k))] hs25 (.eq (.eq (.nil))) ?_ ?_
  refine .o1 (tk rfl rfl fun _ w hn k => ⟨_, v_field rfl (k.fx 1 h27) (fun w => rfl), rfl⟩) ?_
  refine .o1 (tk rfl rfl fun _ w hn k => ⟨_, v_load rfl (k.eq1 0 8 rfl) (l_one Try.isAgg3 ((hb41.new_ hn).cell 0)), rfl⟩) ?_
  exact .nil
  intro a52 w53 hn54 ha55
  obtain ⟨hs56, hd57, hN65⟩ := aft ha55 hs25 hd26 hN49 hn54
  have h58 := ha55.fx 1 h27
  have h59 := ha55.fx 2 h28
  have h60 := ha55.ge 1 9 rfl
  have hb61 := hb41.new_ hn54
  have hb62 := hb48.new_ hn54
  have hr63 := hr46.new_ hn54
  have hr64 := hr47.new_ hn54
  refine st_nil (hK51 _ _ ?_)
  refine wp_block ?_
  refine wp_seq_k fun K66 hK66 => ?_
  refine wp_g0 [true, true] [] 37
    [ve (.bool (decide (((cleanV v).k) = 0))),
     ve (.bool (decide (((cleanV v).k) = 0)))] hs56 (.eq (.eq (.nil))) ?_ ?_
  refine .o1 (tk rfl rfl fun _ w hn k => ⟨_, v_bin rfl (k.fx 9 h60) rfl (fun _ => rfl) (r_eql rfl), rfl⟩) ?_
  refine .o1 (tk rfl rfl fun _ w hn k => ⟨_, v_assign rfl (k.eq1 0 11 rfl), rfl⟩) ?_
  exact .nil
  intro a67 w68 hn69 ha70
  obtain ⟨hs71, hd72, hN81⟩ := aft ha70 hs56 hd57 hN65 hn69
  have h73 := ha70.fx 1 h58
  have h74 := ha70.fx 2 h59
  have h75 := ha70.fx 9 h60
  have h76 := ha70.ge 1 10 rfl
  have hb77 := hb61.new_ hn69
  have hb78 := hb62.new_ hn69
  have hr79 := hr63.new_ hn69
  have hr80 := hr64.new_ hn69
  refine st_nil (hK66 _ _ ?_)
  rcases Bool.eq_false_or_eq_true (decide (((cleanV v).k) = 0)) with ht82 | ht82
  have ht82d := of_decide_eq_true ht82
  have hv83 := hB h76 ht82
  refine wp_cond_true hv83 ?_
  refine wp_seq_k fun K84 hK84 => ?_
  refine wp_g0 [true, false, false] [(1, false), (2, true)] 37
    [ve (nv (Nm.mk 2 0)),
     vt,
     vt] hs71 (.eq (.tt (.tt (.nil)))) ?_ ?_
  refine .o1 (tk rfl rfl fun _ w hn k => ⟨_, v_build (ps := [(0, iv 2)]) rfl (parts1 rfl) (by kernel_rfl), rfl⟩) ?_
  refine .off ?_
  refine .off ?_
  exact .nil
  intro a85 w86 hn87 ha88
  obtain ⟨hs89, hd90, hN94⟩ := aft ha88 hs71 hd72 hN81 hn87
  have h91 := ha88.fx 2 h74
  have h92 := ha88.ge 0 12 rfl
  have hb93 := hb78.new_ hn87
  obtain ⟨w95, -, hst96, hb97, hu98, hf99⟩ := s_two (v0 := iv 2) (v1 := iv 0) Try.sizeOf23 rfl rfl rfl hb93
  refine st_act rfl rfl fun K100 hL101 => a_store' rfl h91 h92 hst96 (hL101 _ _ trivial ?_)
  have hN102 := hN94.trans hu98 (fun k hk hkb => by subst hkb; omega)
  refine st_take rfl rfl (y_assign (v := iv 0) rfl rfl) rfl ?_
  obtain ⟨a103, ha104⟩ : ∃ a', a' = a85.put (some 3) (iv 0) := ⟨_, rfl⟩
  have hs105 : a103.tmps.size = 37 := by rw [ha104, put_size]; exact hs89
  have hd106 : a103.defers = [] := by rw [ha104, put_defers]; exact hd90
  have h107 := pn ha104 h91 (by decide)
  have h108 := pn ha104 h92 (by decide)
  have h109 : a103.eval (.tmp 3) = iv 0 := by rw [ha104]; exact put_same _ _ _ (by rw [hs89]; decide)
  show stepsTo _ _ _ _ _ (a85.put (some 3) (iv 0)) _
  rw [← ha104]
  refine st_nil (hK84 _ _ ?_)
  refine wp_ret (ret_k hd106 (v := .tuple #[nv (Nm.mk 2 0), iv 0]) (res_ct rfl h107 h109 (l_two Try.isAgg23 Try.sizeOf23 hb97)) ?_)
  refine ⟨?_, hN102⟩
  show Ending.returned (.tuple #[nv (Nm.mk 2 0), iv 0]) = Ending.returned (.tuple #[nv ((numberV v).1), iv ((numberV v).2)])
  first | rfl | (simp only [numberV, ht82, bsm] <;> rfl) | (simp [numberV, ht82]; done) | (exfalso; omega)
  have ht82d := of_decide_eq_false ht82
  have hv110 := hB h76 ht82
  refine wp_cond_false hv110 ?_
  refine wp_seq_k fun K111 hK111 => ?_
  refine wp_seq_k fun K112 hK112 => ?_
  refine wp_g0 [true, true] [] 37
    [ve (.bool (decide (((cleanV v).k) = 1))),
     ve (.bool (decide (((cleanV v).k) = 1)))] hs71 (.eq (.eq (.nil))) ?_ ?_
  refine .o1 (tk rfl rfl fun _ w hn k => ⟨_, v_bin rfl (k.fx 9 h75) rfl (fun _ => rfl) (r_eql rfl), rfl⟩) ?_
  refine .o1 (tk rfl rfl fun _ w hn k => ⟨_, v_assign rfl (k.eq1 0 14 rfl), rfl⟩) ?_
  exact .nil
  intro a113 w114 hn115 ha116
  obtain ⟨hs117, hd118, hN127⟩ := aft ha116 hs71 hd72 hN81 hn115
  have h119 := ha116.fx 1 h73
  have h120 := ha116.fx 2 h74
  have h121 := ha116.fx 9 h75
  have h122 := ha116.ge 1 13 rfl
  have hb123 := hb77.new_ hn115
  have hb124 := hb78.new_ hn115
  have hr125 := hr79.new_ hn115
  have hr126 := hr80.new_ hn115
  refine st_nil (hK112 _ _ ?_)
  rcases Bool.eq_false_or_eq_true (decide (((cleanV v).k) = 1)) with ht128 | ht128
  have ht128d := of_decide_eq_true ht128
  have hv129 := hB h122 ht128
  refine wp_cond_true hv129 ?_
  refine wp_skip ?_
  refine hK111 _ _ ?_
  refine wp_cond_true hv129 ?_
  refine wp_seq_k fun K130 hK130 => ?_
  refine wp_g0 [true, true, true, false, false] [(3, false), (4, true)] 37
    [ve (.pointer (some ⟨q9, 6, none⟩)),
     ve (iv ((cleanV v).ref)),
     ve (nv (Nm.mk 0 ((cleanV v).ref))),
     vt,
     vt] hs117 (.eq (.eq (.eq (.tt (.tt (.nil)))))) ?_ ?_
  refine .o1 (tk rfl rfl fun _ w hn k => ⟨_, v_field rfl (k.fx 1 h119) (fun w => rfl), rfl⟩) ?_
  refine .o1 (tk rfl rfl fun _ w hn k => ⟨_, v_load rfl (k.eq1 0 16 rfl) (l_one Try.isAgg3 ((hb123.new_ hn).cell 6)), rfl⟩) ?_
  refine .o1 (tk rfl rfl fun _ w hn k => ⟨_, v_build (ps := [(1, iv ((cleanV v).ref))]) rfl (parts1 (k.eq1 1 17 rfl)) (by kernel_rfl), rfl⟩) ?_
  refine .off ?_
  refine .off ?_
  exact .nil
  intro a131 w132 hn133 ha134
  obtain ⟨hs135, hd136, hN140⟩ := aft ha134 hs117 hd118 hN127 hn133
  have h137 := ha134.fx 2 h120
  have h138 := ha134.ge 2 18 rfl
  have hb139 := hb124.new_ hn133
  obtain ⟨w141, -, hst142, hb143, hu144, hf145⟩ := s_two (v0 := iv 0) (v1 := iv ((cleanV v).ref)) Try.sizeOf23 rfl rfl rfl hb139
  refine st_act rfl rfl fun K146 hL147 => a_store' rfl h137 h138 hst142 (hL147 _ _ trivial ?_)
  have hN148 := hN140.trans hu144 (fun k hk hkb => by subst hkb; omega)
  refine st_take rfl rfl (y_assign (v := iv 0) rfl rfl) rfl ?_
  obtain ⟨a149, ha150⟩ : ∃ a', a' = a131.put (some 3) (iv 0) := ⟨_, rfl⟩
  have hs151 : a149.tmps.size = 37 := by rw [ha150, put_size]; exact hs135
  have hd152 : a149.defers = [] := by rw [ha150, put_defers]; exact hd136
  have h153 := pn ha150 h137 (by decide)
  have h154 := pn ha150 h138 (by decide)
  have h155 : a149.eval (.tmp 3) = iv 0 := by rw [ha150]; exact put_same _ _ _ (by rw [hs135]; decide)
  show stepsTo _ _ _ _ _ (a131.put (some 3) (iv 0)) _
  rw [← ha150]
  refine st_nil (hK130 _ _ ?_)
  refine wp_ret (ret_k hd152 (v := .tuple #[nv (Nm.mk 0 ((cleanV v).ref)), iv 0]) (res_ct rfl h153 h155 (l_two Try.isAgg23 Try.sizeOf23 hb143)) ?_)
  refine ⟨?_, hN148⟩
  show Ending.returned (.tuple #[nv (Nm.mk 0 ((cleanV v).ref)), iv 0]) = Ending.returned (.tuple #[nv ((numberV v).1), iv ((numberV v).2)])
  first | rfl | (simp only [numberV, ht82, ht128, bsm] <;> rfl) | (simp [numberV, ht82, ht128]; done) | (exfalso; omega)
  have ht128d := of_decide_eq_false ht128
  have hv156 := hB h122 ht128
  refine wp_cond_false hv156 ?_
  refine wp_g0 [true, true] [] 37
    [ve (.bool (decide (((cleanV v).k) = 2))),
     ve (.bool (decide (((cleanV v).k) = 2)))] hs117 (.eq (.eq (.nil))) ?_ ?_
  refine .o1 (tk rfl rfl fun _ w hn k => ⟨_, v_bin rfl (k.fx 9 h121) rfl (fun _ => rfl) (r_eql rfl), rfl⟩) ?_
  refine .o1 (tk rfl rfl fun _ w hn k => ⟨_, v_assign rfl (k.eq1 0 15 rfl), rfl⟩) ?_
  exact .nil
  intro a157 w158 hn159 ha160
  obtain ⟨hs161, hd162, hN171⟩ := aft ha160 hs117 hd118 hN127 hn159
  have h163 := ha160.fx 1 h119
  have h164 := ha160.fx 2 h120
  have h165 := ha160.fx 9 h121
  have h166 := ha160.ge 1 13 rfl
  have hb167 := hb123.new_ hn159
  have hb168 := hb124.new_ hn159
  have hr169 := hr125.new_ hn159
  have hr170 := hr126.new_ hn159
  refine st_nil (hK111 _ _ ?_)
  rcases Bool.eq_false_or_eq_true (decide (((cleanV v).k) = 2)) with ht172 | ht172
  have ht172d := of_decide_eq_true ht172
  have hv173 := hB h166 ht172
  refine wp_cond_true hv173 ?_
  refine wp_seq_k fun K174 hK174 => ?_
  refine wp_g0 [true, true, true, false, false] [(3, false), (4, true)] 37
    [ve (.pointer (some ⟨q9, 6, none⟩)),
     ve (iv ((cleanV v).ref)),
     ve (nv (Nm.mk 0 ((cleanV v).ref))),
     vt,
     vt] hs161 (.eq (.eq (.eq (.tt (.tt (.nil)))))) ?_ ?_
  refine .o1 (tk rfl rfl fun _ w hn k => ⟨_, v_field rfl (k.fx 1 h163) (fun w => rfl), rfl⟩) ?_
  refine .o1 (tk rfl rfl fun _ w hn k => ⟨_, v_load rfl (k.eq1 0 16 rfl) (l_one Try.isAgg3 ((hb167.new_ hn).cell 6)), rfl⟩) ?_
  refine .o1 (tk rfl rfl fun _ w hn k => ⟨_, v_build (ps := [(1, iv ((cleanV v).ref))]) rfl (parts1 (k.eq1 1 17 rfl)) (by kernel_rfl), rfl⟩) ?_
  refine .off ?_
  refine .off ?_
  exact .nil
  intro a175 w176 hn177 ha178
  obtain ⟨hs179, hd180, hN184⟩ := aft ha178 hs161 hd162 hN171 hn177
  have h181 := ha178.fx 2 h164
  have h182 := ha178.ge 2 18 rfl
  have hb183 := hb168.new_ hn177
  obtain ⟨w185, -, hst186, hb187, hu188, hf189⟩ := s_two (v0 := iv 0) (v1 := iv ((cleanV v).ref)) Try.sizeOf23 rfl rfl rfl hb183
  refine st_act rfl rfl fun K190 hL191 => a_store' rfl h181 h182 hst186 (hL191 _ _ trivial ?_)
  have hN192 := hN184.trans hu188 (fun k hk hkb => by subst hkb; omega)
  refine st_take rfl rfl (y_assign (v := iv 0) rfl rfl) rfl ?_
  obtain ⟨a193, ha194⟩ : ∃ a', a' = a175.put (some 3) (iv 0) := ⟨_, rfl⟩
  have hs195 : a193.tmps.size = 37 := by rw [ha194, put_size]; exact hs179
  have hd196 : a193.defers = [] := by rw [ha194, put_defers]; exact hd180
  have h197 := pn ha194 h181 (by decide)
  have h198 := pn ha194 h182 (by decide)
  have h199 : a193.eval (.tmp 3) = iv 0 := by rw [ha194]; exact put_same _ _ _ (by rw [hs179]; decide)
  show stepsTo _ _ _ _ _ (a175.put (some 3) (iv 0)) _
  rw [← ha194]
  refine st_nil (hK174 _ _ ?_)
  refine wp_ret (ret_k hd196 (v := .tuple #[nv (Nm.mk 0 ((cleanV v).ref)), iv 0]) (res_ct rfl h197 h199 (l_two Try.isAgg23 Try.sizeOf23 hb187)) ?_)
  refine ⟨?_, hN192⟩
  show Ending.returned (.tuple #[nv (Nm.mk 0 ((cleanV v).ref)), iv 0]) = Ending.returned (.tuple #[nv ((numberV v).1), iv ((numberV v).2)])
  first | rfl | (simp only [numberV, ht82, ht128, ht172, bsm] <;> rfl) | (simp [numberV, ht82, ht128, ht172]; done) | (exfalso; omega)
  have ht172d := of_decide_eq_false ht172
  have hv200 := hB h166 ht172
  refine wp_cond_false hv200 ?_
  refine wp_seq_k fun K201 hK201 => ?_
  refine wp_g0 [true, true] [] 37
    [ve (.bool (decide (((cleanV v).k) = 3))),
     ve (.bool (decide (((cleanV v).k) = 3)))] hs161 (.eq (.eq (.nil))) ?_ ?_
  refine .o1 (tk rfl rfl fun _ w hn k => ⟨_, v_bin rfl (k.fx 9 h165) rfl (fun _ => rfl) (r_eql rfl), rfl⟩) ?_
  refine .o1 (tk rfl rfl fun _ w hn k => ⟨_, v_assign rfl (k.eq1 0 20 rfl), rfl⟩) ?_
  exact .nil
  intro a202 w203 hn204 ha205
  obtain ⟨hs206, hd207, hN216⟩ := aft ha205 hs161 hd162 hN171 hn204
  have h208 := ha205.fx 1 h163
  have h209 := ha205.fx 2 h164
  have h210 := ha205.fx 9 h165
  have h211 := ha205.ge 1 19 rfl
  have hb212 := hb167.new_ hn204
  have hb213 := hb168.new_ hn204
  have hr214 := hr169.new_ hn204
  have hr215 := hr170.new_ hn204
  refine st_nil (hK201 _ _ ?_)
  rcases Bool.eq_false_or_eq_true (decide (((cleanV v).k) = 3)) with ht217 | ht217
  have ht217d := of_decide_eq_true ht217
  have hv218 := hB h211 ht217
  refine wp_cond_true hv218 ?_
  refine wp_seq_k fun K219 hK219 => ?_
  refine wp_g0 [true, true, false, false] [(2, false), (3, true)] 37
    [ve (.pointer (some ⟨q9, 1, none⟩)),
     ve (nv (Nm.mk ((cleanV v).nk) ((cleanV v).nn))),
     vt,
     vt] hs206 (.eq (.eq (.tt (.tt (.nil))))) ?_ ?_
  refine .o1 (tk rfl rfl fun _ w hn k => ⟨_, v_field rfl (k.fx 1 h208) (fun w => rfl), rfl⟩) ?_
  refine .o1 (tk rfl rfl fun _ w hn k => ⟨_, v_load rfl (k.eq1 0 21 rfl) (l_part Try.isAgg23 Try.sizeOf23 (hb212.new_ hn) (Nat.le_of_ble_eq_true rfl)), rfl⟩) ?_
  refine .off ?_
  refine .off ?_
  exact .nil
  intro a220 w221 hn222 ha223
  obtain ⟨hs224, hd225, hN229⟩ := aft ha223 hs206 hd207 hN216 hn222
  have h226 := ha223.fx 2 h209
  have h227 := ha223.ge 1 22 rfl
  have hb228 := hb213.new_ hn222
  obtain ⟨w230, -, hst231, hb232, hu233, hf234⟩ := s_two (v0 := iv ((cleanV v).nk)) (v1 := iv ((cleanV v).nn)) Try.sizeOf23 rfl rfl rfl hb228
  refine st_act rfl rfl fun K235 hL236 => a_store' rfl h226 h227 hst231 (hL236 _ _ trivial ?_)
  have hN237 := hN229.trans hu233 (fun k hk hkb => by subst hkb; omega)
  refine st_take rfl rfl (y_assign (v := iv 0) rfl rfl) rfl ?_
  obtain ⟨a238, ha239⟩ : ∃ a', a' = a220.put (some 3) (iv 0) := ⟨_, rfl⟩
  have hs240 : a238.tmps.size = 37 := by rw [ha239, put_size]; exact hs224
  have hd241 : a238.defers = [] := by rw [ha239, put_defers]; exact hd225
  have h242 := pn ha239 h226 (by decide)
  have h243 := pn ha239 h227 (by decide)
  have h244 : a238.eval (.tmp 3) = iv 0 := by rw [ha239]; exact put_same _ _ _ (by rw [hs224]; decide)
  show stepsTo _ _ _ _ _ (a220.put (some 3) (iv 0)) _
  rw [← ha239]
  refine st_nil (hK219 _ _ ?_)
  refine wp_ret (ret_k hd241 (v := .tuple #[nv (Nm.mk ((cleanV v).nk) ((cleanV v).nn)), iv 0]) (res_ct rfl h242 h244 (l_two Try.isAgg23 Try.sizeOf23 hb232)) ?_)
  refine ⟨?_, hN237⟩
  show Ending.returned (.tuple #[nv (Nm.mk ((cleanV v).nk) ((cleanV v).nn)), iv 0]) = Ending.returned (.tuple #[nv ((numberV v).1), iv ((numberV v).2)])
  first | rfl | (simp only [numberV, ht82, ht128, ht172, ht217, bsm] <;> rfl) | (simp [numberV, ht82, ht128, ht172, ht217]; done) | (exfalso; omega)
  have ht217d := of_decide_eq_false ht217
  have hv245 := hB h211 ht217
  refine wp_cond_false hv245 ?_
  refine wp_seq_k fun K246 hK246 => ?_
  refine wp_g0 [true, true] [] 37
    [ve (.bool (decide (((cleanV v).k) = 4))),
     ve (.bool (decide (((cleanV v).k) = 4)))] hs206 (.eq (.eq (.nil))) ?_ ?_
  refine .o1 (tk rfl rfl fun _ w hn k => ⟨_, v_bin rfl (k.fx 9 h210) rfl (fun _ => rfl) (r_eql rfl), rfl⟩) ?_
  refine .o1 (tk rfl rfl fun _ w hn k => ⟨_, v_assign rfl (k.eq1 0 24 rfl), rfl⟩) ?_
  exact .nil
  intro a247 w248 hn249 ha250
  obtain ⟨hs251, hd252, hN261⟩ := aft ha250 hs206 hd207 hN216 hn249
  have h253 := ha250.fx 1 h208
  have h254 := ha250.fx 2 h209
  have h255 := ha250.fx 9 h210
  have h256 := ha250.ge 1 23 rfl
  have hb257 := hb212.new_ hn249
  have hb258 := hb213.new_ hn249
  have hr259 := hr214.new_ hn249
  have hr260 := hr215.new_ hn249
  refine st_nil (hK246 _ _ ?_)
  rcases Bool.eq_false_or_eq_true (decide (((cleanV v).k) = 4)) with ht262 | ht262
  have ht262d := of_decide_eq_true ht262
  have hv263 := hB h256 ht262
  refine wp_cond_true hv263 ?_
  refine wp_seq_k fun K264 hK264 => ?_
  refine wp_g0 [true, false, false] [(1, false), (2, true)] 37
    [ve (nv (Nm.mk 0 0)),
     vt,
     vt] hs251 (.eq (.tt (.tt (.nil)))) ?_ ?_
  refine .o1 (tk rfl rfl fun _ w hn k => ⟨_, v_build (ps := []) rfl parts0 (by kernel_rfl), rfl⟩) ?_
  refine .off ?_
  refine .off ?_
  exact .nil
  intro a265 w266 hn267 ha268
  obtain ⟨hs269, hd270, hN274⟩ := aft ha268 hs251 hd252 hN261 hn267
  have h271 := ha268.fx 2 h254
  have h272 := ha268.ge 0 25 rfl
  have hb273 := hb258.new_ hn267
  obtain ⟨w275, -, hst276, hb277, hu278, hf279⟩ := s_two (v0 := iv 0) (v1 := iv 0) Try.sizeOf23 rfl rfl rfl hb273
  refine st_act rfl rfl fun K280 hL281 => a_store' rfl h271 h272 hst276 (hL281 _ _ trivial ?_)
  have hN282 := hN274.trans hu278 (fun k hk hkb => by subst hkb; omega)
  refine st_take rfl rfl (y_assign (v := iv 1) rfl rfl) rfl ?_
  obtain ⟨a283, ha284⟩ : ∃ a', a' = a265.put (some 3) (iv 1) := ⟨_, rfl⟩
  have hs285 : a283.tmps.size = 37 := by rw [ha284, put_size]; exact hs269
  have hd286 : a283.defers = [] := by rw [ha284, put_defers]; exact hd270
  have h287 := pn ha284 h271 (by decide)
  have h288 := pn ha284 h272 (by decide)
  have h289 : a283.eval (.tmp 3) = iv 1 := by rw [ha284]; exact put_same _ _ _ (by rw [hs269]; decide)
  show stepsTo _ _ _ _ _ (a265.put (some 3) (iv 1)) _
  rw [← ha284]
  refine st_nil (hK264 _ _ ?_)
  refine wp_ret (ret_k hd286 (v := .tuple #[nv (Nm.mk 0 0), iv 1]) (res_ct rfl h287 h289 (l_two Try.isAgg23 Try.sizeOf23 hb277)) ?_)
  refine ⟨?_, hN282⟩
  show Ending.returned (.tuple #[nv (Nm.mk 0 0), iv 1]) = Ending.returned (.tuple #[nv ((numberV v).1), iv ((numberV v).2)])
  first | rfl | (simp only [numberV, ht82, ht128, ht172, ht217, ht262, bsm] <;> rfl) | (simp [numberV, ht82, ht128, ht172, ht217, ht262]; done) | (exfalso; omega)
  have ht262d := of_decide_eq_false ht262
  have hv290 := hB h256 ht262
  refine wp_cond_false hv290 ?_
  refine wp_seq_k fun K291 hK291 => ?_
  refine wp_g0 [true, true] [] 37
    [ve (.bool (decide (((cleanV v).k) = 5))),
     ve (.bool (decide (((cleanV v).k) = 5)))] hs251 (.eq (.eq (.nil))) ?_ ?_
  refine .o1 (tk rfl rfl fun _ w hn k => ⟨_, v_bin rfl (k.fx 9 h255) rfl (fun _ => rfl) (r_eql rfl), rfl⟩) ?_
  refine .o1 (tk rfl rfl fun _ w hn k => ⟨_, v_assign rfl (k.eq1 0 27 rfl), rfl⟩) ?_
  exact .nil
  intro a292 w293 hn294 ha295
  obtain ⟨hs296, hd297, hN305⟩ := aft ha295 hs251 hd252 hN261 hn294
  have h298 := ha295.fx 1 h253
  have h299 := ha295.fx 2 h254
  have h300 := ha295.ge 1 26 rfl
  have hb301 := hb257.new_ hn294
  have hb302 := hb258.new_ hn294
  have hr303 := hr259.new_ hn294
  have hr304 := hr260.new_ hn294
  refine st_nil (hK291 _ _ ?_)
  rcases Bool.eq_false_or_eq_true (decide (((cleanV v).k) = 5)) with ht306 | ht306
  have ht306d := of_decide_eq_true ht306
  have hv307 := hB h300 ht306
  refine wp_cond_true hv307 ?_
  refine wp_seq_k fun K308 hK308 => ?_
  refine wp_g [true, true, true, true, true, true, true, false, false] [5] [(7, false), (8, true)] 37
    [ve (.pointer (some ⟨q9, 5, none⟩)),
     ve (sv A33 ((cleanV v).s) cc34),
     ve (.tuple #[nv ((numT ((cleanV v).s)).1), .bool ((numT ((cleanV v).s)).2)]),
     ve (.tuple #[nv ((numT ((cleanV v).s)).1), .bool ((numT ((cleanV v).s)).2)]),
     ve (nv ((numT ((cleanV v).s)).1)),
     ve (.bool ((numT ((cleanV v).s)).2)),
     IsNew w293 23 [iv 0, iv 0],
     vt,
     vt]
    [6] (newsCons (fun v w h => IsNew.old h) newsNil) hs296 (.eq (.eq (.eq (.eq (.eq (.eq (.nw (.tt (.tt (.nil)))))))))) ?_ ?_ ?_
  refine .o1 (tk rfl rfl fun _ w hn k => ⟨_, v_field rfl (k.fx 1 h298) (fun w => rfl), rfl⟩) ?_
  refine .o1 (tk rfl rfl fun _ w hn k => ⟨_, v_load rfl (k.eq1 0 29 rfl) (l_one Try.isAgg27 ((hb301.new_ hn).cell 5)), rfl⟩) ?_
  refine .o1 (ck rfl rfl rfl (fun _ w hn k => ⟨#[sv A33 ((cleanV v).s) cc34], args1 (k.eq1 1 30 rfl), fun _ => by kernel_rfl, tnumber_c _ ((cleanV v).s) _ _ (hr304.new_ hn) hvv.clean.units⟩) fun _ => rfl) ?_
  refine .o1 (tk rfl rfl fun _ w hn k => ⟨_, v_move rfl (k.eq1 2 31 rfl), rfl⟩) ?_
  refine .o1 (tk rfl rfl fun _ w hn k => ⟨_, v_extract rfl (k.eq1 3 28 rfl) rfl, rfl⟩) ?_
  refine .o3 ?_
  refine .o2 (step_allocN (cs := [iv 0, iv 0]) (t := 23) rfl (noG rfl) (fun _ w hn k => rfl) (fun q _ hq hb => ⟨q, rfl, hq, hb⟩)) ?_
  refine .off ?_
  refine .off ?_
  exact .nil
  intro i h
  simp only [List.contains_eq_mem, List.mem_cons, List.not_mem_nil, or_false, decide_eq_true_eq] at h
  subst h
  exact eager_take rfl rfl fun _ w hn k => ⟨.bool ((numT ((cleanV v).s)).2), fun w => v_extract rfl (k.eq1 3 28 rfl) rfl, rfl⟩
  intro a309 w310 hn311 ha312
  obtain ⟨hs313, hd314, hN325⟩ := aft ha312 hs296 hd297 hN305 hn311
  have h315 := ha312.fx 2 h299
  have h316 := ha312.ge 4 32 rfl
  have h317 := ha312.ge 5 33 rfl
  obtain ⟨q319, h318, hq320, hb321⟩ : IsNew _ _ _ _ _ := ha312.got 6 4 rfl (by kernel_rfl)
  have hb322 := hb302.new_ hn311
  have hne323 : q13 ≠ q319 := by have h1 := hb302.lt; have h2 := hq320; omega
  have hq324 := Nat.le_trans hN305.size hq320
  obtain ⟨w326, -, hst327, hb328, hu329, hf330⟩ := s_two (v0 := iv ((numT ((cleanV v).s)).1.k)) (v1 := iv ((numT ((cleanV v).s)).1.n)) Try.sizeOf23 rfl rfl rfl hb321
  refine st_act rfl rfl fun K331 hL332 => a_store' rfl h318 h316 hst327 (hL332 _ _ trivial ?_)
  have hb333 := hf330 _ _ _ (hne323) hb322
  have hN334 := hN325.trans hu329 (fun k hk hkb => by subst hkb; omega)
  refine st_take rfl rfl (y_assign (v := .bool ((numT ((cleanV v).s)).2)) rfl h317) rfl ?_
  obtain ⟨a335, ha336⟩ : ∃ a', a' = a309.put (some 5) (.bool ((numT ((cleanV v).s)).2)) := ⟨_, rfl⟩
  have hs337 : a335.tmps.size = 37 := by rw [ha336, put_size]; exact hs313
  have hd338 : a335.defers = [] := by rw [ha336, put_defers]; exact hd314
  have h339 := pn ha336 h315 (by decide)
  have h340 := pn ha336 h316 (by decide)
  have h341 := pn ha336 h317 (by decide)
  have h342 := pn ha336 h318 (by decide)
  have h343 : a335.eval (.tmp 5) = .bool ((numT ((cleanV v).s)).2) := by rw [ha336]; exact put_same _ _ _ (by rw [hs313]; decide)
  show stepsTo _ _ _ _ _ (a309.put (some 5) (.bool ((numT ((cleanV v).s)).2))) _
  rw [← ha336]
  refine st_nil (hK308 _ _ ?_)
  refine wp_seq_k fun K344 hK344 => ?_
  refine wp_g0 [true] [] 37
    [ve (.bool ((numT ((cleanV v).s)).2))] hs337 (.eq (.nil)) ?_ ?_
  refine .o1 (tk rfl rfl fun _ w hn k => ⟨_, v_move rfl (k.fx 5 h343), rfl⟩) ?_
  exact .nil
  intro a345 w346 hn347 ha348
  obtain ⟨hs349, hd350, hN356⟩ := aft ha348 hs337 hd338 hN334 hn347
  have h351 := ha348.fx 2 h339
  have h352 := ha348.fx 4 h342
  have h353 := ha348.ge 0 34 rfl
  have hb354 := hb333.new_ hn347
  have hb355 := hb328.new_ hn347
  refine st_nil (hK344 _ _ ?_)
  rcases Bool.eq_false_or_eq_true ((numT ((cleanV v).s)).2) with ht357 | ht357
  have hv358 := hB h353 ht357
  refine wp_cond_true hv358 ?_
  refine wp_seq_k fun K359 hK359 => ?_
  refine wp_g0 [true, false, false] [(1, false), (2, true)] 37
    [ve (nv ((numT ((cleanV v).s)).1)),
     vt,
     vt] hs349 (.eq (.tt (.tt (.nil)))) ?_ ?_
  refine .o1 (tk rfl rfl fun _ w hn k => ⟨_, v_load rfl (k.fx 4 h352) (l_two Try.isAgg23 Try.sizeOf23 (hb355.new_ hn)), rfl⟩) ?_
  refine .off ?_
  refine .off ?_
  exact .nil
  intro a360 w361 hn362 ha363
  obtain ⟨hs364, hd365, hN369⟩ := aft ha363 hs349 hd350 hN356 hn362
  have h366 := ha363.fx 2 h351
  have h367 := ha363.ge 0 35 rfl
  have hb368 := hb354.new_ hn362
  obtain ⟨w370, -, hst371, hb372, hu373, hf374⟩ := s_two (v0 := iv ((numT ((cleanV v).s)).1.k)) (v1 := iv ((numT ((cleanV v).s)).1.n)) Try.sizeOf23 rfl rfl rfl hb368
  refine st_act rfl rfl fun K375 hL376 => a_store' rfl h366 h367 hst371 (hL376 _ _ trivial ?_)
  have hN377 := hN369.trans hu373 (fun k hk hkb => by subst hkb; omega)
  refine st_take rfl rfl (y_assign (v := iv 0) rfl rfl) rfl ?_
  obtain ⟨a378, ha379⟩ : ∃ a', a' = a360.put (some 3) (iv 0) := ⟨_, rfl⟩
  have hs380 : a378.tmps.size = 37 := by rw [ha379, put_size]; exact hs364
  have hd381 : a378.defers = [] := by rw [ha379, put_defers]; exact hd365
  have h382 := pn ha379 h366 (by decide)
  have h383 := pn ha379 h367 (by decide)
  have h384 : a378.eval (.tmp 3) = iv 0 := by rw [ha379]; exact put_same _ _ _ (by rw [hs364]; decide)
  show stepsTo _ _ _ _ _ (a360.put (some 3) (iv 0)) _
  rw [← ha379]
  refine st_nil (hK359 _ _ ?_)
  refine wp_ret (ret_k hd381 (v := .tuple #[nv ((numT ((cleanV v).s)).1), iv 0]) (res_ct rfl h382 h384 (l_two Try.isAgg23 Try.sizeOf23 hb372)) ?_)
  refine ⟨?_, hN377⟩
  show Ending.returned (.tuple #[nv ((numT ((cleanV v).s)).1), iv 0]) = Ending.returned (.tuple #[nv ((numberV v).1), iv ((numberV v).2)])
  first | rfl | (simp only [numberV, ht82, ht128, ht172, ht217, ht262, ht306, ht357, bsm] <;> rfl) | (simp [numberV, ht82, ht128, ht172, ht217, ht262, ht306, ht357]; done) | (exfalso; omega)
  have hv385 := hB h353 ht357
  refine wp_cond_false hv385 ?_
  refine wp_skip ?_
  refine hK50 _ _ ?_
  refine wp_seq_k fun K386 hK386 => ?_
  refine wp_g0 [true, false, false] [(1, false), (2, true)] 37
    [ve (nv (Nm.mk 0 0)),
     vt,
     vt] hs349 (.eq (.tt (.tt (.nil)))) ?_ ?_
  refine .o1 (tk rfl rfl fun _ w hn k => ⟨_, v_build (ps := []) rfl parts0 (by kernel_rfl), rfl⟩) ?_
  refine .off ?_
  refine .off ?_
  exact .nil
  intro a387 w388 hn389 ha390
  obtain ⟨hs391, hd392, hN396⟩ := aft ha390 hs349 hd350 hN356 hn389
  have h393 := ha390.fx 2 h351
  have h394 := ha390.ge 0 36 rfl
  have hb395 := hb354.new_ hn389
  obtain ⟨w397, -, hst398, hb399, hu400, hf401⟩ := s_two (v0 := iv 0) (v1 := iv 0) Try.sizeOf23 rfl rfl rfl hb395
  refine st_act rfl rfl fun K402 hL403 => a_store' rfl h393 h394 hst398 (hL403 _ _ trivial ?_)
  have hN404 := hN396.trans hu400 (fun k hk hkb => by subst hkb; omega)
  refine st_take rfl rfl (y_assign (v := iv 3) rfl rfl) rfl ?_
  obtain ⟨a405, ha406⟩ : ∃ a', a' = a387.put (some 3) (iv 3) := ⟨_, rfl⟩
  have hs407 : a405.tmps.size = 37 := by rw [ha406, put_size]; exact hs391
  have hd408 : a405.defers = [] := by rw [ha406, put_defers]; exact hd392
  have h409 := pn ha406 h393 (by decide)
  have h410 := pn ha406 h394 (by decide)
  have h411 : a405.eval (.tmp 3) = iv 3 := by rw [ha406]; exact put_same _ _ _ (by rw [hs391]; decide)
  show stepsTo _ _ _ _ _ (a387.put (some 3) (iv 3)) _
  rw [← ha406]
  refine st_nil (hK386 _ _ ?_)
  refine wp_ret (ret_k hd408 (v := .tuple #[nv (Nm.mk 0 0), iv 3]) (res_ct rfl h409 h411 (l_two Try.isAgg23 Try.sizeOf23 hb399)) ?_)
  refine ⟨?_, hN404⟩
  show Ending.returned (.tuple #[nv (Nm.mk 0 0), iv 3]) = Ending.returned (.tuple #[nv ((numberV v).1), iv ((numberV v).2)])
  first | rfl | (simp only [numberV, ht82, ht128, ht172, ht217, ht262, ht306, ht357, bsm] <;> rfl) | (simp [numberV, ht82, ht128, ht172, ht217, ht262, ht306, ht357]; done) | (exfalso; omega)
  have ht306d := of_decide_eq_false ht306
  have hv412 := hB h300 ht306
  refine wp_cond_false hv412 ?_
  refine wp_skip ?_
  refine hK50 _ _ ?_
  refine wp_seq_k fun K413 hK413 => ?_
  refine wp_g0 [true, false, false] [(1, false), (2, true)] 37
    [ve (nv (Nm.mk 0 0)),
     vt,
     vt] hs296 (.eq (.tt (.tt (.nil)))) ?_ ?_
  refine .o1 (tk rfl rfl fun _ w hn k => ⟨_, v_build (ps := []) rfl parts0 (by kernel_rfl), rfl⟩) ?_
  refine .off ?_
  refine .off ?_
  exact .nil
  intro a414 w415 hn416 ha417
  obtain ⟨hs418, hd419, hN423⟩ := aft ha417 hs296 hd297 hN305 hn416
  have h420 := ha417.fx 2 h299
  have h421 := ha417.ge 0 36 rfl
  have hb422 := hb302.new_ hn416
  obtain ⟨w424, -, hst425, hb426, hu427, hf428⟩ := s_two (v0 := iv 0) (v1 := iv 0) Try.sizeOf23 rfl rfl rfl hb422
  refine st_act rfl rfl fun K429 hL430 => a_store' rfl h420 h421 hst425 (hL430 _ _ trivial ?_)
  have hN431 := hN423.trans hu427 (fun k hk hkb => by subst hkb; omega)
  refine st_take rfl rfl (y_assign (v := iv 3) rfl rfl) rfl ?_
  obtain ⟨a432, ha433⟩ : ∃ a', a' = a414.put (some 3) (iv 3) := ⟨_, rfl⟩
  have hs434 : a432.tmps.size = 37 := by rw [ha433, put_size]; exact hs418
  have hd435 : a432.defers = [] := by rw [ha433, put_defers]; exact hd419
  have h436 := pn ha433 h420 (by decide)
  have h437 := pn ha433 h421 (by decide)
  have h438 : a432.eval (.tmp 3) = iv 3 := by rw [ha433]; exact put_same _ _ _ (by rw [hs418]; decide)
  show stepsTo _ _ _ _ _ (a414.put (some 3) (iv 3)) _
  rw [← ha433]
  refine st_nil (hK413 _ _ ?_)
  refine wp_ret (ret_k hd435 (v := .tuple #[nv (Nm.mk 0 0), iv 3]) (res_ct rfl h436 h438 (l_two Try.isAgg23 Try.sizeOf23 hb426)) ?_)
  refine ⟨?_, hN431⟩
  show Ending.returned (.tuple #[nv (Nm.mk 0 0), iv 3]) = Ending.returned (.tuple #[nv ((numberV v).1), iv ((numberV v).2)])
  first | rfl | (simp only [numberV, ht82, ht128, ht172, ht217, ht262, ht306, bsm] <;> rfl) | (simp [numberV, ht82, ht128, ht172, ht217, ht262, ht306]; done) | (exfalso; omega)
set_option maxHeartbeats 4000000 in
set_option maxRecDepth 100000 in
theorem cindex_c (v : Vl) (Av : Option Addr) (cv : Nat) (Bv : Option Addr) (dv : Nat) (w : World) (hmv : SRow w .u32 Av v.mag cv) (hsv : SRow w .u16 Bv v.s dv) (hvv : VOk v) : Calls Try.prog 13 #[vv v Av cv Bv dv] w (IsRet (.tuple #[iv ((indexV v).1), iv ((indexV v).2)]) w) := by
  refine enter_abs Try.func13 rfl fun a0 hs0 hd0 hp => ?_
  have hs0 : a0.tmps.size = 29 := hs0
  have hN0 : New w w := Upd.refl _ _
  have hp0 : a0.eval (.tmp 0) = vv v Av cv Bv dv := hp 0 _ rfl
  refine wp_seq_k fun K1 hK1 => ?_
  refine wp_g [true, true, true] [] [] 29
    [IsNew w 29 [iv v.k, iv v.nk, iv v.nn, .bool v.neg, sv Av v.mag cv, sv Bv v.s dv, iv v.ref],
     ve (iv 0),
     ve (iv 0)]
    [0] (newsCons (fun v w h => IsNew.old h) newsNil) hs0 (.nw (.eq (.eq (.nil)))) ?_ (fun i h => by cases h) ?_
  refine .o2 (step_allocN (cs := [iv v.k, iv v.nk, iv v.nn, .bool v.neg, sv Av v.mag cv, sv Bv v.s dv, iv v.ref]) (t := 29) rfl (noG rfl) (fun _ w hn k => v_box rfl (k.fx 0 hp0) (fun w => rfl)) (fun q _ hq hb => ⟨q, rfl, hq, hb⟩)) ?_
  refine .o1 (tk rfl rfl fun _ w hn k => ⟨_, v_assign rfl rfl, rfl⟩) ?_
  refine .o1 (tk rfl rfl fun _ w hn k => ⟨_, v_assign rfl rfl, rfl⟩) ?_
  exact .nil
  intro a2 w3 hn4 ha5
  obtain ⟨hs6, hd7, hN13⟩ := aft ha5 hs0 hd0 hN0 hn4
  obtain ⟨q9, h8, hq10, hb11⟩ : IsNew _ _ _ _ _ := ha5.got 0 1 rfl (by kernel_rfl)
  have hq12 := Nat.le_trans hN0.size hq10
  refine st_nil (hK1 _ _ ?_)
  refine wp_seq_k fun K14 hK14 => ?_
  refine wp_g0 [true, true, false] [(2, false)] 29
    [ve (vv v Av cv Bv dv),
     (fun (v_ : Value) (W : World) => ∃ (A5 : Option Addr) (c6 : Nat) (A7 : Option Addr) (c8 : Nat), v_ = vv (cleanV v) A5 c6 A7 c8 ∧ SRow W .u32 A5 ((cleanV v).mag) c6 ∧ SRow W .u16 A7 ((cleanV v).s) c8),
     vt] hs6 (.eq (.cons (fun v W W' hn ⟨A5, c6, A7, c8, he, h0, h1⟩ => ⟨A5, c6, A7, c8, he, h0.new_ hn, h1.new_ hn⟩) (.tt (.nil)))) ?_ ?_
  refine .o1 (tk rfl rfl fun _ w hn k => ⟨_, v_load rfl (k.fx 1 h8) (l_agg Try.isAgg29 Try.sizeOf29 (hb11.new_ hn) rfl), rfl⟩) ?_
  refine .o1 (tkC rfl (noG rfl) rfl fun _ w hn k => (by
        refine ⟨#[vv v Av cv Bv dv], _, args1 (k.eq1 0 8 rfl), fun w => by kernel_rfl, clean_c v _ _ _ _ _ (hmv.new_ (hN13.transNew hn)) (hsv.new_ (hN13.transNew hn)), ?_⟩
        rintro e w' ⟨A1, c2, A3, c4, rfl, hmo0, hmo1, hm⟩
        exact ⟨_, rfl, hm, ⟨A1, c2, A3, c4, rfl, hmo0, hmo1⟩⟩)) ?_
  refine .off ?_
  exact .nil
  intro a15 w16 hn17 ha18
  obtain ⟨hs19, hd20, hN30⟩ := aft ha18 hs6 hd7 hN13 hn17
  have h21 := ha18.fx 1 h8
  obtain ⟨A23, cc24, A26, cc27, h22, hr25, hr28⟩ : (fun (v_ : Value) (W : World) => ∃ (A5 : Option Addr) (c6 : Nat) (A7 : Option Addr) (c8 : Nat), v_ = vv (cleanV v) A5 c6 A7 c8 ∧ SRow W .u32 A5 ((cleanV v).mag) c6 ∧ SRow W .u16 A7 ((cleanV v).s) c8) _ _ := ha18.got 1 9 rfl (by kernel_rfl)
  have h22 : a15.eval (.tmp 9) = vv (cleanV v) A23 cc24 A26 cc27 := h22
  have hb29 := hb11.new_ hn17
  obtain ⟨w31, hst32, hb330, hu34, hf35⟩ := s_many (P := Try.prog) (t := 29) (i := 0) [iv ((cleanV v).k), iv ((cleanV v).nk), iv ((cleanV v).nn), .bool ((cleanV v).neg), sv A23 ((cleanV v).mag) cc24, sv A26 ((cleanV v).s) cc27, iv ((cleanV v).ref)] Try.sizeOf29 rfl rfl rfl hb29 (Nat.le_of_ble_eq_true rfl)
  have hb33 : Blk w31 q9 29 [iv ((cleanV v).k), iv ((cleanV v).nk), iv ((cleanV v).nn), .bool ((cleanV v).neg), sv A23 ((cleanV v).mag) cc24, sv A26 ((cleanV v).s) cc27, iv ((cleanV v).ref)] := hb330
  refine st_act rfl rfl fun K36 hL37 => a_store' rfl h21 h22 hst32 (hL37 _ _ trivial ?_)
  have hr38 := hr25.far hb29 hu34 (by first | rfl | decide | simp [notK])
  have hr39 := hr28.far hb29 hu34 (by first | rfl | decide | simp [notK])
  have hN40 := hN30.trans hu34 (fun k hk hkb => by subst hkb; omega)
  refine st_nil (hK14 _ _ ?_)
  refine wp_seq_k fun K41 hK41 => ?_
  refine wp_seq_k fun K42 hK42 => ?_
  refine wp_g0 [true, true, true] [] 29
    [ve (pv q9),
     ve (iv ((cleanV v).k)),
     ve (.bool (decide (((cleanV v).k) = 0)))] hs19 (.eq (.eq (.eq (.nil)))) ?_ ?_
  refine .o1 (tk rfl rfl fun _ w hn k => ⟨_, v_field rfl (k.fx 1 h21) (fun w => rfl), rfl⟩) ?_
  refine .o1 (tk rfl rfl fun _ w hn k => ⟨_, v_load rfl (k.eq1 0 10 rfl) (l_one Try.isAgg3 ((hb33.new_ hn).cell 0)), rfl⟩) ?_
  refine .o1 (tk rfl rfl fun _ w hn k => ⟨_, v_bin rfl (k.eq1 1 11 rfl) rfl (fun _ => rfl) (r_eql rfl), rfl⟩) ?_
  exact .nil
  intro a43 w44 hn45 ha46
  obtain ⟨hs47, hd48, hN54⟩ := aft ha46 hs19 hd20 hN40 hn45
  have h49 := ha46.fx 1 h21
  have h50 := ha46.ge 2 12 rfl
  have hb51 := hb33.new_ hn45
  have hr52 := hr38.new_ hn45
  have hr53 := hr39.new_ hn45
  refine st_nil (hK42 _ _ ?_)
  rcases Bool.eq_false_or_eq_true (decide (((cleanV v).k) = 0)) with ht55 | ht55
  have ht55d := of_decide_eq_true ht55
  have hv56 := hB h50 ht55
  refine wp_cond_true hv56 ?_
  refine wp_seq_k fun K57 hK57 => ?_
  refine wp_g0 [true, true] [] 29
    [ve (iv 0),
     ve (iv 0)] hs47 (.eq (.eq (.nil))) ?_ ?_
  refine .o1 (tk rfl rfl fun _ w hn k => ⟨_, v_assign rfl rfl, rfl⟩) ?_
  refine .o1 (tk rfl rfl fun _ w hn k => ⟨_, v_assign rfl rfl, rfl⟩) ?_
  exact .nil
  intro a58 w59 hn60 ha61
  obtain ⟨hs62, hd63, hN66⟩ := aft ha61 hs47 hd48 hN54 hn60
  have h64 := ha61.ge 0 2 rfl
  have h65 := ha61.ge 1 3 rfl
  refine st_nil (hK57 _ _ ?_)
  refine wp_ret (ret_k hd63 (v := .tuple #[iv 0, iv 0]) (res_tt rfl h64 h65 _) ?_)
  refine ⟨?_, hN66⟩
  show Ending.returned (.tuple #[iv 0, iv 0]) = Ending.returned (.tuple #[iv ((indexV v).1), iv ((indexV v).2)])
  first | rfl | (simp only [indexV, ht55, bsm] <;> rfl) | (simp [indexV, ht55]; done) | (exfalso; omega)
  have ht55d := of_decide_eq_false ht55
  have hv67 := hB h50 ht55
  refine wp_cond_false hv67 ?_
  refine wp_skip ?_
  refine hK41 _ _ ?_
  refine wp_seq_k fun K68 hK68 => ?_
  refine wp_g [true, true, true, true, true, true, false, false] [4] [(6, false), (7, true)] 29
    [ve (vv (cleanV v) A23 cc24 A26 cc27),
     ve (.tuple #[nv ((numberV (cleanV v)).1), iv ((numberV (cleanV v)).2)]),
     ve (.tuple #[nv ((numberV (cleanV v)).1), iv ((numberV (cleanV v)).2)]),
     ve (nv ((numberV (cleanV v)).1)),
     ve (iv ((numberV (cleanV v)).2)),
     IsNew w44 23 [iv 0, iv 0],
     vt,
     vt]
    [5] (newsCons (fun v w h => IsNew.old h) newsNil) hs47 (.eq (.eq (.eq (.eq (.eq (.nw (.tt (.tt (.nil))))))))) ?_ ?_ ?_
  refine .o1 (tk rfl rfl fun _ w hn k => ⟨_, v_load rfl (k.fx 1 h49) (l_agg Try.isAgg29 Try.sizeOf29 (hb51.new_ hn) rfl), rfl⟩) ?_
  refine .o1 (ck rfl rfl rfl (fun _ w hn k => ⟨#[vv (cleanV v) A23 cc24 A26 cc27], args1 (k.eq1 0 14 rfl), fun _ => by kernel_rfl, cnumber_c (cleanV v) _ _ _ _ _ (hr52.new_ hn) (hr53.new_ hn) hvv.clean⟩) fun _ => rfl) ?_
  refine .o1 (tk rfl rfl fun _ w hn k => ⟨_, v_move rfl (k.eq1 1 15 rfl), rfl⟩) ?_
  refine .o1 (tk rfl rfl fun _ w hn k => ⟨_, v_extract rfl (k.eq1 2 13 rfl) rfl, rfl⟩) ?_
  refine .o3 ?_
  refine .o2 (step_allocN (cs := [iv 0, iv 0]) (t := 23) rfl (noG rfl) (fun _ w hn k => rfl) (fun q _ hq hb => ⟨q, rfl, hq, hb⟩)) ?_
  refine .off ?_
  refine .off ?_
  exact .nil
  intro i h
  simp only [List.contains_eq_mem, List.mem_cons, List.not_mem_nil, or_false, decide_eq_true_eq] at h
  subst h
  exact eager_take rfl rfl fun _ w hn k => ⟨iv ((numberV (cleanV v)).2), fun w => v_extract rfl (k.eq1 2 13 rfl) rfl, rfl⟩
  intro a69 w70 hn71 ha72
  obtain ⟨hs73, hd74, hN82⟩ := aft ha72 hs47 hd48 hN54 hn71
  have h75 := ha72.ge 3 16 rfl
  have h76 := ha72.ge 4 17 rfl
  obtain ⟨q78, h77, hq79, hb80⟩ : IsNew _ _ _ _ _ := ha72.got 5 4 rfl (by kernel_rfl)
  have hq81 := Nat.le_trans hN54.size hq79
  obtain ⟨w83, -, hst84, hb85, hu86, hf87⟩ := s_two (v0 := iv ((numberV (cleanV v)).1.k)) (v1 := iv ((numberV (cleanV v)).1.n)) Try.sizeOf23 rfl rfl rfl hb80
  refine st_act rfl rfl fun K88 hL89 => a_store' rfl h77 h75 hst84 (hL89 _ _ trivial ?_)
  have hN90 := hN82.trans hu86 (fun k hk hkb => by subst hkb; omega)
  refine st_take rfl rfl (y_assign (v := iv ((numberV (cleanV v)).2)) rfl h76) rfl ?_
  obtain ⟨a91, ha92⟩ : ∃ a', a' = a69.put (some 5) (iv ((numberV (cleanV v)).2)) := ⟨_, rfl⟩
  have hs93 : a91.tmps.size = 29 := by rw [ha92, put_size]; exact hs73
  have hd94 : a91.defers = [] := by rw [ha92, put_defers]; exact hd74
  have h95 := pn ha92 h75 (by decide)
  have h96 := pn ha92 h76 (by decide)
  have h97 := pn ha92 h77 (by decide)
  have h98 : a91.eval (.tmp 5) = iv ((numberV (cleanV v)).2) := by rw [ha92]; exact put_same _ _ _ (by rw [hs73]; decide)
  show stepsTo _ _ _ _ _ (a69.put (some 5) (iv ((numberV (cleanV v)).2))) _
  rw [← ha92]
  refine st_nil (hK68 _ _ ?_)
  refine wp_seq_k fun K99 hK99 => ?_
  refine wp_seq_k fun K100 hK100 => ?_
  rcases Bool.eq_false_or_eq_true (decide (((numberV (cleanV v)).2) = 0)) with ht101 | ht101
  have ht101d := of_decide_eq_true ht101
  refine wp_g0 [true, true] [] 29
    [ve (iv ((numberV (cleanV v)).2)),
     ve (.bool false)] hs93 (.eq (.eq (.nil))) ?_ ?_
  refine .o1 (tk rfl rfl fun _ w hn k => ⟨_, v_move rfl (k.fx 5 h98), rfl⟩) ?_
  refine .o1 (tk rfl rfl fun _ w hn k => ⟨_, v_bin rfl (k.eq1 0 18 rfl) rfl (fun _ => rfl) (r_neq ht101), rfl⟩) ?_
  exact .nil
  intro a102 w103 hn104 ha105
  obtain ⟨hs106, hd107, hN112⟩ := aft ha105 hs93 hd94 hN90 hn104
  have h108 := ha105.fx 4 h97
  have h109 := ha105.fx 5 h98
  have h110 := ha105.ge 1 19 rfl
  have hb111 := hb85.new_ hn104
  refine st_nil (hK100 _ _ ?_)
  refine wp_cond_false h110 ?_
  refine wp_skip ?_
  refine hK99 _ _ ?_
  refine wp_seq_k fun K113 hK113 => ?_
  refine wp_g0 [true, true, true, true, true, true, true] [] 29
    [ve (nv ((numberV (cleanV v)).1)),
     ve (.tuple #[iv ((indexM ((numberV (cleanV v)).1)).1), .bool ((indexM ((numberV (cleanV v)).1)).2)]),
     ve (.tuple #[iv ((indexM ((numberV (cleanV v)).1)).1), .bool ((indexM ((numberV (cleanV v)).1)).2)]),
     ve (iv ((indexM ((numberV (cleanV v)).1)).1)),
     ve (.bool ((indexM ((numberV (cleanV v)).1)).2)),
     ve (iv ((indexM ((numberV (cleanV v)).1)).1)),
     ve (.bool ((indexM ((numberV (cleanV v)).1)).2))] hs106 (.eq (.eq (.eq (.eq (.eq (.eq (.eq (.nil)))))))) ?_ ?_
  refine .o1 (tk rfl rfl fun _ w hn k => ⟨_, v_load rfl (k.fx 4 h108) (l_two Try.isAgg23 Try.sizeOf23 (hb111.new_ hn)), rfl⟩) ?_
  refine .o1 (ck rfl rfl rfl (fun _ w hn k => ⟨#[nv ((numberV (cleanV v)).1)], args1 (k.eq1 0 22 rfl), fun _ => by kernel_rfl, nindex_c ((numberV (cleanV v)).1) _ ⟩) fun _ => rfl) ?_
  refine .o1 (tk rfl rfl fun _ w hn k => ⟨_, v_move rfl (k.eq1 1 23 rfl), rfl⟩) ?_
  refine .o1 (tk rfl rfl fun _ w hn k => ⟨_, v_extract rfl (k.eq1 2 21 rfl) rfl, rfl⟩) ?_
  refine .o1 (tk rfl rfl fun _ w hn k => ⟨_, v_extract rfl (k.eq1 2 21 rfl) rfl, rfl⟩) ?_
  refine .o1 (tk rfl rfl fun _ w hn k => ⟨_, v_assign rfl (k.eq1 3 24 rfl), rfl⟩) ?_
  refine .o1 (tk rfl rfl fun _ w hn k => ⟨_, v_assign rfl (k.eq1 4 25 rfl), rfl⟩) ?_
  exact .nil
  intro a114 w115 hn116 ha117
  obtain ⟨hs118, hd119, hN122⟩ := aft ha117 hs106 hd107 hN112 hn116
  have h120 := ha117.ge 5 6 rfl
  have h121 := ha117.ge 6 7 rfl
  refine st_nil (hK113 _ _ ?_)
  refine wp_seq_k fun K123 hK123 => ?_
  refine wp_seq_k fun K124 hK124 => ?_
  refine wp_g0 [true, true] [] 29
    [ve (.bool ((indexM ((numberV (cleanV v)).1)).2)),
     ve (.bool (!((indexM ((numberV (cleanV v)).1)).2)))] hs118 (.eq (.eq (.nil))) ?_ ?_
  refine .o1 (tk rfl rfl fun _ w hn k => ⟨_, v_move rfl (k.fx 7 h121), rfl⟩) ?_
  refine .o1 (tk rfl rfl fun _ w hn k => ⟨_, v_not rfl (k.eq1 0 26 rfl), rfl⟩) ?_
  exact .nil
  intro a125 w126 hn127 ha128
  obtain ⟨hs129, hd130, hN133⟩ := aft ha128 hs118 hd119 hN122 hn127
  have h131 := ha128.fx 6 h120
  have h132 := ha128.ge 1 27 rfl
  refine st_nil (hK124 _ _ ?_)
  rcases Bool.eq_false_or_eq_true ((indexM ((numberV (cleanV v)).1)).2) with ht134 | ht134
  have hv135 : a125.eval (.tmp 27) = .bool false := h132.trans (congrArg Value.bool (by rw [ht134]; rfl))
  refine wp_cond_false hv135 ?_
  refine wp_skip ?_
  refine hK123 _ _ ?_
  refine wp_seq_k fun K136 hK136 => ?_
  refine wp_g0 [true, true, true] [] 29
    [ve (iv ((indexM ((numberV (cleanV v)).1)).1)),
     ve (iv ((indexM ((numberV (cleanV v)).1)).1)),
     ve (iv 0)] hs129 (.eq (.eq (.eq (.nil)))) ?_ ?_
  refine .o1 (tk rfl rfl fun _ w hn k => ⟨_, v_move rfl (k.fx 6 h131), rfl⟩) ?_
  refine .o1 (tk rfl rfl fun _ w hn k => ⟨_, v_assign rfl (k.eq1 0 28 rfl), rfl⟩) ?_
  refine .o1 (tk rfl rfl fun _ w hn k => ⟨_, v_assign rfl rfl, rfl⟩) ?_
  exact .nil
  intro a137 w138 hn139 ha140
  obtain ⟨hs141, hd142, hN145⟩ := aft ha140 hs129 hd130 hN133 hn139
  have h143 := ha140.ge 1 2 rfl
  have h144 := ha140.ge 2 3 rfl
  refine st_nil (hK136 _ _ ?_)
  refine wp_ret (ret_k hd142 (v := .tuple #[iv ((indexM ((numberV (cleanV v)).1)).1), iv 0]) (res_tt rfl h143 h144 _) ?_)
  refine ⟨?_, hN145⟩
  show Ending.returned (.tuple #[iv ((indexM ((numberV (cleanV v)).1)).1), iv 0]) = Ending.returned (.tuple #[iv ((indexV v).1), iv ((indexV v).2)])
  first | rfl | (simp only [indexV, ht55, ht101, ht134, bsm] <;> rfl) | (simp [indexV, ht55, ht101, ht134]; done) | (exfalso; omega)
  have hv146 : a125.eval (.tmp 27) = .bool true := h132.trans (congrArg Value.bool (by rw [ht134]; rfl))
  refine wp_cond_true hv146 ?_
  refine wp_seq_k fun K147 hK147 => ?_
  refine wp_g0 [true, true] [] 29
    [ve (iv 0),
     ve (iv 2)] hs129 (.eq (.eq (.nil))) ?_ ?_
  refine .o1 (tk rfl rfl fun _ w hn k => ⟨_, v_assign rfl rfl, rfl⟩) ?_
  refine .o1 (tk rfl rfl fun _ w hn k => ⟨_, v_assign rfl rfl, rfl⟩) ?_
  exact .nil
  intro a148 w149 hn150 ha151
  obtain ⟨hs152, hd153, hN156⟩ := aft ha151 hs129 hd130 hN133 hn150
  have h154 := ha151.ge 0 2 rfl
  have h155 := ha151.ge 1 3 rfl
  refine st_nil (hK147 _ _ ?_)
  refine wp_ret (ret_k hd153 (v := .tuple #[iv 0, iv 2]) (res_tt rfl h154 h155 _) ?_)
  refine ⟨?_, hN156⟩
  show Ending.returned (.tuple #[iv 0, iv 2]) = Ending.returned (.tuple #[iv ((indexV v).1), iv ((indexV v).2)])
  first | rfl | (simp only [indexV, ht55, ht101, ht134, bsm] <;> rfl) | (simp [indexV, ht55, ht101, ht134]; done) | (exfalso; omega)
  have ht101d := of_decide_eq_false ht101
  refine wp_g0 [true, true] [] 29
    [ve (iv ((numberV (cleanV v)).2)),
     ve (.bool true)] hs93 (.eq (.eq (.nil))) ?_ ?_
  refine .o1 (tk rfl rfl fun _ w hn k => ⟨_, v_move rfl (k.fx 5 h98), rfl⟩) ?_
  refine .o1 (tk rfl rfl fun _ w hn k => ⟨_, v_bin rfl (k.eq1 0 18 rfl) rfl (fun _ => rfl) (r_neq ht101), rfl⟩) ?_
  exact .nil
  intro a157 w158 hn159 ha160
  obtain ⟨hs161, hd162, hN167⟩ := aft ha160 hs93 hd94 hN90 hn159
  have h163 := ha160.fx 4 h97
  have h164 := ha160.fx 5 h98
  have h165 := ha160.ge 1 19 rfl
  have hb166 := hb85.new_ hn159
  refine st_nil (hK100 _ _ ?_)
  refine wp_cond_true h165 ?_
  refine wp_seq_k fun K168 hK168 => ?_
  refine wp_g0 [true, true, true] [] 29
    [ve (iv ((numberV (cleanV v)).2)),
     ve (iv 0),
     ve (iv ((numberV (cleanV v)).2))] hs161 (.eq (.eq (.eq (.nil)))) ?_ ?_
  refine .o1 (tk rfl rfl fun _ w hn k => ⟨_, v_move rfl (k.fx 5 h164), rfl⟩) ?_
  refine .o1 (tk rfl rfl fun _ w hn k => ⟨_, v_assign rfl rfl, rfl⟩) ?_
  refine .o1 (tk rfl rfl fun _ w hn k => ⟨_, v_assign rfl (k.eq1 0 20 rfl), rfl⟩) ?_
  exact .nil
  intro a169 w170 hn171 ha172
  obtain ⟨hs173, hd174, hN177⟩ := aft ha172 hs161 hd162 hN167 hn171
  have h175 := ha172.ge 1 2 rfl
  have h176 := ha172.ge 2 3 rfl
  refine st_nil (hK168 _ _ ?_)
  refine wp_ret (ret_k hd174 (v := .tuple #[iv 0, iv ((numberV (cleanV v)).2)]) (res_tt rfl h175 h176 _) ?_)
  refine ⟨?_, hN177⟩
  show Ending.returned (.tuple #[iv 0, iv ((numberV (cleanV v)).2)]) = Ending.returned (.tuple #[iv ((indexV v).1), iv ((indexV v).2)])
  first | rfl | (simp only [indexV, ht55, ht101, bsm] <;> rfl) | (simp [indexV, ht55, ht101]; done) | (exfalso; omega)
set_option maxHeartbeats 8000000 in
set_option maxRecDepth 100000 in
theorem cstrict_c (v : Vl) (Av : Option Addr) (cv : Nat) (Bv : Option Addr) (dv : Nat) (u : Vl) (Au : Option Addr) (cu : Nat) (Bu : Option Addr) (du : Nat) (w : World) (hmv : SRow w .u32 Av v.mag cv) (hsv : SRow w .u16 Bv v.s dv) (hmu : SRow w .u32 Au u.mag cu) (hsu : SRow w .u16 Bu u.s du) : Calls Try.prog 11 #[vv v Av cv Bv dv, vv u Au cu Bu du] w (IsRet (.bool (strictV v u)) w) := by
  refine enter_abs Try.func11 rfl fun a0 hs0 hd0 hp => ?_
  have hs0 : a0.tmps.size = 27 := hs0
  have hN0 : New w w := Upd.refl _ _
  have hp0 : a0.eval (.tmp 0) = vv v Av cv Bv dv := hp 0 _ rfl
  have hp1 : a0.eval (.tmp 1) = vv u Au cu Bu du := hp 1 _ rfl
  refine wp_seq_k fun K1 hK1 => ?_
  refine wp_g [true, true, true] [] [] 27
    [IsNew w 29 [iv v.k, iv v.nk, iv v.nn, .bool v.neg, sv Av v.mag cv, sv Bv v.s dv, iv v.ref],
     IsNew w 29 [iv u.k, iv u.nk, iv u.nn, .bool u.neg, sv Au u.mag cu, sv Bu u.s du, iv u.ref],
     ve (.bool false)]
    [0, 1] (newsCons (fun v w h => IsNew.old h) (newsCons (fun v w h => IsNew.old h) newsNil)) hs0 (.nw (.nw (.eq (.nil)))) ?_ (fun i h => by cases h) ?_
  refine .o2 (step_allocN (cs := [iv v.k, iv v.nk, iv v.nn, .bool v.neg, sv Av v.mag cv, sv Bv v.s dv, iv v.ref]) (t := 29) rfl (noG rfl) (fun _ w hn k => v_box rfl (k.fx 0 hp0) (fun w => rfl)) (fun q _ hq hb => ⟨q, rfl, hq, hb⟩)) ?_
  refine .o2 (step_allocN (cs := [iv u.k, iv u.nk, iv u.nn, .bool u.neg, sv Au u.mag cu, sv Bu u.s du, iv u.ref]) (t := 29) rfl (noG rfl) (fun _ w hn k => v_box rfl (k.fx 1 hp1) (fun w => rfl)) (fun q _ hq hb => ⟨q, rfl, hq, hb⟩)) ?_
  refine .o1 (tk rfl rfl fun _ w hn k => ⟨_, v_assign rfl rfl, rfl⟩) ?_
  exact .nil
  intro a2 w3 hn4 ha5
  obtain ⟨hs6, hd7, hN19⟩ := aft ha5 hs0 hd0 hN0 hn4
  obtain ⟨q9, h8, hq10, hb11⟩ : IsNew _ _ _ _ _ := ha5.got 0 2 rfl (by kernel_rfl)
  obtain ⟨q13, h12, hq14, hb15⟩ : IsNew _ _ _ _ _ := ha5.got 1 3 rfl (by kernel_rfl)
  have hne16 : q9 ≠ q13 := ha5.ne 0 1 2 3 h8 h12
  have hq17 := Nat.le_trans hN0.size hq10
  have hq18 := Nat.le_trans hN0.size hq14
  refine st_nil (hK1 _ _ ?_)
  refine wp_seq_k fun K20 hK20 => ?_
  refine wp_g0 [true, true, true, true, false, false] [(4, false), (5, false)] 27
    [ve (vv v Av cv Bv dv),
     (fun (v_ : Value) (W : World) => ∃ (A5 : Option Addr) (c6 : Nat) (A7 : Option Addr) (c8 : Nat), v_ = vv (cleanV v) A5 c6 A7 c8 ∧ SRow W .u32 A5 ((cleanV v).mag) c6 ∧ SRow W .u16 A7 ((cleanV v).s) c8),
     ve (vv u Au cu Bu du),
     (fun (v_ : Value) (W : World) => ∃ (A13 : Option Addr) (c14 : Nat) (A15 : Option Addr) (c16 : Nat), v_ = vv (cleanV u) A13 c14 A15 c16 ∧ SRow W .u32 A13 ((cleanV u).mag) c14 ∧ SRow W .u16 A15 ((cleanV u).s) c16),
     vt,
     vt] hs6 (.eq (.cons (fun v W W' hn ⟨A5, c6, A7, c8, he, h0, h1⟩ => ⟨A5, c6, A7, c8, he, h0.new_ hn, h1.new_ hn⟩) (.eq (.cons (fun v W W' hn ⟨A13, c14, A15, c16, he, h0, h1⟩ => ⟨A13, c14, A15, c16, he, h0.new_ hn, h1.new_ hn⟩) (.tt (.tt (.nil))))))) ?_ ?_
  refine .o1 (tk rfl rfl fun _ w hn k => ⟨_, v_load rfl (k.fx 2 h8) (l_agg Try.isAgg29 Try.sizeOf29 (hb11.new_ hn) rfl), rfl⟩) ?_
  refine .o1 (tkC rfl (noG rfl) rfl fun _ w hn k => (by
        refine ⟨#[vv v Av cv Bv dv], _, args1 (k.eq1 0 5 rfl), fun w => by kernel_rfl, clean_c v _ _ _ _ _ (hmv.new_ (hN19.transNew hn)) (hsv.new_ (hN19.transNew hn)), ?_⟩
        rintro e w' ⟨A1, c2, A3, c4, rfl, hmo0, hmo1, hm⟩
        exact ⟨_, rfl, hm, ⟨A1, c2, A3, c4, rfl, hmo0, hmo1⟩⟩)) ?_
  refine .o1 (tk rfl rfl fun _ w hn k => ⟨_, v_load rfl (k.fx 3 h12) (l_agg Try.isAgg29 Try.sizeOf29 (hb15.new_ hn) rfl), rfl⟩) ?_
  refine .o1 (tkC rfl (noG rfl) rfl fun _ w hn k => (by
        refine ⟨#[vv u Au cu Bu du], _, args1 (k.eq1 2 7 rfl), fun w => by kernel_rfl, clean_c u _ _ _ _ _ (hmu.new_ (hN19.transNew hn)) (hsu.new_ (hN19.transNew hn)), ?_⟩
        rintro e w' ⟨A9, c10, A11, c12, rfl, hmo0, hmo1, hm⟩
        exact ⟨_, rfl, hm, ⟨A9, c10, A11, c12, rfl, hmo0, hmo1⟩⟩)) ?_
  refine .off ?_
  refine .off ?_
  exact .nil
  intro a21 w22 hn23 ha24
  obtain ⟨hs25, hd26, hN45⟩ := aft ha24 hs6 hd7 hN19 hn23
  have h27 := ha24.fx 2 h8
  have h28 := ha24.fx 3 h12
  obtain ⟨A30, cc31, A33, cc34, h29, hr32, hr35⟩ : (fun (v_ : Value) (W : World) => ∃ (A5 : Option Addr) (c6 : Nat) (A7 : Option Addr) (c8 : Nat), v_ = vv (cleanV v) A5 c6 A7 c8 ∧ SRow W .u32 A5 ((cleanV v).mag) c6 ∧ SRow W .u16 A7 ((cleanV v).s) c8) _ _ := ha24.got 1 6 rfl (by kernel_rfl)
  have h29 : a21.eval (.tmp 6) = vv (cleanV v) A30 cc31 A33 cc34 := h29
  obtain ⟨A37, cc38, A40, cc41, h36, hr39, hr42⟩ : (fun (v_ : Value) (W : World) => ∃ (A13 : Option Addr) (c14 : Nat) (A15 : Option Addr) (c16 : Nat), v_ = vv (cleanV u) A13 c14 A15 c16 ∧ SRow W .u32 A13 ((cleanV u).mag) c14 ∧ SRow W .u16 A15 ((cleanV u).s) c16) _ _ := ha24.got 3 8 rfl (by kernel_rfl)
  have h36 : a21.eval (.tmp 8) = vv (cleanV u) A37 cc38 A40 cc41 := h36
  have hb43 := hb11.new_ hn23
  have hb44 := hb15.new_ hn23
  obtain ⟨w46, hst47, hb480, hu49, hf50⟩ := s_many (P := Try.prog) (t := 29) (i := 0) [iv ((cleanV v).k), iv ((cleanV v).nk), iv ((cleanV v).nn), .bool ((cleanV v).neg), sv A30 ((cleanV v).mag) cc31, sv A33 ((cleanV v).s) cc34, iv ((cleanV v).ref)] Try.sizeOf29 rfl rfl rfl hb43 (Nat.le_of_ble_eq_true rfl)
  have hb48 : Blk w46 q9 29 [iv ((cleanV v).k), iv ((cleanV v).nk), iv ((cleanV v).nn), .bool ((cleanV v).neg), sv A30 ((cleanV v).mag) cc31, sv A33 ((cleanV v).s) cc34, iv ((cleanV v).ref)] := hb480
  refine st_act rfl rfl fun K51 hL52 => a_store' rfl h27 h29 hst47 (hL52 _ _ trivial ?_)
  have hr53 := hr32.far hb43 hu49 (by first | rfl | decide | simp [notK])
  have hr54 := hr35.far hb43 hu49 (by first | rfl | decide | simp [notK])
  have hr55 := hr39.far hb43 hu49 (by first | rfl | decide | simp [notK])
  have hr56 := hr42.far hb43 hu49 (by first | rfl | decide | simp [notK])
  have hb57 := hf50 _ _ _ (fun h => hne16 h.symm) hb44
  have hN58 := hN45.trans hu49 (fun k hk hkb => by subst hkb; omega)
  obtain ⟨w59, hst60, hb610, hu62, hf63⟩ := s_many (P := Try.prog) (t := 29) (i := 0) [iv ((cleanV u).k), iv ((cleanV u).nk), iv ((cleanV u).nn), .bool ((cleanV u).neg), sv A37 ((cleanV u).mag) cc38, sv A40 ((cleanV u).s) cc41, iv ((cleanV u).ref)] Try.sizeOf29 rfl rfl rfl hb57 (Nat.le_of_ble_eq_true rfl)
  have hb61 : Blk w59 q13 29 [iv ((cleanV u).k), iv ((cleanV u).nk), iv ((cleanV u).nn), .bool ((cleanV u).neg), sv A37 ((cleanV u).mag) cc38, sv A40 ((cleanV u).s) cc41, iv ((cleanV u).ref)] := hb610
  refine st_act rfl rfl fun K64 hL65 => a_store' rfl h28 h36 hst60 (hL65 _ _ trivial ?_)
  have hr66 := hr53.far hb57 hu62 (by first | rfl | decide | simp [notK])
  have hr67 := hr54.far hb57 hu62 (by first | rfl | decide | simp [notK])
  have hr68 := hr55.far hb57 hu62 (by first | rfl | decide | simp [notK])
  have hr69 := hr56.far hb57 hu62 (by first | rfl | decide | simp [notK])
  have hb70 := hf63 _ _ _ (hne16) hb48
  have hN71 := hN58.trans hu62 (fun k hk hkb => by subst hkb; omega)
  refine st_nil (hK20 _ _ ?_)
  refine wp_seq_k fun K72 hK72 => ?_
  refine wp_block ?_
  refine wp_seq_k fun K73 hK73 => ?_
  rcases Bool.eq_false_or_eq_true (decide (((cleanV v).k) = ((cleanV u).k))) with ht74 | ht74
  have ht74d := of_decide_eq_true ht74
  refine wp_g0 [true, true, true, true, true, true] [] 27
    [ve (pv q9),
     ve (iv ((cleanV v).k)),
     ve (pv q13),
     ve (iv ((cleanV u).k)),
     ve (.bool false),
     ve (.bool false)] hs25 (.eq (.eq (.eq (.eq (.eq (.eq (.nil))))))) ?_ ?_
  refine .o1 (tk rfl rfl fun _ w hn k => ⟨_, v_field rfl (k.fx 2 h27) (fun w => rfl), rfl⟩) ?_
  refine .o1 (tk rfl rfl fun _ w hn k => ⟨_, v_load rfl (k.eq1 0 10 rfl) (l_one Try.isAgg3 ((hb70.new_ hn).cell 0)), rfl⟩) ?_
  refine .o1 (tk rfl rfl fun _ w hn k => ⟨_, v_field rfl (k.fx 3 h28) (fun w => rfl), rfl⟩) ?_
  refine .o1 (tk rfl rfl fun _ w hn k => ⟨_, v_load rfl (k.eq1 2 12 rfl) (l_one Try.isAgg3 ((hb61.new_ hn).cell 0)), rfl⟩) ?_
  refine .o1 (tk rfl rfl fun _ w hn k => ⟨_, v_bin rfl (k.eq1 1 11 rfl) (k.eq1 3 13 rfl) (fun _ => rfl) (r_neq ht74), rfl⟩) ?_
  refine .o1 (tk rfl rfl fun _ w hn k => ⟨_, v_assign rfl (k.eq1 4 14 rfl), rfl⟩) ?_
  exact .nil
  intro a75 w76 hn77 ha78
  obtain ⟨hs79, hd80, hN90⟩ := aft ha78 hs25 hd26 hN71 hn77
  have h81 := ha78.fx 2 h27
  have h82 := ha78.fx 3 h28
  have h83 := ha78.ge 5 9 rfl
  have hb84 := hb70.new_ hn77
  have hb85 := hb61.new_ hn77
  have hr86 := hr66.new_ hn77
  have hr87 := hr67.new_ hn77
  have hr88 := hr68.new_ hn77
  have hr89 := hr69.new_ hn77
  refine st_nil (hK73 _ _ ?_)
  refine wp_cond_false h83 ?_
  refine wp_seq_k fun K91 hK91 => ?_
  refine wp_g0 [true, true, true, true] [] 27
    [ve (pv q9),
     ve (iv ((cleanV v).k)),
     ve (.bool (decide (((cleanV v).k) = 3))),
     ve (.bool (decide (((cleanV v).k) = 3)))] hs79 (.eq (.eq (.eq (.eq (.nil))))) ?_ ?_
  refine .o1 (tk rfl rfl fun _ w hn k => ⟨_, v_field rfl (k.fx 2 h81) (fun w => rfl), rfl⟩) ?_
  refine .o1 (tk rfl rfl fun _ w hn k => ⟨_, v_load rfl (k.eq1 0 16 rfl) (l_one Try.isAgg3 ((hb84.new_ hn).cell 0)), rfl⟩) ?_
  refine .o1 (tk rfl rfl fun _ w hn k => ⟨_, v_bin rfl (k.eq1 1 17 rfl) rfl (fun _ => rfl) (r_eql rfl), rfl⟩) ?_
  refine .o1 (tk rfl rfl fun _ w hn k => ⟨_, v_assign rfl (k.eq1 2 18 rfl), rfl⟩) ?_
  exact .nil
  intro a92 w93 hn94 ha95
  obtain ⟨hs96, hd97, hN107⟩ := aft ha95 hs79 hd80 hN90 hn94
  have h98 := ha95.fx 2 h81
  have h99 := ha95.fx 3 h82
  have h100 := ha95.ge 3 15 rfl
  have hb101 := hb84.new_ hn94
  have hb102 := hb85.new_ hn94
  have hr103 := hr86.new_ hn94
  have hr104 := hr87.new_ hn94
  have hr105 := hr88.new_ hn94
  have hr106 := hr89.new_ hn94
  refine st_nil (hK91 _ _ ?_)
  rcases Bool.eq_false_or_eq_true (decide (((cleanV v).k) = 3)) with ht108 | ht108
  have ht108d := of_decide_eq_true ht108
  have hv109 := hB h100 ht108
  refine wp_cond_true hv109 ?_
  refine wp_seq_k fun K110 hK110 => ?_
  refine wp_g0 [true, true, true, true, true, true] [] 27
    [ve (.pointer (some ⟨q9, 1, none⟩)),
     ve (nv (Nm.mk ((cleanV v).nk) ((cleanV v).nn))),
     ve (.pointer (some ⟨q13, 1, none⟩)),
     ve (nv (Nm.mk ((cleanV u).nk) ((cleanV u).nn))),
     ve (.bool (equalM (Nm.mk ((cleanV v).nk) ((cleanV v).nn)) (Nm.mk ((cleanV u).nk) ((cleanV u).nn)))),
     ve (.bool (equalM (Nm.mk ((cleanV v).nk) ((cleanV v).nn)) (Nm.mk ((cleanV u).nk) ((cleanV u).nn))))] hs96 (.eq (.eq (.eq (.eq (.eq (.eq (.nil))))))) ?_ ?_
  refine .o1 (tk rfl rfl fun _ w hn k => ⟨_, v_field rfl (k.fx 2 h98) (fun w => rfl), rfl⟩) ?_
  refine .o1 (tk rfl rfl fun _ w hn k => ⟨_, v_load rfl (k.eq1 0 19 rfl) (l_part Try.isAgg23 Try.sizeOf23 (hb101.new_ hn) (Nat.le_of_ble_eq_true rfl)), rfl⟩) ?_
  refine .o1 (tk rfl rfl fun _ w hn k => ⟨_, v_field rfl (k.fx 3 h99) (fun w => rfl), rfl⟩) ?_
  refine .o1 (tk rfl rfl fun _ w hn k => ⟨_, v_load rfl (k.eq1 2 21 rfl) (l_part Try.isAgg23 Try.sizeOf23 (hb102.new_ hn) (Nat.le_of_ble_eq_true rfl)), rfl⟩) ?_
  refine .o1 (ck rfl rfl rfl (fun _ w hn k => ⟨#[nv (Nm.mk ((cleanV v).nk) ((cleanV v).nn)), nv (Nm.mk ((cleanV u).nk) ((cleanV u).nn))], args2 (k.eq1 1 20 rfl) (k.eq1 3 22 rfl), fun _ => by kernel_rfl, equal_c (Nm.mk ((cleanV v).nk) ((cleanV v).nn)) (Nm.mk ((cleanV u).nk) ((cleanV u).nn)) _ ⟩) fun _ => rfl) ?_
  refine .o1 (tk rfl rfl fun _ w hn k => ⟨_, v_assign rfl (k.eq1 4 23 rfl), rfl⟩) ?_
  exact .nil
  intro a111 w112 hn113 ha114
  obtain ⟨hs115, hd116, hN118⟩ := aft ha114 hs96 hd97 hN107 hn113
  have h117 := ha114.ge 5 4 rfl
  refine st_nil (hK110 _ _ ?_)
  refine wp_ret (ret_k hd116 (v := .bool (equalM (Nm.mk ((cleanV v).nk) ((cleanV v).nn)) (Nm.mk ((cleanV u).nk) ((cleanV u).nn)))) (res_t rfl h117 _) ?_)
  refine ⟨?_, hN118⟩
  show Ending.returned (.bool (equalM (Nm.mk ((cleanV v).nk) ((cleanV v).nn)) (Nm.mk ((cleanV u).nk) ((cleanV u).nn)))) = Ending.returned (.bool (strictV v u))
  first | rfl | (simp only [strictV, ht74, ht108, bsm] <;> rfl) | (simp [strictV, ht74, ht108]; done) | (exfalso; omega)
  have ht108d := of_decide_eq_false ht108
  have hv119 := hB h100 ht108
  refine wp_cond_false hv119 ?_
  refine wp_skip ?_
  refine hK72 _ _ ?_
  refine wp_seq_k fun K120 hK120 => ?_
  refine wp_g0 [true, true, true, true] [] 27
    [ve (vv (cleanV v) A30 cc31 A33 cc34),
     ve (vv (cleanV u) A37 cc38 A40 cc41),
     ve (.bool (sameV (cleanV v) (cleanV u))),
     ve (.bool (sameV (cleanV v) (cleanV u)))] hs96 (.eq (.eq (.eq (.eq (.nil))))) ?_ ?_
  refine .o1 (tk rfl rfl fun _ w hn k => ⟨_, v_load rfl (k.fx 2 h98) (l_agg Try.isAgg29 Try.sizeOf29 (hb101.new_ hn) rfl), rfl⟩) ?_
  refine .o1 (tk rfl rfl fun _ w hn k => ⟨_, v_load rfl (k.fx 3 h99) (l_agg Try.isAgg29 Try.sizeOf29 (hb102.new_ hn) rfl), rfl⟩) ?_
  refine .o1 (ck rfl rfl rfl (fun _ w hn k => ⟨#[vv (cleanV v) A30 cc31 A33 cc34, vv (cleanV u) A37 cc38 A40 cc41], args2 (k.eq1 0 24 rfl) (k.eq1 1 25 rfl), fun _ => by kernel_rfl, vsame_c (cleanV v) _ _ _ _ (cleanV u) _ _ _ _ _ (hr103.new_ hn) (hr104.new_ hn) (hr105.new_ hn) (hr106.new_ hn)⟩) fun _ => rfl) ?_
  refine .o1 (tk rfl rfl fun _ w hn k => ⟨_, v_assign rfl (k.eq1 2 26 rfl), rfl⟩) ?_
  exact .nil
  intro a121 w122 hn123 ha124
  obtain ⟨hs125, hd126, hN128⟩ := aft ha124 hs96 hd97 hN107 hn123
  have h127 := ha124.ge 3 4 rfl
  refine st_nil (hK120 _ _ ?_)
  refine wp_ret (ret_k hd126 (v := .bool (sameV (cleanV v) (cleanV u))) (res_t rfl h127 _) ?_)
  refine ⟨?_, hN128⟩
  show Ending.returned (.bool (sameV (cleanV v) (cleanV u))) = Ending.returned (.bool (strictV v u))
  first | rfl | (simp only [strictV, ht74, ht108, bsm] <;> rfl) | (simp [strictV, ht74, ht108]; done) | (exfalso; omega)
  have ht74d := of_decide_eq_false ht74
  refine wp_g0 [true, true, true, true, true, true] [] 27
    [ve (pv q9),
     ve (iv ((cleanV v).k)),
     ve (pv q13),
     ve (iv ((cleanV u).k)),
     ve (.bool true),
     ve (.bool true)] hs25 (.eq (.eq (.eq (.eq (.eq (.eq (.nil))))))) ?_ ?_
  refine .o1 (tk rfl rfl fun _ w hn k => ⟨_, v_field rfl (k.fx 2 h27) (fun w => rfl), rfl⟩) ?_
  refine .o1 (tk rfl rfl fun _ w hn k => ⟨_, v_load rfl (k.eq1 0 10 rfl) (l_one Try.isAgg3 ((hb70.new_ hn).cell 0)), rfl⟩) ?_
  refine .o1 (tk rfl rfl fun _ w hn k => ⟨_, v_field rfl (k.fx 3 h28) (fun w => rfl), rfl⟩) ?_
  refine .o1 (tk rfl rfl fun _ w hn k => ⟨_, v_load rfl (k.eq1 2 12 rfl) (l_one Try.isAgg3 ((hb61.new_ hn).cell 0)), rfl⟩) ?_
  refine .o1 (tk rfl rfl fun _ w hn k => ⟨_, v_bin rfl (k.eq1 1 11 rfl) (k.eq1 3 13 rfl) (fun _ => rfl) (r_neq ht74), rfl⟩) ?_
  refine .o1 (tk rfl rfl fun _ w hn k => ⟨_, v_assign rfl (k.eq1 4 14 rfl), rfl⟩) ?_
  exact .nil
  intro a129 w130 hn131 ha132
  obtain ⟨hs133, hd134, hN144⟩ := aft ha132 hs25 hd26 hN71 hn131
  have h135 := ha132.fx 2 h27
  have h136 := ha132.fx 3 h28
  have h137 := ha132.ge 5 9 rfl
  have hb138 := hb70.new_ hn131
  have hb139 := hb61.new_ hn131
  have hr140 := hr66.new_ hn131
  have hr141 := hr67.new_ hn131
  have hr142 := hr68.new_ hn131
  have hr143 := hr69.new_ hn131
  refine st_nil (hK73 _ _ ?_)
  refine wp_cond_true h137 ?_
  refine wp_seq_k fun K145 hK145 => ?_
  refine wp_g0 [true] [] 27
    [ve (.bool false)] hs133 (.eq (.nil)) ?_ ?_
  refine .o1 (tk rfl rfl fun _ w hn k => ⟨_, v_assign rfl rfl, rfl⟩) ?_
  exact .nil
  intro a146 w147 hn148 ha149
  obtain ⟨hs150, hd151, hN153⟩ := aft ha149 hs133 hd134 hN144 hn148
  have h152 := ha149.ge 0 4 rfl
  refine st_nil (hK145 _ _ ?_)
  refine wp_ret (ret_k hd151 (v := .bool false) (res_t rfl h152 _) ?_)
  refine ⟨?_, hN153⟩
  show Ending.returned (.bool false) = Ending.returned (.bool (strictV v u))
  first | rfl | (simp only [strictV, ht74, bsm] <;> rfl) | (simp [strictV, ht74]; done) | (exfalso; omega)
set_option maxHeartbeats 8000000 in
set_option maxRecDepth 100000 in
theorem cbool_c (v : Vl) (Av : Option Addr) (cv : Nat) (Bv : Option Addr) (dv : Nat) (w : World) (hmv : SRow w .u32 Av v.mag cv) (hsv : SRow w .u16 Bv v.s dv) : Calls Try.prog 24 #[vv v Av cv Bv dv] w (IsRet (.bool (boolV v)) w) := by
  refine enter_abs Try.func24 rfl fun a0 hs0 hd0 hp => ?_
  have hs0 : a0.tmps.size = 41 := hs0
  have hN0 : New w w := Upd.refl _ _
  have hp0 : a0.eval (.tmp 0) = vv v Av cv Bv dv := hp 0 _ rfl
  refine wp_seq_k fun K1 hK1 => ?_
  refine wp_g [true, true] [] [] 41
    [IsNew w 29 [iv v.k, iv v.nk, iv v.nn, .bool v.neg, sv Av v.mag cv, sv Bv v.s dv, iv v.ref],
     ve (.bool false)]
    [0] (newsCons (fun v w h => IsNew.old h) newsNil) hs0 (.nw (.eq (.nil))) ?_ (fun i h => by cases h) ?_
  refine .o2 (step_allocN (cs := [iv v.k, iv v.nk, iv v.nn, .bool v.neg, sv Av v.mag cv, sv Bv v.s dv, iv v.ref]) (t := 29) rfl (noG rfl) (fun _ w hn k => v_box rfl (k.fx 0 hp0) (fun w => rfl)) (fun q _ hq hb => ⟨q, rfl, hq, hb⟩)) ?_
  refine .o1 (tk rfl rfl fun _ w hn k => ⟨_, v_assign rfl rfl, rfl⟩) ?_
  exact .nil
  intro a2 w3 hn4 ha5
  obtain ⟨hs6, hd7, hN13⟩ := aft ha5 hs0 hd0 hN0 hn4
  obtain ⟨q9, h8, hq10, hb11⟩ : IsNew _ _ _ _ _ := ha5.got 0 1 rfl (by kernel_rfl)
  have hq12 := Nat.le_trans hN0.size hq10
  refine st_nil (hK1 _ _ ?_)
  refine wp_seq_k fun K14 hK14 => ?_
  refine wp_g0 [true, true, false] [(2, false)] 41
    [ve (vv v Av cv Bv dv),
     (fun (v_ : Value) (W : World) => ∃ (A5 : Option Addr) (c6 : Nat) (A7 : Option Addr) (c8 : Nat), v_ = vv (cleanV v) A5 c6 A7 c8 ∧ SRow W .u32 A5 ((cleanV v).mag) c6 ∧ SRow W .u16 A7 ((cleanV v).s) c8),
     vt] hs6 (.eq (.cons (fun v W W' hn ⟨A5, c6, A7, c8, he, h0, h1⟩ => ⟨A5, c6, A7, c8, he, h0.new_ hn, h1.new_ hn⟩) (.tt (.nil)))) ?_ ?_
  refine .o1 (tk rfl rfl fun _ w hn k => ⟨_, v_load rfl (k.fx 1 h8) (l_agg Try.isAgg29 Try.sizeOf29 (hb11.new_ hn) rfl), rfl⟩) ?_
  refine .o1 (tkC rfl (noG rfl) rfl fun _ w hn k => (by
        refine ⟨#[vv v Av cv Bv dv], _, args1 (k.eq1 0 3 rfl), fun w => by kernel_rfl, clean_c v _ _ _ _ _ (hmv.new_ (hN13.transNew hn)) (hsv.new_ (hN13.transNew hn)), ?_⟩
        rintro e w' ⟨A1, c2, A3, c4, rfl, hmo0, hmo1, hm⟩
        exact ⟨_, rfl, hm, ⟨A1, c2, A3, c4, rfl, hmo0, hmo1⟩⟩)) ?_
  refine .off ?_
  exact .nil
  intro a15 w16 hn17 ha18
  obtain ⟨hs19, hd20, hN30⟩ := aft ha18 hs6 hd7 hN13 hn17
  have h21 := ha18.fx 1 h8
  obtain ⟨A23, cc24, A26, cc27, h22, hr25, hr28⟩ : (fun (v_ : Value) (W : World) => ∃ (A5 : Option Addr) (c6 : Nat) (A7 : Option Addr) (c8 : Nat), v_ = vv (cleanV v) A5 c6 A7 c8 ∧ SRow W .u32 A5 ((cleanV v).mag) c6 ∧ SRow W .u16 A7 ((cleanV v).s) c8) _ _ := ha18.got 1 4 rfl (by kernel_rfl)
  have h22 : a15.eval (.tmp 4) = vv (cleanV v) A23 cc24 A26 cc27 := h22
  have hb29 := hb11.new_ hn17
  obtain ⟨w31, hst32, hb330, hu34, hf35⟩ := s_many (P := Try.prog) (t := 29) (i := 0) [iv ((cleanV v).k), iv ((cleanV v).nk), iv ((cleanV v).nn), .bool ((cleanV v).neg), sv A23 ((cleanV v).mag) cc24, sv A26 ((cleanV v).s) cc27, iv ((cleanV v).ref)] Try.sizeOf29 rfl rfl rfl hb29 (Nat.le_of_ble_eq_true rfl)
  have hb33 : Blk w31 q9 29 [iv ((cleanV v).k), iv ((cleanV v).nk), iv ((cleanV v).nn), .bool ((cleanV v).neg), sv A23 ((cleanV v).mag) cc24, sv A26 ((cleanV v).s) cc27, iv ((cleanV v).ref)] := hb330
  refine st_act rfl rfl fun K36 hL37 => a_store' rfl h21 h22 hst32 (hL37 _ _ trivial ?_)
  have hr38 := hr25.far hb29 hu34 (by first | rfl | decide | simp [notK])
  have hr39 := hr28.far hb29 hu34 (by first | rfl | decide | simp [notK])
  have hN40 := hN30.trans hu34 (fun k hk hkb => by subst hkb; omega)
  refine st_nil (hK14 _ _ ?_)
  refine wp_seq_k fun K41 hK41 => ?_
  refine wp_seq_k fun K42 hK42 => ?_
  refine wp_g0 [true, true] [] 41
    [ve (pv q9),
     ve (iv ((cleanV v).k))] hs19 (.eq (.eq (.nil))) ?_ ?_
  refine .o1 (tk rfl rfl fun _ w hn k => ⟨_, v_field rfl (k.fx 1 h21) (fun w => rfl), rfl⟩) ?_
  refine .o1 (tk rfl rfl fun _ w hn k => ⟨_, v_load rfl (k.eq1 0 5 rfl) (l_one Try.isAgg3 ((hb33.new_ hn).cell 0)), rfl⟩) ?_
  exact .nil
  intro a43 w44 hn45 ha46
  obtain ⟨hs47, hd48, hN54⟩ := aft ha46 hs19 hd20 hN40 hn45
  have h49 := ha46.fx 1 h21
  have h50 := ha46.ge 1 6 rfl
  have hb51 := hb33.new_ hn45
  have hr52 := hr38.new_ hn45
  have hr53 := hr39.new_ hn45
  refine st_nil (hK42 _ _ ?_)
  refine wp_block ?_
  refine wp_seq_k fun K55 hK55 => ?_
  refine wp_g0 [true, true] [] 41
    [ve (.bool (decide (((cleanV v).k) = 2))),
     ve (.bool (decide (((cleanV v).k) = 2)))] hs47 (.eq (.eq (.nil))) ?_ ?_
  refine .o1 (tk rfl rfl fun _ w hn k => ⟨_, v_bin rfl (k.fx 6 h50) rfl (fun _ => rfl) (r_eql rfl), rfl⟩) ?_
  refine .o1 (tk rfl rfl fun _ w hn k => ⟨_, v_assign rfl (k.eq1 0 8 rfl), rfl⟩) ?_
  exact .nil
  intro a56 w57 hn58 ha59
  obtain ⟨hs60, hd61, hN68⟩ := aft ha59 hs47 hd48 hN54 hn58
  have h62 := ha59.fx 1 h49
  have h63 := ha59.fx 6 h50
  have h64 := ha59.ge 1 7 rfl
  have hb65 := hb51.new_ hn58
  have hr66 := hr52.new_ hn58
  have hr67 := hr53.new_ hn58
  refine st_nil (hK55 _ _ ?_)
  rcases Bool.eq_false_or_eq_true (decide (((cleanV v).k) = 2)) with ht69 | ht69
  have ht69d := of_decide_eq_true ht69
  have hv70 := hB h64 ht69
  refine wp_cond_true hv70 ?_
  refine wp_seq_k fun K71 hK71 => ?_
  refine wp_g0 [true, true, true, true] [] 41
    [ve (.pointer (some ⟨q9, 6, none⟩)),
     ve (iv ((cleanV v).ref)),
     ve (.bool (decide (((cleanV v).ref) = 1))),
     ve (.bool (decide (((cleanV v).ref) = 1)))] hs60 (.eq (.eq (.eq (.eq (.nil))))) ?_ ?_
  refine .o1 (tk rfl rfl fun _ w hn k => ⟨_, v_field rfl (k.fx 1 h62) (fun w => rfl), rfl⟩) ?_
  refine .o1 (tk rfl rfl fun _ w hn k => ⟨_, v_load rfl (k.eq1 0 9 rfl) (l_one Try.isAgg3 ((hb65.new_ hn).cell 6)), rfl⟩) ?_
  refine .o1 (tk rfl rfl fun _ w hn k => ⟨_, v_bin rfl (k.eq1 1 10 rfl) rfl (fun _ => rfl) (r_eql rfl), rfl⟩) ?_
  refine .o1 (tk rfl rfl fun _ w hn k => ⟨_, v_assign rfl (k.eq1 2 11 rfl), rfl⟩) ?_
  exact .nil
  intro a72 w73 hn74 ha75
  obtain ⟨hs76, hd77, hN79⟩ := aft ha75 hs60 hd61 hN68 hn74
  have h78 := ha75.ge 3 2 rfl
  refine st_nil (hK71 _ _ ?_)
  refine wp_ret (ret_k hd77 (v := .bool (decide (((cleanV v).ref) = 1))) (res_t rfl h78 _) ?_)
  refine ⟨?_, hN79⟩
  show Ending.returned (.bool (decide (((cleanV v).ref) = 1))) = Ending.returned (.bool (boolV v))
  first | rfl | (simp only [boolV, ht69, bsm] <;> rfl) | (simp [boolV, ht69]; done) | (exfalso; omega)
  have ht69d := of_decide_eq_false ht69
  have hv80 := hB h64 ht69
  refine wp_cond_false hv80 ?_
  refine wp_seq_k fun K81 hK81 => ?_
  refine wp_g0 [true, true] [] 41
    [ve (.bool (decide (((cleanV v).k) = 3))),
     ve (.bool (decide (((cleanV v).k) = 3)))] hs60 (.eq (.eq (.nil))) ?_ ?_
  refine .o1 (tk rfl rfl fun _ w hn k => ⟨_, v_bin rfl (k.fx 6 h63) rfl (fun _ => rfl) (r_eql rfl), rfl⟩) ?_
  refine .o1 (tk rfl rfl fun _ w hn k => ⟨_, v_assign rfl (k.eq1 0 13 rfl), rfl⟩) ?_
  exact .nil
  intro a82 w83 hn84 ha85
  obtain ⟨hs86, hd87, hN94⟩ := aft ha85 hs60 hd61 hN68 hn84
  have h88 := ha85.fx 1 h62
  have h89 := ha85.fx 6 h63
  have h90 := ha85.ge 1 12 rfl
  have hb91 := hb65.new_ hn84
  have hr92 := hr66.new_ hn84
  have hr93 := hr67.new_ hn84
  refine st_nil (hK81 _ _ ?_)
  rcases Bool.eq_false_or_eq_true (decide (((cleanV v).k) = 3)) with ht95 | ht95
  have ht95d := of_decide_eq_true ht95
  have hv96 := hB h90 ht95
  refine wp_cond_true hv96 ?_
  refine wp_seq_k fun K97 hK97 => ?_
  rcases Bool.eq_false_or_eq_true (decide (((cleanV v).nk) = 2)) with ht98 | ht98
  have ht98d := of_decide_eq_true ht98
  refine wp_g0 [true, true, true, true, true, true, true, true, true, true, true, true] [] 41
    [ve (.pointer (some ⟨q9, 1, none⟩)),
     ve (.pointer (some ⟨q9, 1, none⟩)),
     ve (iv ((cleanV v).nk)),
     ve (.bool false),
     ve (.bool false),
     ve undef,
     ve undef,
     ve undef,
     ve undef,
     ve undef,
     ve (.bool false),
     ve (.bool false)] hs86 (.eq (.eq (.eq (.eq (.eq (.eq (.eq (.eq (.eq (.eq (.eq (.eq (.nil))))))))))))) ?_ ?_
  refine .o1 (tk rfl rfl fun _ w hn k => ⟨_, v_field rfl (k.fx 1 h88) (fun w => rfl), rfl⟩) ?_
  refine .o1 (tk rfl rfl fun _ w hn k => ⟨_, v_field rfl (k.eq1 0 14 rfl) (fun w => rfl), rfl⟩) ?_
  refine .o1 (tk rfl rfl fun _ w hn k => ⟨_, v_load rfl (k.eq1 1 15 rfl) (l_one Try.isAgg3 ((hb91.new_ hn).cell 1)), rfl⟩) ?_
  refine .o1 (tk rfl rfl fun _ w hn k => ⟨_, v_bin rfl (k.eq1 2 16 rfl) rfl (fun _ => rfl) (r_neq ht98), rfl⟩) ?_
  refine .o1 (tk rfl rfl fun _ w hn k => ⟨_, v_move rfl (k.eq1 3 17 rfl), rfl⟩) ?_
  refine .o1 (sk rfl rfl rfl (fun _ _ _ k => k.eq1 4 18 rfl) (fun _ => rfl)) ?_
  refine .o1 (sk rfl rfl rfl (fun _ _ _ k => k.eq1 4 18 rfl) (fun _ => rfl)) ?_
  refine .o1 (sk rfl rfl rfl (fun _ _ _ k => k.eq1 4 18 rfl) (fun _ => rfl)) ?_
  refine .o1 (sk rfl rfl rfl (fun _ _ _ k => k.eq1 4 18 rfl) (fun _ => rfl)) ?_
  refine .o1 (sk rfl rfl rfl (fun _ _ _ k => k.eq1 4 18 rfl) (fun _ => rfl)) ?_
  refine .o1 (tk rfl rfl fun _ w hn k => ⟨_, v_pickF rfl (k.eq1 4 18 rfl) rfl, rfl⟩) ?_
  refine .o1 (tk rfl rfl fun _ w hn k => ⟨_, v_assign rfl (k.eq1 10 24 rfl), rfl⟩) ?_
  exact .nil
  intro a99 w100 hn101 ha102
  obtain ⟨hs103, hd104, hN106⟩ := aft ha102 hs86 hd87 hN94 hn101
  have h105 := ha102.ge 11 2 rfl
  refine st_nil (hK97 _ _ ?_)
  refine wp_ret (ret_k hd104 (v := .bool false) (res_t rfl h105 _) ?_)
  refine ⟨?_, hN106⟩
  show Ending.returned (.bool false) = Ending.returned (.bool (boolV v))
  first | rfl | (simp only [boolV, ht69, ht95, ht98, bsm] <;> rfl) | (simp [boolV, ht69, ht95, ht98]; done) | (exfalso; omega)
  have ht98d := of_decide_eq_false ht98
  refine wp_g0 [true, true, true, true, true, true, true, true, true, true, true, true] [] 41
    [ve (.pointer (some ⟨q9, 1, none⟩)),
     ve (.pointer (some ⟨q9, 1, none⟩)),
     ve (iv ((cleanV v).nk)),
     ve (.bool true),
     ve (.bool true),
     ve (.pointer (some ⟨q9, 1, none⟩)),
     ve (nv (Nm.mk ((cleanV v).nk) ((cleanV v).nn))),
     ve (nv (Nm.mk 0 0)),
     ve (.bool (equalM (Nm.mk ((cleanV v).nk) ((cleanV v).nn)) (Nm.mk 0 0))),
     ve (.bool (!(equalM (Nm.mk ((cleanV v).nk) ((cleanV v).nn)) (Nm.mk 0 0)))),
     ve (.bool (!(equalM (Nm.mk ((cleanV v).nk) ((cleanV v).nn)) (Nm.mk 0 0)))),
     ve (.bool (!(equalM (Nm.mk ((cleanV v).nk) ((cleanV v).nn)) (Nm.mk 0 0))))] hs86 (.eq (.eq (.eq (.eq (.eq (.eq (.eq (.eq (.eq (.eq (.eq (.eq (.nil))))))))))))) ?_ ?_
  refine .o1 (tk rfl rfl fun _ w hn k => ⟨_, v_field rfl (k.fx 1 h88) (fun w => rfl), rfl⟩) ?_
  refine .o1 (tk rfl rfl fun _ w hn k => ⟨_, v_field rfl (k.eq1 0 14 rfl) (fun w => rfl), rfl⟩) ?_
  refine .o1 (tk rfl rfl fun _ w hn k => ⟨_, v_load rfl (k.eq1 1 15 rfl) (l_one Try.isAgg3 ((hb91.new_ hn).cell 1)), rfl⟩) ?_
  refine .o1 (tk rfl rfl fun _ w hn k => ⟨_, v_bin rfl (k.eq1 2 16 rfl) rfl (fun _ => rfl) (r_neq ht98), rfl⟩) ?_
  refine .o1 (tk rfl rfl fun _ w hn k => ⟨_, v_move rfl (k.eq1 3 17 rfl), rfl⟩) ?_
  refine .o1 (tg rfl rfl rfl (fun _ _ k => k.eq1 4 18 rfl) fun _ w hn k => ⟨_, v_field rfl (k.fx 1 h88) (fun w => rfl), rfl⟩) ?_
  refine .o1 (tg rfl rfl rfl (fun _ _ k => k.eq1 4 18 rfl) fun _ w hn k => ⟨_, v_load rfl (k.eq1 5 19 rfl) (l_part Try.isAgg23 Try.sizeOf23 (hb91.new_ hn) (Nat.le_of_ble_eq_true rfl)), rfl⟩) ?_
  refine .o1 (tg rfl rfl rfl (fun _ _ k => k.eq1 4 18 rfl) fun _ w hn k => ⟨_, v_build (ps := []) rfl parts0 (by kernel_rfl), rfl⟩) ?_
  refine .o1 (cg rfl rfl rfl (fun _ _ k => k.eq1 4 18 rfl) rfl (fun _ w hn k => ⟨#[nv (Nm.mk ((cleanV v).nk) ((cleanV v).nn)), nv (Nm.mk 0 0)], args2 (k.eq1 6 20 rfl) (k.eq1 7 21 rfl), fun _ => by kernel_rfl, equal_c (Nm.mk ((cleanV v).nk) ((cleanV v).nn)) (Nm.mk 0 0) _ ⟩) fun _ => rfl) ?_
  refine .o1 (tg rfl rfl rfl (fun _ _ k => k.eq1 4 18 rfl) fun _ w hn k => ⟨_, v_not rfl (k.eq1 8 22 rfl), rfl⟩) ?_
  refine .o1 (tk rfl rfl fun _ w hn k => ⟨_, v_pickT rfl (k.eq1 4 18 rfl) (k.eq1 9 23 rfl), rfl⟩) ?_
  refine .o1 (tk rfl rfl fun _ w hn k => ⟨_, v_assign rfl (k.eq1 10 24 rfl), rfl⟩) ?_
  exact .nil
  intro a107 w108 hn109 ha110
  obtain ⟨hs111, hd112, hN114⟩ := aft ha110 hs86 hd87 hN94 hn109
  have h113 := ha110.ge 11 2 rfl
  refine st_nil (hK97 _ _ ?_)
  refine wp_ret (ret_k hd112 (v := .bool (!(equalM (Nm.mk ((cleanV v).nk) ((cleanV v).nn)) (Nm.mk 0 0)))) (res_t rfl h113 _) ?_)
  refine ⟨?_, hN114⟩
  show Ending.returned (.bool (!(equalM (Nm.mk ((cleanV v).nk) ((cleanV v).nn)) (Nm.mk 0 0)))) = Ending.returned (.bool (boolV v))
  first | rfl | (simp only [boolV, ht69, ht95, ht98, bsm] <;> rfl) | (simp [boolV, ht69, ht95, ht98]; done) | (exfalso; omega)
  have ht95d := of_decide_eq_false ht95
  have hv115 := hB h90 ht95
  refine wp_cond_false hv115 ?_
  refine wp_seq_k fun K116 hK116 => ?_
  refine wp_g0 [true, true] [] 41
    [ve (.bool (decide (((cleanV v).k) = 4))),
     ve (.bool (decide (((cleanV v).k) = 4)))] hs86 (.eq (.eq (.nil))) ?_ ?_
  refine .o1 (tk rfl rfl fun _ w hn k => ⟨_, v_bin rfl (k.fx 6 h89) rfl (fun _ => rfl) (r_eql rfl), rfl⟩) ?_
  refine .o1 (tk rfl rfl fun _ w hn k => ⟨_, v_assign rfl (k.eq1 0 26 rfl), rfl⟩) ?_
  exact .nil
  intro a117 w118 hn119 ha120
  obtain ⟨hs121, hd122, hN129⟩ := aft ha120 hs86 hd87 hN94 hn119
  have h123 := ha120.fx 1 h88
  have h124 := ha120.fx 6 h89
  have h125 := ha120.ge 1 25 rfl
  have hb126 := hb91.new_ hn119
  have hr127 := hr92.new_ hn119
  have hr128 := hr93.new_ hn119
  refine st_nil (hK116 _ _ ?_)
  rcases Bool.eq_false_or_eq_true (decide (((cleanV v).k) = 4)) with ht130 | ht130
  have ht130d := of_decide_eq_true ht130
  have hv131 := hB h125 ht130
  refine wp_cond_true hv131 ?_
  refine wp_seq_k fun K132 hK132 => ?_
  rcases Bool.eq_false_or_eq_true (decide ((((cleanV v).mag).length : Int) ≤ 0)) with ht133 | ht133
  have ht133d := of_decide_eq_true ht133
  refine wp_g0 [true, true, true, true, true, true] [] 41
    [ve (.pointer (some ⟨q9, 3, none⟩)),
     ve (.pointer (some ⟨q9, 4, none⟩)),
     ve (sv A23 ((cleanV v).mag) cc24),
     ve (iv (((cleanV v).mag).length : Int)),
     ve (.bool false),
     ve (.bool false)] hs121 (.eq (.eq (.eq (.eq (.eq (.eq (.nil))))))) ?_ ?_
  refine .o1 (tk rfl rfl fun _ w hn k => ⟨_, v_field rfl (k.fx 1 h123) (fun w => rfl), rfl⟩) ?_
  refine .o1 (tk rfl rfl fun _ w hn k => ⟨_, v_field rfl (k.eq1 0 27 rfl) (fun w => rfl), rfl⟩) ?_
  refine .o1 (tk rfl rfl fun _ w hn k => ⟨_, v_load rfl (k.eq1 1 28 rfl) (l_one Try.isAgg24 ((hb126.new_ hn).cell 4)), rfl⟩) ?_
  refine .o1 (tk rfl rfl fun _ w hn k => ⟨_, v_lenR rfl elW (k.eq1 2 29 rfl), rfl⟩) ?_
  refine .o1 (tk rfl rfl fun _ w hn k => ⟨_, v_bin rfl (k.eq1 3 30 rfl) rfl (fun _ => rfl) (r_gtrK ht133), rfl⟩) ?_
  refine .o1 (tk rfl rfl fun _ w hn k => ⟨_, v_assign rfl (k.eq1 4 31 rfl), rfl⟩) ?_
  exact .nil
  intro a134 w135 hn136 ha137
  obtain ⟨hs138, hd139, hN141⟩ := aft ha137 hs121 hd122 hN129 hn136
  have h140 := ha137.ge 5 2 rfl
  refine st_nil (hK132 _ _ ?_)
  refine wp_ret (ret_k hd139 (v := .bool false) (res_t rfl h140 _) ?_)
  refine ⟨?_, hN141⟩
  show Ending.returned (.bool false) = Ending.returned (.bool (boolV v))
  first | rfl | (simp only [boolV, ht69, ht95, ht130, ht133, bsm] <;> rfl) | (simp [boolV, ht69, ht95, ht130, ht133]; done) | (exfalso; omega)
  have ht133d := of_decide_eq_false ht133
  refine wp_g0 [true, true, true, true, true, true] [] 41
    [ve (.pointer (some ⟨q9, 3, none⟩)),
     ve (.pointer (some ⟨q9, 4, none⟩)),
     ve (sv A23 ((cleanV v).mag) cc24),
     ve (iv (((cleanV v).mag).length : Int)),
     ve (.bool true),
     ve (.bool true)] hs121 (.eq (.eq (.eq (.eq (.eq (.eq (.nil))))))) ?_ ?_
  refine .o1 (tk rfl rfl fun _ w hn k => ⟨_, v_field rfl (k.fx 1 h123) (fun w => rfl), rfl⟩) ?_
  refine .o1 (tk rfl rfl fun _ w hn k => ⟨_, v_field rfl (k.eq1 0 27 rfl) (fun w => rfl), rfl⟩) ?_
  refine .o1 (tk rfl rfl fun _ w hn k => ⟨_, v_load rfl (k.eq1 1 28 rfl) (l_one Try.isAgg24 ((hb126.new_ hn).cell 4)), rfl⟩) ?_
  refine .o1 (tk rfl rfl fun _ w hn k => ⟨_, v_lenR rfl elW (k.eq1 2 29 rfl), rfl⟩) ?_
  refine .o1 (tk rfl rfl fun _ w hn k => ⟨_, v_bin rfl (k.eq1 3 30 rfl) rfl (fun _ => rfl) (r_gtrK ht133), rfl⟩) ?_
  refine .o1 (tk rfl rfl fun _ w hn k => ⟨_, v_assign rfl (k.eq1 4 31 rfl), rfl⟩) ?_
  exact .nil
  intro a142 w143 hn144 ha145
  obtain ⟨hs146, hd147, hN149⟩ := aft ha145 hs121 hd122 hN129 hn144
  have h148 := ha145.ge 5 2 rfl
  refine st_nil (hK132 _ _ ?_)
  refine wp_ret (ret_k hd147 (v := .bool true) (res_t rfl h148 _) ?_)
  refine ⟨?_, hN149⟩
  show Ending.returned (.bool true) = Ending.returned (.bool (boolV v))
  first | rfl | (simp only [boolV, ht69, ht95, ht130, ht133, bsm] <;> rfl) | (simp [boolV, ht69, ht95, ht130, ht133]; done) | (exfalso; omega)
  have ht130d := of_decide_eq_false ht130
  have hv150 := hB h125 ht130
  refine wp_cond_false hv150 ?_
  refine wp_seq_k fun K151 hK151 => ?_
  refine wp_g0 [true, true] [] 41
    [ve (.bool (decide (((cleanV v).k) = 5))),
     ve (.bool (decide (((cleanV v).k) = 5)))] hs121 (.eq (.eq (.nil))) ?_ ?_
  refine .o1 (tk rfl rfl fun _ w hn k => ⟨_, v_bin rfl (k.fx 6 h124) rfl (fun _ => rfl) (r_eql rfl), rfl⟩) ?_
  refine .o1 (tk rfl rfl fun _ w hn k => ⟨_, v_assign rfl (k.eq1 0 33 rfl), rfl⟩) ?_
  exact .nil
  intro a152 w153 hn154 ha155
  obtain ⟨hs156, hd157, hN163⟩ := aft ha155 hs121 hd122 hN129 hn154
  have h158 := ha155.fx 1 h123
  have h159 := ha155.ge 1 32 rfl
  have hb160 := hb126.new_ hn154
  have hr161 := hr127.new_ hn154
  have hr162 := hr128.new_ hn154
  refine st_nil (hK151 _ _ ?_)
  rcases Bool.eq_false_or_eq_true (decide (((cleanV v).k) = 5)) with ht164 | ht164
  have ht164d := of_decide_eq_true ht164
  have hv165 := hB h159 ht164
  refine wp_cond_true hv165 ?_
  refine wp_seq_k fun K166 hK166 => ?_
  rcases Bool.eq_false_or_eq_true (decide ((((cleanV v).s).length : Int) ≤ 0)) with ht167 | ht167
  have ht167d := of_decide_eq_true ht167
  refine wp_g0 [true, true, true, true, true] [] 41
    [ve (.pointer (some ⟨q9, 5, none⟩)),
     ve (sv A26 ((cleanV v).s) cc27),
     ve (iv (((cleanV v).s).length : Int)),
     ve (.bool false),
     ve (.bool false)] hs156 (.eq (.eq (.eq (.eq (.eq (.nil)))))) ?_ ?_
  refine .o1 (tk rfl rfl fun _ w hn k => ⟨_, v_field rfl (k.fx 1 h158) (fun w => rfl), rfl⟩) ?_
  refine .o1 (tk rfl rfl fun _ w hn k => ⟨_, v_load rfl (k.eq1 0 34 rfl) (l_one Try.isAgg27 ((hb160.new_ hn).cell 5)), rfl⟩) ?_
  refine .o1 (tk rfl rfl fun _ w hn k => ⟨_, v_lenR rfl elU (k.eq1 1 35 rfl), rfl⟩) ?_
  refine .o1 (tk rfl rfl fun _ w hn k => ⟨_, v_bin rfl (k.eq1 2 36 rfl) rfl (fun _ => rfl) (r_gtrK ht167), rfl⟩) ?_
  refine .o1 (tk rfl rfl fun _ w hn k => ⟨_, v_assign rfl (k.eq1 3 37 rfl), rfl⟩) ?_
  exact .nil
  intro a168 w169 hn170 ha171
  obtain ⟨hs172, hd173, hN175⟩ := aft ha171 hs156 hd157 hN163 hn170
  have h174 := ha171.ge 4 2 rfl
  refine st_nil (hK166 _ _ ?_)
  refine wp_ret (ret_k hd173 (v := .bool false) (res_t rfl h174 _) ?_)
  refine ⟨?_, hN175⟩
  show Ending.returned (.bool false) = Ending.returned (.bool (boolV v))
  first | rfl | (simp only [boolV, ht69, ht95, ht130, ht164, ht167, bsm] <;> rfl) | (simp [boolV, ht69, ht95, ht130, ht164, ht167]; done) | (exfalso; omega)
  have ht167d := of_decide_eq_false ht167
  refine wp_g0 [true, true, true, true, true] [] 41
    [ve (.pointer (some ⟨q9, 5, none⟩)),
     ve (sv A26 ((cleanV v).s) cc27),
     ve (iv (((cleanV v).s).length : Int)),
     ve (.bool true),
     ve (.bool true)] hs156 (.eq (.eq (.eq (.eq (.eq (.nil)))))) ?_ ?_
  refine .o1 (tk rfl rfl fun _ w hn k => ⟨_, v_field rfl (k.fx 1 h158) (fun w => rfl), rfl⟩) ?_
  refine .o1 (tk rfl rfl fun _ w hn k => ⟨_, v_load rfl (k.eq1 0 34 rfl) (l_one Try.isAgg27 ((hb160.new_ hn).cell 5)), rfl⟩) ?_
  refine .o1 (tk rfl rfl fun _ w hn k => ⟨_, v_lenR rfl elU (k.eq1 1 35 rfl), rfl⟩) ?_
  refine .o1 (tk rfl rfl fun _ w hn k => ⟨_, v_bin rfl (k.eq1 2 36 rfl) rfl (fun _ => rfl) (r_gtrK ht167), rfl⟩) ?_
  refine .o1 (tk rfl rfl fun _ w hn k => ⟨_, v_assign rfl (k.eq1 3 37 rfl), rfl⟩) ?_
  exact .nil
  intro a176 w177 hn178 ha179
  obtain ⟨hs180, hd181, hN183⟩ := aft ha179 hs156 hd157 hN163 hn178
  have h182 := ha179.ge 4 2 rfl
  refine st_nil (hK166 _ _ ?_)
  refine wp_ret (ret_k hd181 (v := .bool true) (res_t rfl h182 _) ?_)
  refine ⟨?_, hN183⟩
  show Ending.returned (.bool true) = Ending.returned (.bool (boolV v))
  first | rfl | (simp only [boolV, ht69, ht95, ht130, ht164, ht167, bsm] <;> rfl) | (simp [boolV, ht69, ht95, ht130, ht164, ht167]; done) | (exfalso; omega)
  have ht164d := of_decide_eq_false ht164
  have hv184 := hB h159 ht164
  refine wp_cond_false hv184 ?_
  refine wp_skip ?_
  refine hK41 _ _ ?_
  refine wp_seq_k fun K185 hK185 => ?_
  refine wp_g0 [true, true, true, true] [] 41
    [ve (pv q9),
     ve (iv ((cleanV v).k)),
     ve (.bool (decide (((cleanV v).k) = 6))),
     ve (.bool (decide (((cleanV v).k) = 6)))] hs156 (.eq (.eq (.eq (.eq (.nil))))) ?_ ?_
  refine .o1 (tk rfl rfl fun _ w hn k => ⟨_, v_field rfl (k.fx 1 h158) (fun w => rfl), rfl⟩) ?_
  refine .o1 (tk rfl rfl fun _ w hn k => ⟨_, v_load rfl (k.eq1 0 38 rfl) (l_one Try.isAgg3 ((hb160.new_ hn).cell 0)), rfl⟩) ?_
  refine .o1 (tk rfl rfl fun _ w hn k => ⟨_, v_bin rfl (k.eq1 1 39 rfl) rfl (fun _ => rfl) (r_eql rfl), rfl⟩) ?_
  refine .o1 (tk rfl rfl fun _ w hn k => ⟨_, v_assign rfl (k.eq1 2 40 rfl), rfl⟩) ?_
  exact .nil
  intro a186 w187 hn188 ha189
  obtain ⟨hs190, hd191, hN193⟩ := aft ha189 hs156 hd157 hN163 hn188
  have h192 := ha189.ge 3 2 rfl
  refine st_nil (hK185 _ _ ?_)
  refine wp_ret (ret_k hd191 (v := .bool (decide (((cleanV v).k) = 6))) (res_t rfl h192 _) ?_)
  refine ⟨?_, hN193⟩
  show Ending.returned (.bool (decide (((cleanV v).k) = 6))) = Ending.returned (.bool (boolV v))
  first | rfl | (simp only [boolV, ht69, ht95, ht130, ht164, bsm] <;> rfl) | (simp [boolV, ht69, ht95, ht130, ht164]; done) | (exfalso; omega)
def cstr_c_P (Au : Option Addr) (u : List Nat) (cu : Nat) (w : World) (en : Ending) (w' : World) : Prop := ∃ (Ar0 : Option Addr) (cr0 : Nat) (Ar1 : Option Addr) (cr1 : Nat), en = .returned (vv (strV u) Ar0 cr0 Ar1 cr1) ∧ SRow w' .u32 Ar0 ((strV u).mag) cr0 ∧ SRow w' .u16 Ar1 ((strV u).s) cr1 ∧ New w w'
set_option maxHeartbeats 4000000 in
set_option maxRecDepth 100000 in
theorem cstr_c (Au : Option Addr) (u : List Nat) (cu : Nat) (w : World) (hru : SRow w .u16 Au u cu) (hs : u.length ≤ 20000) : Calls Try.prog 18 #[sv Au u cu] w (cstr_c_P Au u cu w) := by
  refine enter_abs Try.func18 rfl fun a0 hs0 hd0 hp => ?_
  have hs0 : a0.tmps.size = 10 := hs0
  have hN0 : New w w := Upd.refl _ _
  have hp0 : a0.eval (.tmp 0) = sv Au u cu := hp 0 _ rfl
  refine wp_seq_k fun K1 hK1 => ?_
  refine wp_g [true] [] [] 10
    [IsNew w 29 [iv 0, iv 0, iv 0, .bool false, sv none ([]) 0, sv none ([]) 0, iv 0]]
    [0] (newsCons (fun v w h => IsNew.old h) newsNil) hs0 (.nw (.nil)) ?_ (fun i h => by cases h) ?_
  refine .o2 (step_allocN (cs := [iv 0, iv 0, iv 0, .bool false, sv none ([]) 0, sv none ([]) 0, iv 0]) (t := 29) rfl (noG rfl) (fun _ w hn k => rfl) (fun q _ hq hb => ⟨q, rfl, hq, hb⟩)) ?_
  exact .nil
  intro a2 w3 hn4 ha5
  obtain ⟨hs6, hd7, hN14⟩ := aft ha5 hs0 hd0 hN0 hn4
  have h8 := ha5.fx 0 hp0
  obtain ⟨q10, h9, hq11, hb12⟩ : IsNew _ _ _ _ _ := ha5.got 0 2 rfl (by kernel_rfl)
  have hq13 := Nat.le_trans hN0.size hq11
  refine st_nil (hK1 _ _ ?_)
  refine wp_seq_k fun K15 hK15 => ?_
  refine wp_g0 [true, true, true, true, true, true, true, false] [(7, false)] 10
    [ve (sv Au u cu),
     ve (sv Au u cu),
     ve (iv (u.length : Int)),
     ve (iv (min (u.length : Int) 4096)),
     (fun (v_ : Value) (W : World) => ∃ (A3 : Option Addr) (c4 : Nat), v_ = sv A3 (u.take ((min (u.length : Int) 4096 : Int).toNat)) c4 ∧ SRow W .u16 A3 (u.take ((min (u.length : Int) 4096 : Int).toNat)) c4),
     (fun (v_ : Value) (W : World) => ∃ (A11 : Option Addr) (c12 : Nat), v_ = sv A11 (u.take ((min (u.length : Int) 4096 : Int).toNat)) c12 ∧ SOwn W w3.heap.size 66 .u16 A11 (u.take ((min (u.length : Int) 4096 : Int).toNat)) c12),
     (fun (v_ : Value) (W : World) => ∃ (A17 : Option Addr) (c18 : Nat), v_ = vv (Vl.mk 5 0 0 false [] (u.take ((min (u.length : Int) 4096 : Int).toNat)) 0) none 0 A17 c18 ∧ SOwn W w3.heap.size 66 .u16 A17 (u.take ((min (u.length : Int) 4096 : Int).toNat)) c18),
     vt] hs6 (.eq (.eq (.eq (.eq (.cons (fun v W W' hn ⟨A3, c4, he, h0⟩ => ⟨A3, c4, he, h0.new_ hn⟩) (.cons (fun v W W' hn ⟨A11, c12, he, h0⟩ => ⟨A11, c12, he, h0.new_ hn⟩) (.cons (fun v W W' hn ⟨A17, c18, he, h0⟩ => ⟨A17, c18, he, h0.new_ hn⟩) (.tt (.nil))))))))) ?_ ?_
  refine .o1 (tk rfl rfl fun _ w hn k => ⟨_, v_move rfl (k.fx 0 h8), rfl⟩) ?_
  refine .o1 (tk rfl rfl fun _ w hn k => ⟨_, v_move rfl (k.fx 0 h8), rfl⟩) ?_
  refine .o1 (tk rfl rfl fun _ w hn k => ⟨_, v_lenR rfl elU (k.eq1 1 4 rfl), rfl⟩) ?_
  refine .o1 (tk rfl rfl fun _ w hn k => ⟨_, v_min rfl (k.eq1 2 5 rfl) rfl, rfl⟩) ?_
  refine .o1 (tk rfl rfl fun _ w hn k => (by
        exact x_cutH (k := .u16) rfl elU (k.eq1 0 3 rfl) (k.eq1 3 6 rfl) (hru.new_ (hN14.transNew hn)) (by omega) fun A1 c2 hmr => ⟨A1, c2, rfl, hmr⟩)) ?_
  refine .o1 (tkC rfl (noG rfl) rfl fun _ w hn k => (by
        obtain ⟨A5, c6, e7, hx8⟩ : (fun (v_ : Value) (W : World) => ∃ (A3 : Option Addr) (c4 : Nat), v_ = sv A3 (u.take ((min (u.length : Int) 4096 : Int).toNat)) c4 ∧ SRow W .u16 A3 (u.take ((min (u.length : Int) 4096 : Int).toNat)) c4) _ _ := k.dep 4 7 (by kernel_rfl) (by kernel_rfl)
        refine ⟨#[sv A5 (u.take ((min (u.length : Int) 4096 : Int).toNat)) c6], _, args1 e7, fun w => by kernel_rfl, clone16_c _ (u.take ((min (u.length : Int) 4096 : Int).toNat)) _ _ hx8 (by first | omega | (simp only [List.length_nil, List.length_take, List.length_drop]; omega) | (simp only [List.length_cons, List.length_nil]; omega)), ?_⟩
        rintro e w' ⟨A9, c10, rfl, hmo0, hm⟩
        exact ⟨_, rfl, hm, ⟨A9, c10, rfl, (hmo0.more hn.size)⟩⟩)) ?_
  refine .o1 (tk rfl rfl fun _ w hn k => (by
        obtain ⟨A13, c14, e15, hx16⟩ : (fun (v_ : Value) (W : World) => ∃ (A11 : Option Addr) (c12 : Nat), v_ = sv A11 (u.take ((min (u.length : Int) 4096 : Int).toNat)) c12 ∧ SOwn W w3.heap.size 66 .u16 A11 (u.take ((min (u.length : Int) 4096 : Int).toNat)) c12) _ _ := k.dep 5 8 (by kernel_rfl) (by kernel_rfl)
        exact ⟨_, v_build (ps := [(0, iv 5), (3, sv A13 (u.take ((min (u.length : Int) 4096 : Int).toNat)) c14)]) rfl (parts2 rfl e15) (by kernel_rfl), ⟨A13, c14, rfl, hx16⟩⟩)) ?_
  refine .off ?_
  exact .nil
  intro a16 w17 hn18 ha19
  obtain ⟨hs20, hd21, hN29⟩ := aft ha19 hs6 hd7 hN14 hn18
  have h22 := ha19.fx 2 h9
  obtain ⟨A24, cc25, h23, hr26⟩ : (fun (v_ : Value) (W : World) => ∃ (A17 : Option Addr) (c18 : Nat), v_ = vv (Vl.mk 5 0 0 false [] (u.take ((min (u.length : Int) 4096 : Int).toNat)) 0) none 0 A17 c18 ∧ SOwn W w3.heap.size 66 .u16 A17 (u.take ((min (u.length : Int) 4096 : Int).toNat)) c18) _ _ := ha19.got 6 9 rfl (by kernel_rfl)
  have h23 : a16.eval (.tmp 9) = vv (Vl.mk 5 0 0 false [] (u.take ((min (u.length : Int) 4096 : Int).toNat)) 0) none 0 A24 cc25 := h23
  have hb27 := hb12.new_ hn18
  have hr28 := hr26.more hN14.size
  obtain ⟨w30, hst31, hb320, hu33, hf34⟩ := s_many (P := Try.prog) (t := 29) (i := 0) [iv 5, iv 0, iv 0, .bool false, sv none ([]) 0, sv A24 (u.take ((min (u.length : Int) 4096 : Int).toNat)) cc25, iv 0] Try.sizeOf29 rfl rfl rfl hb27 (Nat.le_of_ble_eq_true rfl)
  have hb32 : Blk w30 q10 29 [iv 5, iv 0, iv 0, .bool false, sv none ([]) 0, sv A24 (u.take ((min (u.length : Int) 4096 : Int).toNat)) cc25, iv 0] := hb320
  refine st_act rfl rfl fun K35 hL36 => a_store' rfl h22 h23 hst31 (hL36 _ _ trivial ?_)
  have hr37 := hr28.far hb27 hu33 (by decide)
  have hN38 := hN29.trans hu33 (fun k hk hkb => by subst hkb; omega)
  refine st_nil (hK15 _ _ ?_)
  refine wp_ret (ret_k hd21 (v := vv (Vl.mk 5 0 0 false [] (u.take ((min (u.length : Int) 4096 : Int).toNat)) 0) none 0 A24 cc25) (res_c rfl h22 (l_agg Try.isAgg29 Try.sizeOf29 hb32 rfl)) ?_)
  have hx0 : (strV u).mag = [] := by first | rfl | (simp only [strV, tk_min, bsm] <;> rfl) | (simp [strV, tk_min]; done) | (exfalso; omega)
  have hx1 : (strV u).s = (u.take ((min (u.length : Int) 4096 : Int).toNat)) := by first | rfl | (simp only [strV, tk_min, bsm] <;> rfl) | (simp [strV, tk_min]; done) | (exfalso; omega)
  exact ⟨none, 0, A24, cc25, (by show Ending.returned (vv (Vl.mk 5 0 0 false [] (u.take ((min (u.length : Int) 4096 : Int).toNat)) 0) none 0 A24 cc25) = Ending.returned (vv (strV u) none 0 A24 cc25); (first | rfl | (simp only [strV, hx0, hx1, tk_min, bsm] <;> rfl) | (simp [strV, hx0, hx1, tk_min]; done) | (exfalso; omega))), (by rw [hx0]; exact (SRow.nil _ _)), (by rw [hx1]; exact hr37.row), hN38⟩
set_option maxHeartbeats 16000000 in
set_option maxRecDepth 100000 in
theorem cloose_c (v : Vl) (Av : Option Addr) (cv : Nat) (Bv : Option Addr) (dv : Nat) (u : Vl) (Au : Option Addr) (cu : Nat) (Bu : Option Addr) (du : Nat) (w : World) (hmv : SRow w .u32 Av v.mag cv) (hsv : SRow w .u16 Bv v.s dv) (hmu : SRow w .u32 Au u.mag cu) (hsu : SRow w .u16 Bu u.s du) (hvv : VOk v) (hvu : VOk u) : Calls Try.prog 9 #[vv v Av cv Bv dv, vv u Au cu Bu du] w (IsRet (.tuple #[.bool ((looseV v u).1), iv ((looseV v u).2)]) w) := by
  refine enter_abs Try.func9 rfl fun a0 hs0 hd0 hp => ?_
  have hs0 : a0.tmps.size = 91 := hs0
  have hN0 : New w w := Upd.refl _ _
  have hp0 : a0.eval (.tmp 0) = vv v Av cv Bv dv := hp 0 _ rfl
  have hp1 : a0.eval (.tmp 1) = vv u Au cu Bu du := hp 1 _ rfl
  have hlv1 := hvv.clean.mlen
  have hlu1 := hvu.clean.mlen
  have hlv2 := hvv.clean.counted.mlen
  have hlu2 := hvu.clean.counted.mlen
  have hx1 := hvv.clean.counted.nlo
  have hx2 := hvv.clean.counted.nhi
  have hx3 := hvu.clean.counted.nlo
  have hx4 := hvu.clean.counted.nhi
  refine wp_seq_k fun K1 hK1 => ?_
  refine wp_g [true, true, true, true] [] [] 91
    [IsNew w 29 [iv v.k, iv v.nk, iv v.nn, .bool v.neg, sv Av v.mag cv, sv Bv v.s dv, iv v.ref],
     IsNew w 29 [iv u.k, iv u.nk, iv u.nn, .bool u.neg, sv Au u.mag cu, sv Bu u.s du, iv u.ref],
     ve (.bool false),
     ve (iv 0)]
    [0, 1] (newsCons (fun v w h => IsNew.old h) (newsCons (fun v w h => IsNew.old h) newsNil)) hs0 (.nw (.nw (.eq (.eq (.nil))))) ?_ (fun i h => by cases h) ?_
  refine .o2 (step_allocN (cs := [iv v.k, iv v.nk, iv v.nn, .bool v.neg, sv Av v.mag cv, sv Bv v.s dv, iv v.ref]) (t := 29) rfl (noG rfl) (fun _ w hn k => v_box rfl (k.fx 0 hp0) (fun w => rfl)) (fun q _ hq hb => ⟨q, rfl, hq, hb⟩)) ?_
  refine .o2 (step_allocN (cs := [iv u.k, iv u.nk, iv u.nn, .bool u.neg, sv Au u.mag cu, sv Bu u.s du, iv u.ref]) (t := 29) rfl (noG rfl) (fun _ w hn k => v_box rfl (k.fx 1 hp1) (fun w => rfl)) (fun q _ hq hb => ⟨q, rfl, hq, hb⟩)) ?_
  refine .o1 (tk rfl rfl fun _ w hn k => ⟨_, v_assign rfl rfl, rfl⟩) ?_
  refine .o1 (tk rfl rfl fun _ w hn k => ⟨_, v_assign rfl rfl, rfl⟩) ?_
  exact .nil
  intro a2 w3 hn4 ha5
  obtain ⟨hs6, hd7, hN19⟩ := aft ha5 hs0 hd0 hN0 hn4
  obtain ⟨q9, h8, hq10, hb11⟩ : IsNew _ _ _ _ _ := ha5.got 0 2 rfl (by kernel_rfl)
  obtain ⟨q13, h12, hq14, hb15⟩ : IsNew _ _ _ _ _ := ha5.got 1 3 rfl (by kernel_rfl)
  have hne16 : q9 ≠ q13 := ha5.ne 0 1 2 3 h8 h12
  have hq17 := Nat.le_trans hN0.size hq10
  have hq18 := Nat.le_trans hN0.size hq14
  refine st_nil (hK1 _ _ ?_)
  refine wp_seq_k fun K20 hK20 => ?_
  refine wp_g0 [true, true, true, true, false, false] [(4, false), (5, false)] 91
    [ve (vv v Av cv Bv dv),
     (fun (v_ : Value) (W : World) => ∃ (A5 : Option Addr) (c6 : Nat) (A7 : Option Addr) (c8 : Nat), v_ = vv (cleanV v) A5 c6 A7 c8 ∧ SRow W .u32 A5 ((cleanV v).mag) c6 ∧ SRow W .u16 A7 ((cleanV v).s) c8),
     ve (vv u Au cu Bu du),
     (fun (v_ : Value) (W : World) => ∃ (A13 : Option Addr) (c14 : Nat) (A15 : Option Addr) (c16 : Nat), v_ = vv (cleanV u) A13 c14 A15 c16 ∧ SRow W .u32 A13 ((cleanV u).mag) c14 ∧ SRow W .u16 A15 ((cleanV u).s) c16),
     vt,
     vt] hs6 (.eq (.cons (fun v W W' hn ⟨A5, c6, A7, c8, he, h0, h1⟩ => ⟨A5, c6, A7, c8, he, h0.new_ hn, h1.new_ hn⟩) (.eq (.cons (fun v W W' hn ⟨A13, c14, A15, c16, he, h0, h1⟩ => ⟨A13, c14, A15, c16, he, h0.new_ hn, h1.new_ hn⟩) (.tt (.tt (.nil))))))) ?_ ?_
  refine .o1 (tk rfl rfl fun _ w hn k => ⟨_, v_load rfl (k.fx 2 h8) (l_agg Try.isAgg29 Try.sizeOf29 (hb11.new_ hn) rfl), rfl⟩) ?_
  refine .o1 (tkC rfl (noG rfl) rfl fun _ w hn k => (by
        refine ⟨#[vv v Av cv Bv dv], _, args1 (k.eq1 0 8 rfl), fun w => by kernel_rfl, clean_c v _ _ _ _ _ (hmv.new_ (hN19.transNew hn)) (hsv.new_ (hN19.transNew hn)), ?_⟩
        rintro e w' ⟨A1, c2, A3, c4, rfl, hmo0, hmo1, hm⟩
        exact ⟨_, rfl, hm, ⟨A1, c2, A3, c4, rfl, hmo0, hmo1⟩⟩)) ?_
  refine .o1 (tk rfl rfl fun _ w hn k => ⟨_, v_load rfl (k.fx 3 h12) (l_agg Try.isAgg29 Try.sizeOf29 (hb15.new_ hn) rfl), rfl⟩) ?_
  refine .o1 (tkC rfl (noG rfl) rfl fun _ w hn k => (by
        refine ⟨#[vv u Au cu Bu du], _, args1 (k.eq1 2 10 rfl), fun w => by kernel_rfl, clean_c u _ _ _ _ _ (hmu.new_ (hN19.transNew hn)) (hsu.new_ (hN19.transNew hn)), ?_⟩
        rintro e w' ⟨A9, c10, A11, c12, rfl, hmo0, hmo1, hm⟩
        exact ⟨_, rfl, hm, ⟨A9, c10, A11, c12, rfl, hmo0, hmo1⟩⟩)) ?_
  refine .off ?_
  refine .off ?_
  exact .nil
  intro a21 w22 hn23 ha24
  obtain ⟨hs25, hd26, hN45⟩ := aft ha24 hs6 hd7 hN19 hn23
  have h27 := ha24.fx 2 h8
  have h28 := ha24.fx 3 h12
  obtain ⟨A30, cc31, A33, cc34, h29, hr32, hr35⟩ : (fun (v_ : Value) (W : World) => ∃ (A5 : Option Addr) (c6 : Nat) (A7 : Option Addr) (c8 : Nat), v_ = vv (cleanV v) A5 c6 A7 c8 ∧ SRow W .u32 A5 ((cleanV v).mag) c6 ∧ SRow W .u16 A7 ((cleanV v).s) c8) _ _ := ha24.got 1 9 rfl (by kernel_rfl)
  have h29 : a21.eval (.tmp 9) = vv (cleanV v) A30 cc31 A33 cc34 := h29
  obtain ⟨A37, cc38, A40, cc41, h36, hr39, hr42⟩ : (fun (v_ : Value) (W : World) => ∃ (A13 : Option Addr) (c14 : Nat) (A15 : Option Addr) (c16 : Nat), v_ = vv (cleanV u) A13 c14 A15 c16 ∧ SRow W .u32 A13 ((cleanV u).mag) c14 ∧ SRow W .u16 A15 ((cleanV u).s) c16) _ _ := ha24.got 3 11 rfl (by kernel_rfl)
  have h36 : a21.eval (.tmp 11) = vv (cleanV u) A37 cc38 A40 cc41 := h36
  have hb43 := hb11.new_ hn23
  have hb44 := hb15.new_ hn23
  obtain ⟨w46, hst47, hb480, hu49, hf50⟩ := s_many (P := Try.prog) (t := 29) (i := 0) [iv ((cleanV v).k), iv ((cleanV v).nk), iv ((cleanV v).nn), .bool ((cleanV v).neg), sv A30 ((cleanV v).mag) cc31, sv A33 ((cleanV v).s) cc34, iv ((cleanV v).ref)] Try.sizeOf29 rfl rfl rfl hb43 (Nat.le_of_ble_eq_true rfl)
  have hb48 : Blk w46 q9 29 [iv ((cleanV v).k), iv ((cleanV v).nk), iv ((cleanV v).nn), .bool ((cleanV v).neg), sv A30 ((cleanV v).mag) cc31, sv A33 ((cleanV v).s) cc34, iv ((cleanV v).ref)] := hb480
  refine st_act rfl rfl fun K51 hL52 => a_store' rfl h27 h29 hst47 (hL52 _ _ trivial ?_)
  have hr53 := hr32.far hb43 hu49 (by first | rfl | decide | simp [notK])
  have hr54 := hr35.far hb43 hu49 (by first | rfl | decide | simp [notK])
  have hr55 := hr39.far hb43 hu49 (by first | rfl | decide | simp [notK])
  have hr56 := hr42.far hb43 hu49 (by first | rfl | decide | simp [notK])
  have hb57 := hf50 _ _ _ (fun h => hne16 h.symm) hb44
  have hN58 := hN45.trans hu49 (fun k hk hkb => by subst hkb; omega)
  obtain ⟨w59, hst60, hb610, hu62, hf63⟩ := s_many (P := Try.prog) (t := 29) (i := 0) [iv ((cleanV u).k), iv ((cleanV u).nk), iv ((cleanV u).nn), .bool ((cleanV u).neg), sv A37 ((cleanV u).mag) cc38, sv A40 ((cleanV u).s) cc41, iv ((cleanV u).ref)] Try.sizeOf29 rfl rfl rfl hb57 (Nat.le_of_ble_eq_true rfl)
  have hb61 : Blk w59 q13 29 [iv ((cleanV u).k), iv ((cleanV u).nk), iv ((cleanV u).nn), .bool ((cleanV u).neg), sv A37 ((cleanV u).mag) cc38, sv A40 ((cleanV u).s) cc41, iv ((cleanV u).ref)] := hb610
  refine st_act rfl rfl fun K64 hL65 => a_store' rfl h28 h36 hst60 (hL65 _ _ trivial ?_)
  have hr66 := hr53.far hb57 hu62 (by first | rfl | decide | simp [notK])
  have hr67 := hr54.far hb57 hu62 (by first | rfl | decide | simp [notK])
  have hr68 := hr55.far hb57 hu62 (by first | rfl | decide | simp [notK])
  have hr69 := hr56.far hb57 hu62 (by first | rfl | decide | simp [notK])
  have hb70 := hf63 _ _ _ (hne16) hb48
  have hN71 := hN58.trans hu62 (fun k hk hkb => by subst hkb; omega)
  refine st_nil (hK20 _ _ ?_)
  refine wp_seq_k fun K72 hK72 => ?_
  refine wp_block ?_
  refine wp_seq_k fun K73 hK73 => ?_
  refine wp_g0 [true, true, true, true, true, true] [] 91
    [ve (pv q9),
     ve (iv ((cleanV v).k)),
     ve (pv q13),
     ve (iv ((cleanV u).k)),
     ve (.bool (decide (((cleanV v).k) = ((cleanV u).k)))),
     ve (.bool (decide (((cleanV v).k) = ((cleanV u).k))))] hs25 (.eq (.eq (.eq (.eq (.eq (.eq (.nil))))))) ?_ ?_
  refine .o1 (tk rfl rfl fun _ w hn k => ⟨_, v_field rfl (k.fx 2 h27) (fun w => rfl), rfl⟩) ?_
  refine .o1 (tk rfl rfl fun _ w hn k => ⟨_, v_load rfl (k.eq1 0 13 rfl) (l_one Try.isAgg3 ((hb70.new_ hn).cell 0)), rfl⟩) ?_
  refine .o1 (tk rfl rfl fun _ w hn k => ⟨_, v_field rfl (k.fx 3 h28) (fun w => rfl), rfl⟩) ?_
  refine .o1 (tk rfl rfl fun _ w hn k => ⟨_, v_load rfl (k.eq1 2 15 rfl) (l_one Try.isAgg3 ((hb61.new_ hn).cell 0)), rfl⟩) ?_
  refine .o1 (tk rfl rfl fun _ w hn k => ⟨_, v_bin rfl (k.eq1 1 14 rfl) (k.eq1 3 16 rfl) (fun _ => rfl) (r_eql rfl), rfl⟩) ?_
  refine .o1 (tk rfl rfl fun _ w hn k => ⟨_, v_assign rfl (k.eq1 4 17 rfl), rfl⟩) ?_
  exact .nil
  intro a74 w75 hn76 ha77
  obtain ⟨hs78, hd79, hN89⟩ := aft ha77 hs25 hd26 hN71 hn76
  have h80 := ha77.fx 2 h27
  have h81 := ha77.fx 3 h28
  have h82 := ha77.ge 5 12 rfl
  have hb83 := hb70.new_ hn76
  have hb84 := hb61.new_ hn76
  have hr85 := hr66.new_ hn76
  have hr86 := hr67.new_ hn76
  have hr87 := hr68.new_ hn76
  have hr88 := hr69.new_ hn76
  refine st_nil (hK73 _ _ ?_)
  rcases Bool.eq_false_or_eq_true (decide (((cleanV v).k) = ((cleanV u).k))) with ht90 | ht90
  have ht90d := of_decide_eq_true ht90
  have hv91 := hB h82 ht90
  refine wp_cond_true hv91 ?_
  refine wp_seq_k fun K92 hK92 => ?_
  refine wp_g0 [true, true, true, true, true] [] 91
    [ve (vv (cleanV v) A30 cc31 A33 cc34),
     ve (vv (cleanV u) A37 cc38 A40 cc41),
     ve (.bool (strictV (cleanV v) (cleanV u))),
     ve (.bool (strictV (cleanV v) (cleanV u))),
     ve (iv 0)] hs78 (.eq (.eq (.eq (.eq (.eq (.nil)))))) ?_ ?_
  refine .o1 (tk rfl rfl fun _ w hn k => ⟨_, v_load rfl (k.fx 2 h80) (l_agg Try.isAgg29 Try.sizeOf29 (hb83.new_ hn) rfl), rfl⟩) ?_
  refine .o1 (tk rfl rfl fun _ w hn k => ⟨_, v_load rfl (k.fx 3 h81) (l_agg Try.isAgg29 Try.sizeOf29 (hb84.new_ hn) rfl), rfl⟩) ?_
  refine .o1 (ck rfl rfl rfl (fun _ w hn k => ⟨#[vv (cleanV v) A30 cc31 A33 cc34, vv (cleanV u) A37 cc38 A40 cc41], args2 (k.eq1 0 18 rfl) (k.eq1 1 19 rfl), fun _ => by kernel_rfl, cstrict_c (cleanV v) _ _ _ _ (cleanV u) _ _ _ _ _ (hr85.new_ hn) (hr86.new_ hn) (hr87.new_ hn) (hr88.new_ hn)⟩) fun _ => rfl) ?_
  refine .o1 (tk rfl rfl fun _ w hn k => ⟨_, v_assign rfl (k.eq1 2 20 rfl), rfl⟩) ?_
  refine .o1 (tk rfl rfl fun _ w hn k => ⟨_, v_assign rfl rfl, rfl⟩) ?_
  exact .nil
  intro a93 w94 hn95 ha96
  obtain ⟨hs97, hd98, hN101⟩ := aft ha96 hs78 hd79 hN89 hn95
  have h99 := ha96.ge 3 4 rfl
  have h100 := ha96.ge 4 5 rfl
  refine st_nil (hK92 _ _ ?_)
  refine wp_ret (ret_k hd98 (v := .tuple #[.bool (strictV (cleanV v) (cleanV u)), iv 0]) (res_tt rfl h99 h100 _) ?_)
  refine ⟨?_, hN101⟩
  show Ending.returned (.tuple #[.bool (strictV (cleanV v) (cleanV u)), iv 0]) = Ending.returned (.tuple #[.bool ((looseV v u).1), iv ((looseV v u).2)])
  first | rfl | (simp only [looseV, loose1, loose2, loose3, noneV, ht90, bsm] <;> rfl) | (simp [looseV, loose1, loose2, loose3, noneV, ht90]; done) | (exfalso; omega)
  have ht90d := of_decide_eq_false ht90
  have hv102 := hB h82 ht90
  refine wp_cond_false hv102 ?_
  refine wp_seq_k fun K103 hK103 => ?_
  rcases Bool.eq_false_or_eq_true ((decide ((cleanV v).k = 0) || decide ((cleanV v).k = 1))) with ht104 | ht104
  refine wp_g0 [true, true, true, true, true, true, true] [] 91
    [ve (vv (cleanV v) A30 cc31 A33 cc34),
     ve (.bool true),
     ve (.bool true),
     ve undef,
     ve undef,
     ve (.bool true),
     ve (.bool true)] hs78 (.eq (.eq (.eq (.eq (.eq (.eq (.eq (.nil)))))))) ?_ ?_
  refine .o1 (tk rfl rfl fun _ w hn k => ⟨_, v_load rfl (k.fx 2 h80) (l_agg Try.isAgg29 Try.sizeOf29 (hb83.new_ hn) rfl), rfl⟩) ?_
  refine .o1 (ck rfl rfl rfl (fun _ w hn k => ⟨#[vv (cleanV v) A30 cc31 A33 cc34], args1 (k.eq1 0 22 rfl), fun _ => by kernel_rfl, none_c (cleanV v) _ _ _ _ _ (hr85.new_ hn) (hr86.new_ hn)⟩) fun _ => congrArg Value.bool ht104) ?_
  refine .o1 (tk rfl rfl fun _ w hn k => ⟨_, v_move rfl (k.eq1 1 23 rfl), rfl⟩) ?_
  refine .o1 (sk rfl rfl rfl (fun _ _ _ k => k.eq1 2 24 rfl) (fun _ => rfl)) ?_
  refine .o1 (sk rfl rfl rfl (fun _ _ _ k => k.eq1 2 24 rfl) (fun _ => rfl)) ?_
  refine .o1 (tk rfl rfl fun _ w hn k => ⟨_, v_pickT rfl (k.eq1 2 24 rfl) rfl, rfl⟩) ?_
  refine .o1 (tk rfl rfl fun _ w hn k => ⟨_, v_assign rfl (k.eq1 5 27 rfl), rfl⟩) ?_
  exact .nil
  intro a105 w106 hn107 ha108
  obtain ⟨hs109, hd110, hN120⟩ := aft ha108 hs78 hd79 hN89 hn107
  have h111 := ha108.fx 2 h80
  have h112 := ha108.fx 3 h81
  have h113 := ha108.ge 6 21 rfl
  have hb114 := hb83.new_ hn107
  have hb115 := hb84.new_ hn107
  have hr116 := hr85.new_ hn107
  have hr117 := hr86.new_ hn107
  have hr118 := hr87.new_ hn107
  have hr119 := hr88.new_ hn107
  refine st_nil (hK103 _ _ ?_)
  refine wp_cond_true h113 ?_
  refine wp_seq_k fun K121 hK121 => ?_
  refine wp_g0 [true, true, true, true, true, true, true, true] [] 91
    [ve (vv (cleanV v) A30 cc31 A33 cc34),
     ve (.bool true),
     ve (.bool true),
     ve (vv (cleanV u) A37 cc38 A40 cc41),
     ve (.bool (decide ((cleanV u).k = 0) || decide ((cleanV u).k = 1))),
     ve (.bool (decide ((cleanV u).k = 0) || decide ((cleanV u).k = 1))),
     ve (.bool (decide ((cleanV u).k = 0) || decide ((cleanV u).k = 1))),
     ve (iv 0)] hs109 (.eq (.eq (.eq (.eq (.eq (.eq (.eq (.eq (.nil))))))))) ?_ ?_
  refine .o1 (tk rfl rfl fun _ w hn k => ⟨_, v_load rfl (k.fx 2 h111) (l_agg Try.isAgg29 Try.sizeOf29 (hb114.new_ hn) rfl), rfl⟩) ?_
  refine .o1 (ck rfl rfl rfl (fun _ w hn k => ⟨#[vv (cleanV v) A30 cc31 A33 cc34], args1 (k.eq1 0 28 rfl), fun _ => by kernel_rfl, none_c (cleanV v) _ _ _ _ _ (hr116.new_ hn) (hr117.new_ hn)⟩) fun _ => congrArg Value.bool ht104) ?_
  refine .o1 (tk rfl rfl fun _ w hn k => ⟨_, v_move rfl (k.eq1 1 29 rfl), rfl⟩) ?_
  refine .o1 (tg rfl rfl rfl (fun _ _ k => k.eq1 2 30 rfl) fun _ w hn k => ⟨_, v_load rfl (k.fx 3 h112) (l_agg Try.isAgg29 Try.sizeOf29 (hb115.new_ hn) rfl), rfl⟩) ?_
  refine .o1 (cg rfl rfl rfl (fun _ _ k => k.eq1 2 30 rfl) rfl (fun _ w hn k => ⟨#[vv (cleanV u) A37 cc38 A40 cc41], args1 (k.eq1 3 31 rfl), fun _ => by kernel_rfl, none_c (cleanV u) _ _ _ _ _ (hr118.new_ hn) (hr119.new_ hn)⟩) fun _ => rfl) ?_
  refine .o1 (tk rfl rfl fun _ w hn k => ⟨_, v_pickT rfl (k.eq1 2 30 rfl) (k.eq1 4 32 rfl), rfl⟩) ?_
  refine .o1 (tk rfl rfl fun _ w hn k => ⟨_, v_assign rfl (k.eq1 5 33 rfl), rfl⟩) ?_
  refine .o1 (tk rfl rfl fun _ w hn k => ⟨_, v_assign rfl rfl, rfl⟩) ?_
  exact .nil
  intro a122 w123 hn124 ha125
  obtain ⟨hs126, hd127, hN130⟩ := aft ha125 hs109 hd110 hN120 hn124
  have h128 := ha125.ge 6 4 rfl
  have h129 := ha125.ge 7 5 rfl
  refine st_nil (hK121 _ _ ?_)
  refine wp_ret (ret_k hd127 (v := .tuple #[.bool (decide ((cleanV u).k = 0) || decide ((cleanV u).k = 1)), iv 0]) (res_tt rfl h128 h129 _) ?_)
  refine ⟨?_, hN130⟩
  show Ending.returned (.tuple #[.bool (decide ((cleanV u).k = 0) || decide ((cleanV u).k = 1)), iv 0]) = Ending.returned (.tuple #[.bool ((looseV v u).1), iv ((looseV v u).2)])
  first | rfl | (simp only [looseV, loose1, loose2, loose3, noneV, ht90, ht104, bsm] <;> rfl) | (simp [looseV, loose1, loose2, loose3, noneV, ht90, ht104]; done) | (exfalso; omega)
  refine wp_g0 [true, true, true, true, true, true, true] [] 91
    [ve (vv (cleanV v) A30 cc31 A33 cc34),
     ve (.bool false),
     ve (.bool false),
     ve (vv (cleanV u) A37 cc38 A40 cc41),
     ve (.bool (decide ((cleanV u).k = 0) || decide ((cleanV u).k = 1))),
     ve (.bool (decide ((cleanV u).k = 0) || decide ((cleanV u).k = 1))),
     ve (.bool (decide ((cleanV u).k = 0) || decide ((cleanV u).k = 1)))] hs78 (.eq (.eq (.eq (.eq (.eq (.eq (.eq (.nil)))))))) ?_ ?_
  refine .o1 (tk rfl rfl fun _ w hn k => ⟨_, v_load rfl (k.fx 2 h80) (l_agg Try.isAgg29 Try.sizeOf29 (hb83.new_ hn) rfl), rfl⟩) ?_
  refine .o1 (ck rfl rfl rfl (fun _ w hn k => ⟨#[vv (cleanV v) A30 cc31 A33 cc34], args1 (k.eq1 0 22 rfl), fun _ => by kernel_rfl, none_c (cleanV v) _ _ _ _ _ (hr85.new_ hn) (hr86.new_ hn)⟩) fun _ => congrArg Value.bool ht104) ?_
  refine .o1 (tk rfl rfl fun _ w hn k => ⟨_, v_move rfl (k.eq1 1 23 rfl), rfl⟩) ?_
  refine .o1 (tg rfl rfl rfl (fun _ _ k => k.eq1 2 24 rfl) fun _ w hn k => ⟨_, v_load rfl (k.fx 3 h81) (l_agg Try.isAgg29 Try.sizeOf29 (hb84.new_ hn) rfl), rfl⟩) ?_
  refine .o1 (cg rfl rfl rfl (fun _ _ k => k.eq1 2 24 rfl) rfl (fun _ w hn k => ⟨#[vv (cleanV u) A37 cc38 A40 cc41], args1 (k.eq1 3 25 rfl), fun _ => by kernel_rfl, none_c (cleanV u) _ _ _ _ _ (hr87.new_ hn) (hr88.new_ hn)⟩) fun _ => rfl) ?_
  refine .o1 (tk rfl rfl fun _ w hn k => ⟨_, v_pickF rfl (k.eq1 2 24 rfl) (k.eq1 4 26 rfl), rfl⟩) ?_
  refine .o1 (tk rfl rfl fun _ w hn k => ⟨_, v_assign rfl (k.eq1 5 27 rfl), rfl⟩) ?_
  exact .nil
  intro a131 w132 hn133 ha134
  obtain ⟨hs135, hd136, hN146⟩ := aft ha134 hs78 hd79 hN89 hn133
  have h137 := ha134.fx 2 h80
  have h138 := ha134.fx 3 h81
  have h139 := ha134.ge 6 21 rfl
  have hb140 := hb83.new_ hn133
  have hb141 := hb84.new_ hn133
  have hr142 := hr85.new_ hn133
  have hr143 := hr86.new_ hn133
  have hr144 := hr87.new_ hn133
  have hr145 := hr88.new_ hn133
  refine st_nil (hK103 _ _ ?_)
  rcases Bool.eq_false_or_eq_true ((decide ((cleanV u).k = 0) || decide ((cleanV u).k = 1))) with ht147 | ht147
  have hv148 := hB h139 ht147
  refine wp_cond_true hv148 ?_
  refine wp_seq_k fun K149 hK149 => ?_
  refine wp_g0 [true, true, true, true, true, true, true, true] [] 91
    [ve (vv (cleanV v) A30 cc31 A33 cc34),
     ve (.bool false),
     ve (.bool false),
     ve undef,
     ve undef,
     ve (.bool false),
     ve (.bool false),
     ve (iv 0)] hs135 (.eq (.eq (.eq (.eq (.eq (.eq (.eq (.eq (.nil))))))))) ?_ ?_
  refine .o1 (tk rfl rfl fun _ w hn k => ⟨_, v_load rfl (k.fx 2 h137) (l_agg Try.isAgg29 Try.sizeOf29 (hb140.new_ hn) rfl), rfl⟩) ?_
  refine .o1 (ck rfl rfl rfl (fun _ w hn k => ⟨#[vv (cleanV v) A30 cc31 A33 cc34], args1 (k.eq1 0 28 rfl), fun _ => by kernel_rfl, none_c (cleanV v) _ _ _ _ _ (hr142.new_ hn) (hr143.new_ hn)⟩) fun _ => congrArg Value.bool ht104) ?_
  refine .o1 (tk rfl rfl fun _ w hn k => ⟨_, v_move rfl (k.eq1 1 29 rfl), rfl⟩) ?_
  refine .o1 (sk rfl rfl rfl (fun _ _ _ k => k.eq1 2 30 rfl) (fun _ => rfl)) ?_
  refine .o1 (sk rfl rfl rfl (fun _ _ _ k => k.eq1 2 30 rfl) (fun _ => rfl)) ?_
  refine .o1 (tk rfl rfl fun _ w hn k => ⟨_, v_pickF rfl (k.eq1 2 30 rfl) rfl, rfl⟩) ?_
  refine .o1 (tk rfl rfl fun _ w hn k => ⟨_, v_assign rfl (k.eq1 5 33 rfl), rfl⟩) ?_
  refine .o1 (tk rfl rfl fun _ w hn k => ⟨_, v_assign rfl rfl, rfl⟩) ?_
  exact .nil
  intro a150 w151 hn152 ha153
  obtain ⟨hs154, hd155, hN158⟩ := aft ha153 hs135 hd136 hN146 hn152
  have h156 := ha153.ge 6 4 rfl
  have h157 := ha153.ge 7 5 rfl
  refine st_nil (hK149 _ _ ?_)
  refine wp_ret (ret_k hd155 (v := .tuple #[.bool false, iv 0]) (res_tt rfl h156 h157 _) ?_)
  refine ⟨?_, hN158⟩
  show Ending.returned (.tuple #[.bool false, iv 0]) = Ending.returned (.tuple #[.bool ((looseV v u).1), iv ((looseV v u).2)])
  first | rfl | (simp only [looseV, loose1, loose2, loose3, noneV, ht90, ht104, ht147, bsm] <;> rfl) | (simp [looseV, loose1, loose2, loose3, noneV, ht90, ht104, ht147]; done) | (exfalso; omega)
  have hv159 := hB h139 ht147
  refine wp_cond_false hv159 ?_
  refine wp_skip ?_
  refine hK72 _ _ ?_
  refine wp_seq_k fun K160 hK160 => ?_
  refine wp_g0 [true, true, true, true, false, false] [(4, false), (5, false)] 91
    [ve (vv (cleanV v) A30 cc31 A33 cc34),
     (fun (v_ : Value) (W : World) => ∃ (A35 : Option Addr) (c36 : Nat) (A37 : Option Addr) (c38 : Nat), v_ = vv (countedV (cleanV v)) A35 c36 A37 c38 ∧ SRow W .u32 A35 ((countedV (cleanV v)).mag) c36 ∧ SRow W .u16 A37 ((countedV (cleanV v)).s) c38),
     ve (vv (cleanV u) A37 cc38 A40 cc41),
     (fun (v_ : Value) (W : World) => ∃ (A43 : Option Addr) (c44 : Nat) (A45 : Option Addr) (c46 : Nat), v_ = vv (countedV (cleanV u)) A43 c44 A45 c46 ∧ SRow W .u32 A43 ((countedV (cleanV u)).mag) c44 ∧ SRow W .u16 A45 ((countedV (cleanV u)).s) c46),
     vt,
     vt] hs135 (.eq (.cons (fun v W W' hn ⟨A35, c36, A37, c38, he, h0, h1⟩ => ⟨A35, c36, A37, c38, he, h0.new_ hn, h1.new_ hn⟩) (.eq (.cons (fun v W W' hn ⟨A43, c44, A45, c46, he, h0, h1⟩ => ⟨A43, c44, A45, c46, he, h0.new_ hn, h1.new_ hn⟩) (.tt (.tt (.nil))))))) ?_ ?_
  refine .o1 (tk rfl rfl fun _ w hn k => ⟨_, v_load rfl (k.fx 2 h137) (l_agg Try.isAgg29 Try.sizeOf29 (hb140.new_ hn) rfl), rfl⟩) ?_
  refine .o1 (tkC rfl (noG rfl) rfl fun _ w hn k => (by
        refine ⟨#[vv (cleanV v) A30 cc31 A33 cc34], _, args1 (k.eq1 0 34 rfl), fun w => by kernel_rfl, counted_c (cleanV v) _ _ _ _ _ (hr142.new_ hn) (hr143.new_ hn), ?_⟩
        rintro e w' ⟨A31, c32, A33, c34, rfl, hmo0, hmo1, hm⟩
        exact ⟨_, rfl, hm, ⟨A31, c32, A33, c34, rfl, hmo0, hmo1⟩⟩)) ?_
  refine .o1 (tk rfl rfl fun _ w hn k => ⟨_, v_load rfl (k.fx 3 h138) (l_agg Try.isAgg29 Try.sizeOf29 (hb141.new_ hn) rfl), rfl⟩) ?_
  refine .o1 (tkC rfl (noG rfl) rfl fun _ w hn k => (by
        refine ⟨#[vv (cleanV u) A37 cc38 A40 cc41], _, args1 (k.eq1 2 36 rfl), fun w => by kernel_rfl, counted_c (cleanV u) _ _ _ _ _ (hr144.new_ hn) (hr145.new_ hn), ?_⟩
        rintro e w' ⟨A39, c40, A41, c42, rfl, hmo0, hmo1, hm⟩
        exact ⟨_, rfl, hm, ⟨A39, c40, A41, c42, rfl, hmo0, hmo1⟩⟩)) ?_
  refine .off ?_
  refine .off ?_
  exact .nil
  intro a161 w162 hn163 ha164
  obtain ⟨hs165, hd166, hN189⟩ := aft ha164 hs135 hd136 hN146 hn163
  have h167 := ha164.fx 2 h137
  have h168 := ha164.fx 3 h138
  obtain ⟨A170, cc171, A173, cc174, h169, hr172, hr175⟩ : (fun (v_ : Value) (W : World) => ∃ (A35 : Option Addr) (c36 : Nat) (A37 : Option Addr) (c38 : Nat), v_ = vv (countedV (cleanV v)) A35 c36 A37 c38 ∧ SRow W .u32 A35 ((countedV (cleanV v)).mag) c36 ∧ SRow W .u16 A37 ((countedV (cleanV v)).s) c38) _ _ := ha164.got 1 35 rfl (by kernel_rfl)
  have h169 : a161.eval (.tmp 35) = vv (countedV (cleanV v)) A170 cc171 A173 cc174 := h169
  obtain ⟨A177, cc178, A180, cc181, h176, hr179, hr182⟩ : (fun (v_ : Value) (W : World) => ∃ (A43 : Option Addr) (c44 : Nat) (A45 : Option Addr) (c46 : Nat), v_ = vv (countedV (cleanV u)) A43 c44 A45 c46 ∧ SRow W .u32 A43 ((countedV (cleanV u)).mag) c44 ∧ SRow W .u16 A45 ((countedV (cleanV u)).s) c46) _ _ := ha164.got 3 37 rfl (by kernel_rfl)
  have h176 : a161.eval (.tmp 37) = vv (countedV (cleanV u)) A177 cc178 A180 cc181 := h176
  have hb183 := hb140.new_ hn163
  have hb184 := hb141.new_ hn163
  have hr185 := hr142.new_ hn163
  have hr186 := hr143.new_ hn163
  have hr187 := hr144.new_ hn163
  have hr188 := hr145.new_ hn163
  obtain ⟨w190, hst191, hb1920, hu193, hf194⟩ := s_many (P := Try.prog) (t := 29) (i := 0) [iv ((countedV (cleanV v)).k), iv ((countedV (cleanV v)).nk), iv ((countedV (cleanV v)).nn), .bool ((countedV (cleanV v)).neg), sv A170 ((countedV (cleanV v)).mag) cc171, sv A173 ((countedV (cleanV v)).s) cc174, iv ((countedV (cleanV v)).ref)] Try.sizeOf29 rfl rfl rfl hb183 (Nat.le_of_ble_eq_true rfl)
  have hb192 : Blk w190 q9 29 [iv ((countedV (cleanV v)).k), iv ((countedV (cleanV v)).nk), iv ((countedV (cleanV v)).nn), .bool ((countedV (cleanV v)).neg), sv A170 ((countedV (cleanV v)).mag) cc171, sv A173 ((countedV (cleanV v)).s) cc174, iv ((countedV (cleanV v)).ref)] := hb1920
  refine st_act rfl rfl fun K195 hL196 => a_store' rfl h167 h169 hst191 (hL196 _ _ trivial ?_)
  have hr197 := hr185.far hb183 hu193 (by first | rfl | decide | simp [notK])
  have hr198 := hr186.far hb183 hu193 (by first | rfl | decide | simp [notK])
  have hr199 := hr187.far hb183 hu193 (by first | rfl | decide | simp [notK])
  have hr200 := hr188.far hb183 hu193 (by first | rfl | decide | simp [notK])
  have hr201 := hr172.far hb183 hu193 (by first | rfl | decide | simp [notK])
  have hr202 := hr175.far hb183 hu193 (by first | rfl | decide | simp [notK])
  have hr203 := hr179.far hb183 hu193 (by first | rfl | decide | simp [notK])
  have hr204 := hr182.far hb183 hu193 (by first | rfl | decide | simp [notK])
  have hb205 := hf194 _ _ _ (fun h => hne16 h.symm) hb184
  have hN206 := hN189.trans hu193 (fun k hk hkb => by subst hkb; omega)
  obtain ⟨w207, hst208, hb2090, hu210, hf211⟩ := s_many (P := Try.prog) (t := 29) (i := 0) [iv ((countedV (cleanV u)).k), iv ((countedV (cleanV u)).nk), iv ((countedV (cleanV u)).nn), .bool ((countedV (cleanV u)).neg), sv A177 ((countedV (cleanV u)).mag) cc178, sv A180 ((countedV (cleanV u)).s) cc181, iv ((countedV (cleanV u)).ref)] Try.sizeOf29 rfl rfl rfl hb205 (Nat.le_of_ble_eq_true rfl)
  have hb209 : Blk w207 q13 29 [iv ((countedV (cleanV u)).k), iv ((countedV (cleanV u)).nk), iv ((countedV (cleanV u)).nn), .bool ((countedV (cleanV u)).neg), sv A177 ((countedV (cleanV u)).mag) cc178, sv A180 ((countedV (cleanV u)).s) cc181, iv ((countedV (cleanV u)).ref)] := hb2090
  refine st_act rfl rfl fun K212 hL213 => a_store' rfl h168 h176 hst208 (hL213 _ _ trivial ?_)
  have hr214 := hr197.far hb205 hu210 (by first | rfl | decide | simp [notK])
  have hr215 := hr198.far hb205 hu210 (by first | rfl | decide | simp [notK])
  have hr216 := hr199.far hb205 hu210 (by first | rfl | decide | simp [notK])
  have hr217 := hr200.far hb205 hu210 (by first | rfl | decide | simp [notK])
  have hr218 := hr201.far hb205 hu210 (by first | rfl | decide | simp [notK])
  have hr219 := hr202.far hb205 hu210 (by first | rfl | decide | simp [notK])
  have hr220 := hr203.far hb205 hu210 (by first | rfl | decide | simp [notK])
  have hr221 := hr204.far hb205 hu210 (by first | rfl | decide | simp [notK])
  have hb222 := hf211 _ _ _ (hne16) hb192
  have hN223 := hN206.trans hu210 (fun k hk hkb => by subst hkb; omega)
  refine st_nil (hK160 _ _ ?_)
  refine wp_seq_k fun K224 hK224 => ?_
  refine wp_seq_k fun K225 hK225 => ?_
  rcases Bool.eq_false_or_eq_true (decide (((countedV (cleanV v)).k) ≤ ((countedV (cleanV u)).k))) with ht226 | ht226
  have ht226d := of_decide_eq_true ht226
  refine wp_g0 [true, true, true, true, true] [] 91
    [ve (pv q9),
     ve (iv ((countedV (cleanV v)).k)),
     ve (pv q13),
     ve (iv ((countedV (cleanV u)).k)),
     ve (.bool false)] hs165 (.eq (.eq (.eq (.eq (.eq (.nil)))))) ?_ ?_
  refine .o1 (tk rfl rfl fun _ w hn k => ⟨_, v_field rfl (k.fx 2 h167) (fun w => rfl), rfl⟩) ?_
  refine .o1 (tk rfl rfl fun _ w hn k => ⟨_, v_load rfl (k.eq1 0 38 rfl) (l_one Try.isAgg3 ((hb222.new_ hn).cell 0)), rfl⟩) ?_
  refine .o1 (tk rfl rfl fun _ w hn k => ⟨_, v_field rfl (k.fx 3 h168) (fun w => rfl), rfl⟩) ?_
  refine .o1 (tk rfl rfl fun _ w hn k => ⟨_, v_load rfl (k.eq1 2 40 rfl) (l_one Try.isAgg3 ((hb209.new_ hn).cell 0)), rfl⟩) ?_
  refine .o1 (tk rfl rfl fun _ w hn k => ⟨_, v_bin rfl (k.eq1 1 39 rfl) (k.eq1 3 41 rfl) (fun _ => rfl) (r_gtrK ht226), rfl⟩) ?_
  exact .nil
  intro a227 w228 hn229 ha230
  obtain ⟨hs231, hd232, hN242⟩ := aft ha230 hs165 hd166 hN223 hn229
  have h233 := ha230.fx 2 h167
  have h234 := ha230.fx 3 h168
  have h235 := ha230.ge 4 42 rfl
  have hb236 := hb222.new_ hn229
  have hb237 := hb209.new_ hn229
  have hr238 := hr218.new_ hn229
  have hr239 := hr219.new_ hn229
  have hr240 := hr220.new_ hn229
  have hr241 := hr221.new_ hn229
  refine st_nil (hK225 _ _ ?_)
  refine wp_cond_false h235 ?_
  refine wp_skip ?_
  refine hK224 _ _ ?_
  refine wp_seq_k fun K243 hK243 => ?_
  refine wp_block ?_
  refine wp_seq_k fun K244 hK244 => ?_
  refine wp_g0 [true, true, true, true, true, true] [] 91
    [ve (pv q9),
     ve (iv ((countedV (cleanV v)).k)),
     ve (pv q13),
     ve (iv ((countedV (cleanV u)).k)),
     ve (.bool (decide (((countedV (cleanV v)).k) = ((countedV (cleanV u)).k)))),
     ve (.bool (decide (((countedV (cleanV v)).k) = ((countedV (cleanV u)).k))))] hs231 (.eq (.eq (.eq (.eq (.eq (.eq (.nil))))))) ?_ ?_
  refine .o1 (tk rfl rfl fun _ w hn k => ⟨_, v_field rfl (k.fx 2 h233) (fun w => rfl), rfl⟩) ?_
  refine .o1 (tk rfl rfl fun _ w hn k => ⟨_, v_load rfl (k.eq1 0 46 rfl) (l_one Try.isAgg3 ((hb236.new_ hn).cell 0)), rfl⟩) ?_
  refine .o1 (tk rfl rfl fun _ w hn k => ⟨_, v_field rfl (k.fx 3 h234) (fun w => rfl), rfl⟩) ?_
  refine .o1 (tk rfl rfl fun _ w hn k => ⟨_, v_load rfl (k.eq1 2 48 rfl) (l_one Try.isAgg3 ((hb237.new_ hn).cell 0)), rfl⟩) ?_
  refine .o1 (tk rfl rfl fun _ w hn k => ⟨_, v_bin rfl (k.eq1 1 47 rfl) (k.eq1 3 49 rfl) (fun _ => rfl) (r_eql rfl), rfl⟩) ?_
  refine .o1 (tk rfl rfl fun _ w hn k => ⟨_, v_assign rfl (k.eq1 4 50 rfl), rfl⟩) ?_
  exact .nil
  intro a245 w246 hn247 ha248
  obtain ⟨hs249, hd250, hN260⟩ := aft ha248 hs231 hd232 hN242 hn247
  have h251 := ha248.fx 2 h233
  have h252 := ha248.fx 3 h234
  have h253 := ha248.ge 5 45 rfl
  have hb254 := hb236.new_ hn247
  have hb255 := hb237.new_ hn247
  have hr256 := hr238.new_ hn247
  have hr257 := hr239.new_ hn247
  have hr258 := hr240.new_ hn247
  have hr259 := hr241.new_ hn247
  refine st_nil (hK244 _ _ ?_)
  rcases Bool.eq_false_or_eq_true (decide (((countedV (cleanV v)).k) = ((countedV (cleanV u)).k))) with ht261 | ht261
  have ht261d := of_decide_eq_true ht261
  have hv262 := hB h253 ht261
  refine wp_cond_true hv262 ?_
  refine wp_seq_k fun K263 hK263 => ?_
  refine wp_g0 [true, true, true, true, true] [] 91
    [ve (vv (countedV (cleanV v)) A170 cc171 A173 cc174),
     ve (vv (countedV (cleanV u)) A177 cc178 A180 cc181),
     ve (.bool (strictV (countedV (cleanV v)) (countedV (cleanV u)))),
     ve (.bool (strictV (countedV (cleanV v)) (countedV (cleanV u)))),
     ve (iv 0)] hs249 (.eq (.eq (.eq (.eq (.eq (.nil)))))) ?_ ?_
  refine .o1 (tk rfl rfl fun _ w hn k => ⟨_, v_load rfl (k.fx 2 h251) (l_agg Try.isAgg29 Try.sizeOf29 (hb254.new_ hn) rfl), rfl⟩) ?_
  refine .o1 (tk rfl rfl fun _ w hn k => ⟨_, v_load rfl (k.fx 3 h252) (l_agg Try.isAgg29 Try.sizeOf29 (hb255.new_ hn) rfl), rfl⟩) ?_
  refine .o1 (ck rfl rfl rfl (fun _ w hn k => ⟨#[vv (countedV (cleanV v)) A170 cc171 A173 cc174, vv (countedV (cleanV u)) A177 cc178 A180 cc181], args2 (k.eq1 0 51 rfl) (k.eq1 1 52 rfl), fun _ => by kernel_rfl, cstrict_c (countedV (cleanV v)) _ _ _ _ (countedV (cleanV u)) _ _ _ _ _ (hr256.new_ hn) (hr257.new_ hn) (hr258.new_ hn) (hr259.new_ hn)⟩) fun _ => rfl) ?_
  refine .o1 (tk rfl rfl fun _ w hn k => ⟨_, v_assign rfl (k.eq1 2 53 rfl), rfl⟩) ?_
  refine .o1 (tk rfl rfl fun _ w hn k => ⟨_, v_assign rfl rfl, rfl⟩) ?_
  exact .nil
  intro a264 w265 hn266 ha267
  obtain ⟨hs268, hd269, hN272⟩ := aft ha267 hs249 hd250 hN260 hn266
  have h270 := ha267.ge 3 4 rfl
  have h271 := ha267.ge 4 5 rfl
  refine st_nil (hK263 _ _ ?_)
  refine wp_ret (ret_k hd269 (v := .tuple #[.bool (strictV (countedV (cleanV v)) (countedV (cleanV u))), iv 0]) (res_tt rfl h270 h271 _) ?_)
  refine ⟨?_, hN272⟩
  show Ending.returned (.tuple #[.bool (strictV (countedV (cleanV v)) (countedV (cleanV u))), iv 0]) = Ending.returned (.tuple #[.bool ((looseV v u).1), iv ((looseV v u).2)])
  first | rfl | (simp only [looseV, loose1, loose2, loose3, noneV, ht90, ht104, ht147, ht226, ht261, bsm] <;> rfl) | (simp [looseV, loose1, loose2, loose3, noneV, ht90, ht104, ht147, ht226, ht261]; done) | (exfalso; omega)
  have ht261d := of_decide_eq_false ht261
  have hv273 := hB h253 ht261
  refine wp_cond_false hv273 ?_
  refine wp_seq_k fun K274 hK274 => ?_
  rcases Bool.eq_false_or_eq_true (decide (((countedV (cleanV v)).k) = 3)) with ht275 | ht275
  have ht275d := of_decide_eq_true ht275
  refine wp_g0 [true, true, true, true, true, true, true, true, true] [] 91
    [ve (pv q9),
     ve (iv ((countedV (cleanV v)).k)),
     ve (.bool true),
     ve (.bool true),
     ve (pv q13),
     ve (iv ((countedV (cleanV u)).k)),
     ve (.bool (decide (((countedV (cleanV u)).k) = 4))),
     ve (.bool (decide (((countedV (cleanV u)).k) = 4))),
     ve (.bool (decide (((countedV (cleanV u)).k) = 4)))] hs249 (.eq (.eq (.eq (.eq (.eq (.eq (.eq (.eq (.eq (.nil)))))))))) ?_ ?_
  refine .o1 (tk rfl rfl fun _ w hn k => ⟨_, v_field rfl (k.fx 2 h251) (fun w => rfl), rfl⟩) ?_
  refine .o1 (tk rfl rfl fun _ w hn k => ⟨_, v_load rfl (k.eq1 0 55 rfl) (l_one Try.isAgg3 ((hb254.new_ hn).cell 0)), rfl⟩) ?_
  refine .o1 (tk rfl rfl fun _ w hn k => ⟨_, v_bin rfl (k.eq1 1 56 rfl) rfl (fun _ => rfl) (r_eql ht275), rfl⟩) ?_
  refine .o1 (tk rfl rfl fun _ w hn k => ⟨_, v_move rfl (k.eq1 2 57 rfl), rfl⟩) ?_
  refine .o1 (tg rfl rfl rfl (fun _ _ k => k.eq1 3 58 rfl) fun _ w hn k => ⟨_, v_field rfl (k.fx 3 h252) (fun w => rfl), rfl⟩) ?_
  refine .o1 (tg rfl rfl rfl (fun _ _ k => k.eq1 3 58 rfl) fun _ w hn k => ⟨_, v_load rfl (k.eq1 4 59 rfl) (l_one Try.isAgg3 ((hb255.new_ hn).cell 0)), rfl⟩) ?_
  refine .o1 (tg rfl rfl rfl (fun _ _ k => k.eq1 3 58 rfl) fun _ w hn k => ⟨_, v_bin rfl (k.eq1 5 60 rfl) rfl (fun _ => rfl) (r_eql rfl), rfl⟩) ?_
  refine .o1 (tk rfl rfl fun _ w hn k => ⟨_, v_pickT rfl (k.eq1 3 58 rfl) (k.eq1 6 61 rfl), rfl⟩) ?_
  refine .o1 (tk rfl rfl fun _ w hn k => ⟨_, v_assign rfl (k.eq1 7 62 rfl), rfl⟩) ?_
  exact .nil
  intro a276 w277 hn278 ha279
  obtain ⟨hs280, hd281, hN291⟩ := aft ha279 hs249 hd250 hN260 hn278
  have h282 := ha279.fx 2 h251
  have h283 := ha279.fx 3 h252
  have h284 := ha279.ge 8 54 rfl
  have hb285 := hb254.new_ hn278
  have hb286 := hb255.new_ hn278
  have hr287 := hr256.new_ hn278
  have hr288 := hr257.new_ hn278
  have hr289 := hr258.new_ hn278
  have hr290 := hr259.new_ hn278
  refine st_nil (hK274 _ _ ?_)
  rcases Bool.eq_false_or_eq_true (decide (((countedV (cleanV u)).k) = 4)) with ht292 | ht292
  have ht292d := of_decide_eq_true ht292
  have hv293 := hB h284 ht292
  refine wp_cond_true hv293 ?_
  refine wp_seq_k fun K294 hK294 => ?_
  refine wp_g0 [true, true, true, true, true, true, true] [] 91
    [ve (.pointer (some ⟨q13, 3, none⟩)),
     ve (.agg #[.bool ((countedV (cleanV u)).neg), sv A177 ((countedV (cleanV u)).mag) cc178]),
     ve (.pointer (some ⟨q9, 1, none⟩)),
     ve (nv (Nm.mk ((countedV (cleanV v)).nk) ((countedV (cleanV v)).nn))),
     ve (.bool (alikeB ((countedV (cleanV u)).neg) ((countedV (cleanV u)).mag) (Nm.mk ((countedV (cleanV v)).nk) ((countedV (cleanV v)).nn)))),
     ve (.bool (alikeB ((countedV (cleanV u)).neg) ((countedV (cleanV u)).mag) (Nm.mk ((countedV (cleanV v)).nk) ((countedV (cleanV v)).nn)))),
     ve (iv 0)] hs280 (.eq (.eq (.eq (.eq (.eq (.eq (.eq (.nil)))))))) ?_ ?_
  refine .o1 (tk rfl rfl fun _ w hn k => ⟨_, v_field rfl (k.fx 3 h283) (fun w => rfl), rfl⟩) ?_
  refine .o1 (tk rfl rfl fun _ w hn k => ⟨_, v_load rfl (k.eq1 0 63 rfl) (l_part Try.isAgg26 Try.sizeOf26 (hb286.new_ hn) (Nat.le_of_ble_eq_true rfl)), rfl⟩) ?_
  refine .o1 (tk rfl rfl fun _ w hn k => ⟨_, v_field rfl (k.fx 2 h282) (fun w => rfl), rfl⟩) ?_
  refine .o1 (tk rfl rfl fun _ w hn k => ⟨_, v_load rfl (k.eq1 2 65 rfl) (l_part Try.isAgg23 Try.sizeOf23 (hb285.new_ hn) (Nat.le_of_ble_eq_true rfl)), rfl⟩) ?_
  refine .o1 (ck rfl rfl rfl (fun _ w hn k => ⟨#[.agg #[.bool ((countedV (cleanV u)).neg), sv A177 ((countedV (cleanV u)).mag) cc178], nv (Nm.mk ((countedV (cleanV v)).nk) ((countedV (cleanV v)).nn))], args2 (k.eq1 1 64 rfl) (k.eq1 3 66 rfl), fun _ => by kernel_rfl, alike_c ((countedV (cleanV u)).neg) _ ((countedV (cleanV u)).mag) _ (Nm.mk ((countedV (cleanV v)).nk) ((countedV (cleanV v)).nn)) _ (hr289.new_ hn) hvu.clean.counted.limbs (by first | omega | (simp only [List.length_nil, List.length_take, List.length_drop]; omega) | (simp only [List.length_cons, List.length_nil]; omega)) (by omega) (by omega)⟩) fun _ => rfl) ?_
  refine .o1 (tk rfl rfl fun _ w hn k => ⟨_, v_assign rfl (k.eq1 4 67 rfl), rfl⟩) ?_
  refine .o1 (tk rfl rfl fun _ w hn k => ⟨_, v_assign rfl rfl, rfl⟩) ?_
  exact .nil
  intro a295 w296 hn297 ha298
  obtain ⟨hs299, hd300, hN303⟩ := aft ha298 hs280 hd281 hN291 hn297
  have h301 := ha298.ge 5 4 rfl
  have h302 := ha298.ge 6 5 rfl
  refine st_nil (hK294 _ _ ?_)
  refine wp_ret (ret_k hd300 (v := .tuple #[.bool (alikeB ((countedV (cleanV u)).neg) ((countedV (cleanV u)).mag) (Nm.mk ((countedV (cleanV v)).nk) ((countedV (cleanV v)).nn))), iv 0]) (res_tt rfl h301 h302 _) ?_)
  refine ⟨?_, hN303⟩
  show Ending.returned (.tuple #[.bool (alikeB ((countedV (cleanV u)).neg) ((countedV (cleanV u)).mag) (Nm.mk ((countedV (cleanV v)).nk) ((countedV (cleanV v)).nn))), iv 0]) = Ending.returned (.tuple #[.bool ((looseV v u).1), iv ((looseV v u).2)])
  first | rfl | (simp only [looseV, loose1, loose2, loose3, noneV, ht90, ht104, ht147, ht226, ht261, ht275, ht292, bsm] <;> rfl) | (simp [looseV, loose1, loose2, loose3, noneV, ht90, ht104, ht147, ht226, ht261, ht275, ht292]; done) | (exfalso; omega)
  have ht292d := of_decide_eq_false ht292
  have hv304 := hB h284 ht292
  refine wp_cond_false hv304 ?_
  refine wp_seq_k fun K305 hK305 => ?_
  refine wp_g0 [true, true, true, true, true, true, true, true, true] [] 91
    [ve (pv q9),
     ve (iv ((countedV (cleanV v)).k)),
     ve (.bool true),
     ve (.bool true),
     ve (pv q13),
     ve (iv ((countedV (cleanV u)).k)),
     ve (.bool (decide (((countedV (cleanV u)).k) = 5))),
     ve (.bool (decide (((countedV (cleanV u)).k) = 5))),
     ve (.bool (decide (((countedV (cleanV u)).k) = 5)))] hs280 (.eq (.eq (.eq (.eq (.eq (.eq (.eq (.eq (.eq (.nil)))))))))) ?_ ?_
  refine .o1 (tk rfl rfl fun _ w hn k => ⟨_, v_field rfl (k.fx 2 h282) (fun w => rfl), rfl⟩) ?_
  refine .o1 (tk rfl rfl fun _ w hn k => ⟨_, v_load rfl (k.eq1 0 69 rfl) (l_one Try.isAgg3 ((hb285.new_ hn).cell 0)), rfl⟩) ?_
  refine .o1 (tk rfl rfl fun _ w hn k => ⟨_, v_bin rfl (k.eq1 1 70 rfl) rfl (fun _ => rfl) (r_eql ht275), rfl⟩) ?_
  refine .o1 (tk rfl rfl fun _ w hn k => ⟨_, v_move rfl (k.eq1 2 71 rfl), rfl⟩) ?_
  refine .o1 (tg rfl rfl rfl (fun _ _ k => k.eq1 3 72 rfl) fun _ w hn k => ⟨_, v_field rfl (k.fx 3 h283) (fun w => rfl), rfl⟩) ?_
  refine .o1 (tg rfl rfl rfl (fun _ _ k => k.eq1 3 72 rfl) fun _ w hn k => ⟨_, v_load rfl (k.eq1 4 73 rfl) (l_one Try.isAgg3 ((hb286.new_ hn).cell 0)), rfl⟩) ?_
  refine .o1 (tg rfl rfl rfl (fun _ _ k => k.eq1 3 72 rfl) fun _ w hn k => ⟨_, v_bin rfl (k.eq1 5 74 rfl) rfl (fun _ => rfl) (r_eql rfl), rfl⟩) ?_
  refine .o1 (tk rfl rfl fun _ w hn k => ⟨_, v_pickT rfl (k.eq1 3 72 rfl) (k.eq1 6 75 rfl), rfl⟩) ?_
  refine .o1 (tk rfl rfl fun _ w hn k => ⟨_, v_assign rfl (k.eq1 7 76 rfl), rfl⟩) ?_
  exact .nil
  intro a306 w307 hn308 ha309
  obtain ⟨hs310, hd311, hN321⟩ := aft ha309 hs280 hd281 hN291 hn308
  have h312 := ha309.fx 2 h282
  have h313 := ha309.fx 3 h283
  have h314 := ha309.ge 8 68 rfl
  have hb315 := hb285.new_ hn308
  have hb316 := hb286.new_ hn308
  have hr317 := hr287.new_ hn308
  have hr318 := hr288.new_ hn308
  have hr319 := hr289.new_ hn308
  have hr320 := hr290.new_ hn308
  refine st_nil (hK305 _ _ ?_)
  rcases Bool.eq_false_or_eq_true (decide (((countedV (cleanV u)).k) = 5)) with ht322 | ht322
  have ht322d := of_decide_eq_true ht322
  have hv323 := hB h314 ht322
  refine wp_cond_true hv323 ?_
  refine wp_seq_k fun K324 hK324 => ?_
  refine wp_g [true, true, true, true, true, true, false, false] [4] [(6, false), (7, true)] 91
    [ve (vv (countedV (cleanV u)) A177 cc178 A180 cc181),
     ve (.tuple #[nv ((numberV (countedV (cleanV u))).1), iv ((numberV (countedV (cleanV u))).2)]),
     ve (.tuple #[nv ((numberV (countedV (cleanV u))).1), iv ((numberV (countedV (cleanV u))).2)]),
     ve (nv ((numberV (countedV (cleanV u))).1)),
     ve (iv ((numberV (countedV (cleanV u))).2)),
     IsNew w307 23 [iv 0, iv 0],
     vt,
     vt]
    [5] (newsCons (fun v w h => IsNew.old h) newsNil) hs310 (.eq (.eq (.eq (.eq (.eq (.nw (.tt (.tt (.nil))))))))) ?_ ?_ ?_
  refine .o1 (tk rfl rfl fun _ w hn k => ⟨_, v_load rfl (k.fx 3 h313) (l_agg Try.isAgg29 Try.sizeOf29 (hb316.new_ hn) rfl), rfl⟩) ?_
  refine .o1 (ck rfl rfl rfl (fun _ w hn k => ⟨#[vv (countedV (cleanV u)) A177 cc178 A180 cc181], args1 (k.eq1 0 78 rfl), fun _ => by kernel_rfl, cnumber_c (countedV (cleanV u)) _ _ _ _ _ (hr319.new_ hn) (hr320.new_ hn) hvu.clean.counted⟩) fun _ => rfl) ?_
  refine .o1 (tk rfl rfl fun _ w hn k => ⟨_, v_move rfl (k.eq1 1 79 rfl), rfl⟩) ?_
  refine .o1 (tk rfl rfl fun _ w hn k => ⟨_, v_extract rfl (k.eq1 2 77 rfl) rfl, rfl⟩) ?_
  refine .o3 ?_
  refine .o2 (step_allocN (cs := [iv 0, iv 0]) (t := 23) rfl (noG rfl) (fun _ w hn k => rfl) (fun q _ hq hb => ⟨q, rfl, hq, hb⟩)) ?_
  refine .off ?_
  refine .off ?_
  exact .nil
  intro i h
  simp only [List.contains_eq_mem, List.mem_cons, List.not_mem_nil, or_false, decide_eq_true_eq] at h
  subst h
  exact eager_take rfl rfl fun _ w hn k => ⟨iv ((numberV (countedV (cleanV u))).2), fun w => v_extract rfl (k.eq1 2 77 rfl) rfl, rfl⟩
  intro a325 w326 hn327 ha328
  obtain ⟨hs329, hd330, hN343⟩ := aft ha328 hs310 hd311 hN321 hn327
  have h331 := ha328.fx 2 h312
  have h332 := ha328.ge 3 80 rfl
  have h333 := ha328.ge 4 81 rfl
  obtain ⟨q335, h334, hq336, hb337⟩ : IsNew _ _ _ _ _ := ha328.got 5 6 rfl (by kernel_rfl)
  have hb338 := hb315.new_ hn327
  have hne339 : q9 ≠ q335 := by have h1 := hb315.lt; have h2 := hq336; omega
  have hq340 := Nat.le_trans hN321.size hq336
  have hr341 := hr317.new_ hn327
  have hr342 := hr318.new_ hn327
  obtain ⟨w344, -, hst345, hb346, hu347, hf348⟩ := s_two (v0 := iv ((numberV (countedV (cleanV u))).1.k)) (v1 := iv ((numberV (countedV (cleanV u))).1.n)) Try.sizeOf23 rfl rfl rfl hb337
  refine st_act rfl rfl fun K349 hL350 => a_store' rfl h334 h332 hst345 (hL350 _ _ trivial ?_)
  have hr351 := hr341.far hb337 hu347 (by first | rfl | decide | simp [notK])
  have hr352 := hr342.far hb337 hu347 (by first | rfl | decide | simp [notK])
  have hb353 := hf348 _ _ _ (hne339) hb338
  have hN354 := hN343.trans hu347 (fun k hk hkb => by subst hkb; omega)
  refine st_take rfl rfl (y_assign (v := iv ((numberV (countedV (cleanV u))).2)) rfl h333) rfl ?_
  obtain ⟨a355, ha356⟩ : ∃ a', a' = a325.put (some 7) (iv ((numberV (countedV (cleanV u))).2)) := ⟨_, rfl⟩
  have hs357 : a355.tmps.size = 91 := by rw [ha356, put_size]; exact hs329
  have hd358 : a355.defers = [] := by rw [ha356, put_defers]; exact hd330
  have h359 := pn ha356 h331 (by decide)
  have h360 := pn ha356 h332 (by decide)
  have h361 := pn ha356 h333 (by decide)
  have h362 := pn ha356 h334 (by decide)
  have h363 : a355.eval (.tmp 7) = iv ((numberV (countedV (cleanV u))).2) := by rw [ha356]; exact put_same _ _ _ (by rw [hs329]; decide)
  show stepsTo _ _ _ _ _ (a325.put (some 7) (iv ((numberV (countedV (cleanV u))).2))) _
  rw [← ha356]
  refine st_nil (hK324 _ _ ?_)
  refine wp_seq_k fun K364 hK364 => ?_
  rcases Bool.eq_false_or_eq_true (decide (((numberV (countedV (cleanV u))).2) = 0)) with ht365 | ht365
  have ht365d := of_decide_eq_true ht365
  refine wp_g0 [true, true, true, true, true, true, true, true, true, true, true] [] 91
    [ve (iv ((numberV (countedV (cleanV u))).2)),
     ve (.bool true),
     ve (.bool true),
     ve (.pointer (some ⟨q9, 1, none⟩)),
     ve (nv (Nm.mk ((countedV (cleanV v)).nk) ((countedV (cleanV v)).nn))),
     ve (nv ((numberV (countedV (cleanV u))).1)),
     ve (.bool (equalM (Nm.mk ((countedV (cleanV v)).nk) ((countedV (cleanV v)).nn)) ((numberV (countedV (cleanV u))).1))),
     ve (.bool (equalM (Nm.mk ((countedV (cleanV v)).nk) ((countedV (cleanV v)).nn)) ((numberV (countedV (cleanV u))).1))),
     ve (iv ((numberV (countedV (cleanV u))).2)),
     ve (.bool (equalM (Nm.mk ((countedV (cleanV v)).nk) ((countedV (cleanV v)).nn)) ((numberV (countedV (cleanV u))).1))),
     ve (iv ((numberV (countedV (cleanV u))).2))] hs357 (.eq (.eq (.eq (.eq (.eq (.eq (.eq (.eq (.eq (.eq (.eq (.nil)))))))))))) ?_ ?_
  refine .o1 (tk rfl rfl fun _ w hn k => ⟨_, v_move rfl (k.fx 7 h363), rfl⟩) ?_
  refine .o1 (tk rfl rfl fun _ w hn k => ⟨_, v_bin rfl (k.eq1 0 82 rfl) rfl (fun _ => rfl) (r_eql ht365), rfl⟩) ?_
  refine .o1 (tk rfl rfl fun _ w hn k => ⟨_, v_move rfl (k.eq1 1 83 rfl), rfl⟩) ?_
  refine .o1 (tg rfl rfl rfl (fun _ _ k => k.eq1 2 84 rfl) fun _ w hn k => ⟨_, v_field rfl (k.fx 2 h359) (fun w => rfl), rfl⟩) ?_
  refine .o1 (tg rfl rfl rfl (fun _ _ k => k.eq1 2 84 rfl) fun _ w hn k => ⟨_, v_load rfl (k.eq1 3 85 rfl) (l_part Try.isAgg23 Try.sizeOf23 (hb353.new_ hn) (Nat.le_of_ble_eq_true rfl)), rfl⟩) ?_
  refine .o1 (tg rfl rfl rfl (fun _ _ k => k.eq1 2 84 rfl) fun _ w hn k => ⟨_, v_load rfl (k.fx 6 h362) (l_two Try.isAgg23 Try.sizeOf23 (hb346.new_ hn)), rfl⟩) ?_
  refine .o1 (cg rfl rfl rfl (fun _ _ k => k.eq1 2 84 rfl) rfl (fun _ w hn k => ⟨#[nv (Nm.mk ((countedV (cleanV v)).nk) ((countedV (cleanV v)).nn)), nv ((numberV (countedV (cleanV u))).1)], args2 (k.eq1 4 86 rfl) (k.eq1 5 87 rfl), fun _ => by kernel_rfl, equal_c (Nm.mk ((countedV (cleanV v)).nk) ((countedV (cleanV v)).nn)) ((numberV (countedV (cleanV u))).1) _ ⟩) fun _ => rfl) ?_
  refine .o1 (tk rfl rfl fun _ w hn k => ⟨_, v_pickT rfl (k.eq1 2 84 rfl) (k.eq1 6 88 rfl), rfl⟩) ?_
  refine .o1 (tk rfl rfl fun _ w hn k => ⟨_, v_move rfl (k.fx 7 h363), rfl⟩) ?_
  refine .o1 (tk rfl rfl fun _ w hn k => ⟨_, v_assign rfl (k.eq1 7 89 rfl), rfl⟩) ?_
  refine .o1 (tk rfl rfl fun _ w hn k => ⟨_, v_assign rfl (k.eq1 8 90 rfl), rfl⟩) ?_
  exact .nil
  intro a366 w367 hn368 ha369
  obtain ⟨hs370, hd371, hN374⟩ := aft ha369 hs357 hd358 hN354 hn368
  have h372 := ha369.ge 9 4 rfl
  have h373 := ha369.ge 10 5 rfl
  refine st_nil (hK364 _ _ ?_)
  refine wp_ret (ret_k hd371 (v := .tuple #[.bool (equalM (Nm.mk ((countedV (cleanV v)).nk) ((countedV (cleanV v)).nn)) ((numberV (countedV (cleanV u))).1)), iv ((numberV (countedV (cleanV u))).2)]) (res_tt rfl h372 h373 _) ?_)
  refine ⟨?_, hN374⟩
  show Ending.returned (.tuple #[.bool (equalM (Nm.mk ((countedV (cleanV v)).nk) ((countedV (cleanV v)).nn)) ((numberV (countedV (cleanV u))).1)), iv ((numberV (countedV (cleanV u))).2)]) = Ending.returned (.tuple #[.bool ((looseV v u).1), iv ((looseV v u).2)])
  first | rfl | (simp only [looseV, loose1, loose2, loose3, noneV, ht90, ht104, ht147, ht226, ht261, ht275, ht292, ht322, ht365, bsm] <;> rfl) | (simp [looseV, loose1, loose2, loose3, noneV, ht90, ht104, ht147, ht226, ht261, ht275, ht292, ht322, ht365]; done) | (exfalso; omega)
  have ht365d := of_decide_eq_false ht365
  refine wp_g0 [true, true, true, true, true, true, true, true, true, true, true] [] 91
    [ve (iv ((numberV (countedV (cleanV u))).2)),
     ve (.bool false),
     ve (.bool false),
     ve undef,
     ve undef,
     ve undef,
     ve undef,
     ve (.bool false),
     ve (iv ((numberV (countedV (cleanV u))).2)),
     ve (.bool false),
     ve (iv ((numberV (countedV (cleanV u))).2))] hs357 (.eq (.eq (.eq (.eq (.eq (.eq (.eq (.eq (.eq (.eq (.eq (.nil)))))))))))) ?_ ?_
  refine .o1 (tk rfl rfl fun _ w hn k => ⟨_, v_move rfl (k.fx 7 h363), rfl⟩) ?_
  refine .o1 (tk rfl rfl fun _ w hn k => ⟨_, v_bin rfl (k.eq1 0 82 rfl) rfl (fun _ => rfl) (r_eql ht365), rfl⟩) ?_
  refine .o1 (tk rfl rfl fun _ w hn k => ⟨_, v_move rfl (k.eq1 1 83 rfl), rfl⟩) ?_
  refine .o1 (sk rfl rfl rfl (fun _ _ _ k => k.eq1 2 84 rfl) (fun _ => rfl)) ?_
  refine .o1 (sk rfl rfl rfl (fun _ _ _ k => k.eq1 2 84 rfl) (fun _ => rfl)) ?_
  refine .o1 (sk rfl rfl rfl (fun _ _ _ k => k.eq1 2 84 rfl) (fun _ => rfl)) ?_
  refine .o1 (sk rfl rfl rfl (fun _ _ _ k => k.eq1 2 84 rfl) (fun _ => rfl)) ?_
  refine .o1 (tk rfl rfl fun _ w hn k => ⟨_, v_pickF rfl (k.eq1 2 84 rfl) rfl, rfl⟩) ?_
  refine .o1 (tk rfl rfl fun _ w hn k => ⟨_, v_move rfl (k.fx 7 h363), rfl⟩) ?_
  refine .o1 (tk rfl rfl fun _ w hn k => ⟨_, v_assign rfl (k.eq1 7 89 rfl), rfl⟩) ?_
  refine .o1 (tk rfl rfl fun _ w hn k => ⟨_, v_assign rfl (k.eq1 8 90 rfl), rfl⟩) ?_
  exact .nil
  intro a375 w376 hn377 ha378
  obtain ⟨hs379, hd380, hN383⟩ := aft ha378 hs357 hd358 hN354 hn377
  have h381 := ha378.ge 9 4 rfl
  have h382 := ha378.ge 10 5 rfl
  refine st_nil (hK364 _ _ ?_)
  refine wp_ret (ret_k hd380 (v := .tuple #[.bool false, iv ((numberV (countedV (cleanV u))).2)]) (res_tt rfl h381 h382 _) ?_)
  refine ⟨?_, hN383⟩
  show Ending.returned (.tuple #[.bool false, iv ((numberV (countedV (cleanV u))).2)]) = Ending.returned (.tuple #[.bool ((looseV v u).1), iv ((looseV v u).2)])
  first | rfl | (simp only [looseV, loose1, loose2, loose3, noneV, ht90, ht104, ht147, ht226, ht261, ht275, ht292, ht322, ht365, bsm] <;> rfl) | (simp [looseV, loose1, loose2, loose3, noneV, ht90, ht104, ht147, ht226, ht261, ht275, ht292, ht322, ht365]; done) | (exfalso; omega)
  have ht322d := of_decide_eq_false ht322
  have hv384 := hB h314 ht322
  refine wp_cond_false hv384 ?_
  refine wp_skip ?_
  refine hK243 _ _ ?_
  refine wp_seq_k fun K385 hK385 => ?_
  refine wp_g0 [true, true] [] 91
    [ve (.bool false),
     ve (iv 3)] hs310 (.eq (.eq (.nil))) ?_ ?_
  refine .o1 (tk rfl rfl fun _ w hn k => ⟨_, v_assign rfl rfl, rfl⟩) ?_
  refine .o1 (tk rfl rfl fun _ w hn k => ⟨_, v_assign rfl rfl, rfl⟩) ?_
  exact .nil
  intro a386 w387 hn388 ha389
  obtain ⟨hs390, hd391, hN394⟩ := aft ha389 hs310 hd311 hN321 hn388
  have h392 := ha389.ge 0 4 rfl
  have h393 := ha389.ge 1 5 rfl
  refine st_nil (hK385 _ _ ?_)
  refine wp_ret (ret_k hd391 (v := .tuple #[.bool false, iv 3]) (res_tt rfl h392 h393 _) ?_)
  refine ⟨?_, hN394⟩
  show Ending.returned (.tuple #[.bool false, iv 3]) = Ending.returned (.tuple #[.bool ((looseV v u).1), iv ((looseV v u).2)])
  first | rfl | (simp only [looseV, loose1, loose2, loose3, noneV, ht90, ht104, ht147, ht226, ht261, ht275, ht292, ht322, bsm] <;> rfl) | (simp [looseV, loose1, loose2, loose3, noneV, ht90, ht104, ht147, ht226, ht261, ht275, ht292, ht322]; done) | (exfalso; omega)
  have ht275d := of_decide_eq_false ht275
  refine wp_g0 [true, true, true, true, true, true, true, true, true] [] 91
    [ve (pv q9),
     ve (iv ((countedV (cleanV v)).k)),
     ve (.bool false),
     ve (.bool false),
     ve undef,
     ve undef,
     ve undef,
     ve (.bool false),
     ve (.bool false)] hs249 (.eq (.eq (.eq (.eq (.eq (.eq (.eq (.eq (.eq (.nil)))))))))) ?_ ?_
  refine .o1 (tk rfl rfl fun _ w hn k => ⟨_, v_field rfl (k.fx 2 h251) (fun w => rfl), rfl⟩) ?_
  refine .o1 (tk rfl rfl fun _ w hn k => ⟨_, v_load rfl (k.eq1 0 55 rfl) (l_one Try.isAgg3 ((hb254.new_ hn).cell 0)), rfl⟩) ?_
  refine .o1 (tk rfl rfl fun _ w hn k => ⟨_, v_bin rfl (k.eq1 1 56 rfl) rfl (fun _ => rfl) (r_eql ht275), rfl⟩) ?_
  refine .o1 (tk rfl rfl fun _ w hn k => ⟨_, v_move rfl (k.eq1 2 57 rfl), rfl⟩) ?_
  refine .o1 (sk rfl rfl rfl (fun _ _ _ k => k.eq1 3 58 rfl) (fun _ => rfl)) ?_
  refine .o1 (sk rfl rfl rfl (fun _ _ _ k => k.eq1 3 58 rfl) (fun _ => rfl)) ?_
  refine .o1 (sk rfl rfl rfl (fun _ _ _ k => k.eq1 3 58 rfl) (fun _ => rfl)) ?_
  refine .o1 (tk rfl rfl fun _ w hn k => ⟨_, v_pickF rfl (k.eq1 3 58 rfl) rfl, rfl⟩) ?_
  refine .o1 (tk rfl rfl fun _ w hn k => ⟨_, v_assign rfl (k.eq1 7 62 rfl), rfl⟩) ?_
  exact .nil
  intro a395 w396 hn397 ha398
  obtain ⟨hs399, hd400, hN410⟩ := aft ha398 hs249 hd250 hN260 hn397
  have h401 := ha398.fx 2 h251
  have h402 := ha398.fx 3 h252
  have h403 := ha398.ge 8 54 rfl
  have hb404 := hb254.new_ hn397
  have hb405 := hb255.new_ hn397
  have hr406 := hr256.new_ hn397
  have hr407 := hr257.new_ hn397
  have hr408 := hr258.new_ hn397
  have hr409 := hr259.new_ hn397
  refine st_nil (hK274 _ _ ?_)
  refine wp_cond_false h403 ?_
  refine wp_seq_k fun K411 hK411 => ?_
  refine wp_g0 [true, true, true, true, true, true, true, true, true] [] 91
    [ve (pv q9),
     ve (iv ((countedV (cleanV v)).k)),
     ve (.bool false),
     ve (.bool false),
     ve undef,
     ve undef,
     ve undef,
     ve (.bool false),
     ve (.bool false)] hs399 (.eq (.eq (.eq (.eq (.eq (.eq (.eq (.eq (.eq (.nil)))))))))) ?_ ?_
  refine .o1 (tk rfl rfl fun _ w hn k => ⟨_, v_field rfl (k.fx 2 h401) (fun w => rfl), rfl⟩) ?_
  refine .o1 (tk rfl rfl fun _ w hn k => ⟨_, v_load rfl (k.eq1 0 69 rfl) (l_one Try.isAgg3 ((hb404.new_ hn).cell 0)), rfl⟩) ?_
  refine .o1 (tk rfl rfl fun _ w hn k => ⟨_, v_bin rfl (k.eq1 1 70 rfl) rfl (fun _ => rfl) (r_eql ht275), rfl⟩) ?_
  refine .o1 (tk rfl rfl fun _ w hn k => ⟨_, v_move rfl (k.eq1 2 71 rfl), rfl⟩) ?_
  refine .o1 (sk rfl rfl rfl (fun _ _ _ k => k.eq1 3 72 rfl) (fun _ => rfl)) ?_
  refine .o1 (sk rfl rfl rfl (fun _ _ _ k => k.eq1 3 72 rfl) (fun _ => rfl)) ?_
  refine .o1 (sk rfl rfl rfl (fun _ _ _ k => k.eq1 3 72 rfl) (fun _ => rfl)) ?_
  refine .o1 (tk rfl rfl fun _ w hn k => ⟨_, v_pickF rfl (k.eq1 3 72 rfl) rfl, rfl⟩) ?_
  refine .o1 (tk rfl rfl fun _ w hn k => ⟨_, v_assign rfl (k.eq1 7 76 rfl), rfl⟩) ?_
  exact .nil
  intro a412 w413 hn414 ha415
  obtain ⟨hs416, hd417, hN427⟩ := aft ha415 hs399 hd400 hN410 hn414
  have h418 := ha415.fx 2 h401
  have h419 := ha415.fx 3 h402
  have h420 := ha415.ge 8 68 rfl
  have hb421 := hb404.new_ hn414
  have hb422 := hb405.new_ hn414
  have hr423 := hr406.new_ hn414
  have hr424 := hr407.new_ hn414
  have hr425 := hr408.new_ hn414
  have hr426 := hr409.new_ hn414
  refine st_nil (hK411 _ _ ?_)
  refine wp_cond_false h420 ?_
  refine wp_skip ?_
  refine hK243 _ _ ?_
  refine wp_seq_k fun K428 hK428 => ?_
  refine wp_g0 [true, true] [] 91
    [ve (.bool false),
     ve (iv 3)] hs416 (.eq (.eq (.nil))) ?_ ?_
  refine .o1 (tk rfl rfl fun _ w hn k => ⟨_, v_assign rfl rfl, rfl⟩) ?_
  refine .o1 (tk rfl rfl fun _ w hn k => ⟨_, v_assign rfl rfl, rfl⟩) ?_
  exact .nil
  intro a429 w430 hn431 ha432
  obtain ⟨hs433, hd434, hN437⟩ := aft ha432 hs416 hd417 hN427 hn431
  have h435 := ha432.ge 0 4 rfl
  have h436 := ha432.ge 1 5 rfl
  refine st_nil (hK428 _ _ ?_)
  refine wp_ret (ret_k hd434 (v := .tuple #[.bool false, iv 3]) (res_tt rfl h435 h436 _) ?_)
  refine ⟨?_, hN437⟩
  show Ending.returned (.tuple #[.bool false, iv 3]) = Ending.returned (.tuple #[.bool ((looseV v u).1), iv ((looseV v u).2)])
  first | rfl | (simp only [looseV, loose1, loose2, loose3, noneV, ht90, ht104, ht147, ht226, ht261, ht275, bsm] <;> rfl) | (simp [looseV, loose1, loose2, loose3, noneV, ht90, ht104, ht147, ht226, ht261, ht275]; done) | (exfalso; omega)
  have ht226d := of_decide_eq_false ht226
  refine wp_g0 [true, true, true, true, true] [] 91
    [ve (pv q9),
     ve (iv ((countedV (cleanV v)).k)),
     ve (pv q13),
     ve (iv ((countedV (cleanV u)).k)),
     ve (.bool true)] hs165 (.eq (.eq (.eq (.eq (.eq (.nil)))))) ?_ ?_
  refine .o1 (tk rfl rfl fun _ w hn k => ⟨_, v_field rfl (k.fx 2 h167) (fun w => rfl), rfl⟩) ?_
  refine .o1 (tk rfl rfl fun _ w hn k => ⟨_, v_load rfl (k.eq1 0 38 rfl) (l_one Try.isAgg3 ((hb222.new_ hn).cell 0)), rfl⟩) ?_
  refine .o1 (tk rfl rfl fun _ w hn k => ⟨_, v_field rfl (k.fx 3 h168) (fun w => rfl), rfl⟩) ?_
  refine .o1 (tk rfl rfl fun _ w hn k => ⟨_, v_load rfl (k.eq1 2 40 rfl) (l_one Try.isAgg3 ((hb209.new_ hn).cell 0)), rfl⟩) ?_
  refine .o1 (tk rfl rfl fun _ w hn k => ⟨_, v_bin rfl (k.eq1 1 39 rfl) (k.eq1 3 41 rfl) (fun _ => rfl) (r_gtrK ht226), rfl⟩) ?_
  exact .nil
  intro a438 w439 hn440 ha441
  obtain ⟨hs442, hd443, hN453⟩ := aft ha441 hs165 hd166 hN223 hn440
  have h444 := ha441.fx 2 h167
  have h445 := ha441.fx 3 h168
  have h446 := ha441.ge 4 42 rfl
  have hb447 := hb222.new_ hn440
  have hb448 := hb209.new_ hn440
  have hr449 := hr218.new_ hn440
  have hr450 := hr219.new_ hn440
  have hr451 := hr220.new_ hn440
  have hr452 := hr221.new_ hn440
  refine st_nil (hK225 _ _ ?_)
  refine wp_cond_true h446 ?_
  refine wp_g0 [true, true, false, false] [(2, false), (3, false)] 91
    [ve (vv (countedV (cleanV u)) A177 cc178 A180 cc181),
     ve (vv (countedV (cleanV v)) A170 cc171 A173 cc174),
     vt,
     vt] hs442 (.eq (.eq (.tt (.tt (.nil))))) ?_ ?_
  refine .o1 (tk rfl rfl fun _ w hn k => ⟨_, v_load rfl (k.fx 3 h445) (l_agg Try.isAgg29 Try.sizeOf29 (hb448.new_ hn) rfl), rfl⟩) ?_
  refine .o1 (tk rfl rfl fun _ w hn k => ⟨_, v_load rfl (k.fx 2 h444) (l_agg Try.isAgg29 Try.sizeOf29 (hb447.new_ hn) rfl), rfl⟩) ?_
  refine .off ?_
  refine .off ?_
  exact .nil
  intro a454 w455 hn456 ha457
  obtain ⟨hs458, hd459, hN470⟩ := aft ha457 hs442 hd443 hN453 hn456
  have h460 := ha457.fx 2 h444
  have h461 := ha457.fx 3 h445
  have h462 := ha457.ge 0 43 rfl
  have h463 := ha457.ge 1 44 rfl
  have hb464 := hb447.new_ hn456
  have hb465 := hb448.new_ hn456
  have hr466 := hr449.new_ hn456
  have hr467 := hr450.new_ hn456
  have hr468 := hr451.new_ hn456
  have hr469 := hr452.new_ hn456
  obtain ⟨w471, hst472, hb4730, hu474, hf475⟩ := s_many (P := Try.prog) (t := 29) (i := 0) [iv ((countedV (cleanV u)).k), iv ((countedV (cleanV u)).nk), iv ((countedV (cleanV u)).nn), .bool ((countedV (cleanV u)).neg), sv A177 ((countedV (cleanV u)).mag) cc178, sv A180 ((countedV (cleanV u)).s) cc181, iv ((countedV (cleanV u)).ref)] Try.sizeOf29 rfl rfl rfl hb464 (Nat.le_of_ble_eq_true rfl)
  have hb473 : Blk w471 q9 29 [iv ((countedV (cleanV u)).k), iv ((countedV (cleanV u)).nk), iv ((countedV (cleanV u)).nn), .bool ((countedV (cleanV u)).neg), sv A177 ((countedV (cleanV u)).mag) cc178, sv A180 ((countedV (cleanV u)).s) cc181, iv ((countedV (cleanV u)).ref)] := hb4730
  refine st_act rfl rfl fun K476 hL477 => a_store' rfl h460 h462 hst472 (hL477 _ _ trivial ?_)
  have hr478 := hr466.far hb464 hu474 (by first | rfl | decide | simp [notK])
  have hr479 := hr467.far hb464 hu474 (by first | rfl | decide | simp [notK])
  have hr480 := hr468.far hb464 hu474 (by first | rfl | decide | simp [notK])
  have hr481 := hr469.far hb464 hu474 (by first | rfl | decide | simp [notK])
  have hb482 := hf475 _ _ _ (fun h => hne16 h.symm) hb465
  have hN483 := hN470.trans hu474 (fun k hk hkb => by subst hkb; omega)
  obtain ⟨w484, hst485, hb4860, hu487, hf488⟩ := s_many (P := Try.prog) (t := 29) (i := 0) [iv ((countedV (cleanV v)).k), iv ((countedV (cleanV v)).nk), iv ((countedV (cleanV v)).nn), .bool ((countedV (cleanV v)).neg), sv A170 ((countedV (cleanV v)).mag) cc171, sv A173 ((countedV (cleanV v)).s) cc174, iv ((countedV (cleanV v)).ref)] Try.sizeOf29 rfl rfl rfl hb482 (Nat.le_of_ble_eq_true rfl)
  have hb486 : Blk w484 q13 29 [iv ((countedV (cleanV v)).k), iv ((countedV (cleanV v)).nk), iv ((countedV (cleanV v)).nn), .bool ((countedV (cleanV v)).neg), sv A170 ((countedV (cleanV v)).mag) cc171, sv A173 ((countedV (cleanV v)).s) cc174, iv ((countedV (cleanV v)).ref)] := hb4860
  refine st_act rfl rfl fun K489 hL490 => a_store' rfl h461 h463 hst485 (hL490 _ _ trivial ?_)
  have hr491 := hr478.far hb482 hu487 (by first | rfl | decide | simp [notK])
  have hr492 := hr479.far hb482 hu487 (by first | rfl | decide | simp [notK])
  have hr493 := hr480.far hb482 hu487 (by first | rfl | decide | simp [notK])
  have hr494 := hr481.far hb482 hu487 (by first | rfl | decide | simp [notK])
  have hb495 := hf488 _ _ _ (hne16) hb473
  have hN496 := hN483.trans hu487 (fun k hk hkb => by subst hkb; omega)
  refine st_nil (hK224 _ _ ?_)
  refine wp_seq_k fun K497 hK497 => ?_
  refine wp_block ?_
  refine wp_seq_k fun K498 hK498 => ?_
  refine wp_g0 [true, true, true, true, true, true] [] 91
    [ve (pv q9),
     ve (iv ((countedV (cleanV u)).k)),
     ve (pv q13),
     ve (iv ((countedV (cleanV v)).k)),
     ve (.bool (decide (((countedV (cleanV u)).k) = ((countedV (cleanV v)).k)))),
     ve (.bool (decide (((countedV (cleanV u)).k) = ((countedV (cleanV v)).k))))] hs458 (.eq (.eq (.eq (.eq (.eq (.eq (.nil))))))) ?_ ?_
  refine .o1 (tk rfl rfl fun _ w hn k => ⟨_, v_field rfl (k.fx 2 h460) (fun w => rfl), rfl⟩) ?_
  refine .o1 (tk rfl rfl fun _ w hn k => ⟨_, v_load rfl (k.eq1 0 46 rfl) (l_one Try.isAgg3 ((hb495.new_ hn).cell 0)), rfl⟩) ?_
  refine .o1 (tk rfl rfl fun _ w hn k => ⟨_, v_field rfl (k.fx 3 h461) (fun w => rfl), rfl⟩) ?_
  refine .o1 (tk rfl rfl fun _ w hn k => ⟨_, v_load rfl (k.eq1 2 48 rfl) (l_one Try.isAgg3 ((hb486.new_ hn).cell 0)), rfl⟩) ?_
  refine .o1 (tk rfl rfl fun _ w hn k => ⟨_, v_bin rfl (k.eq1 1 47 rfl) (k.eq1 3 49 rfl) (fun _ => rfl) (r_eql rfl), rfl⟩) ?_
  refine .o1 (tk rfl rfl fun _ w hn k => ⟨_, v_assign rfl (k.eq1 4 50 rfl), rfl⟩) ?_
  exact .nil
  intro a499 w500 hn501 ha502
  obtain ⟨hs503, hd504, hN514⟩ := aft ha502 hs458 hd459 hN496 hn501
  have h505 := ha502.fx 2 h460
  have h506 := ha502.fx 3 h461
  have h507 := ha502.ge 5 45 rfl
  have hb508 := hb495.new_ hn501
  have hb509 := hb486.new_ hn501
  have hr510 := hr491.new_ hn501
  have hr511 := hr492.new_ hn501
  have hr512 := hr493.new_ hn501
  have hr513 := hr494.new_ hn501
  refine st_nil (hK498 _ _ ?_)
  rcases Bool.eq_false_or_eq_true (decide (((countedV (cleanV u)).k) = ((countedV (cleanV v)).k))) with ht515 | ht515
  have ht515d := of_decide_eq_true ht515
  have hv516 := hB h507 ht515
  refine wp_cond_true hv516 ?_
  refine wp_seq_k fun K517 hK517 => ?_
  refine wp_g0 [true, true, true, true, true] [] 91
    [ve (vv (countedV (cleanV u)) A177 cc178 A180 cc181),
     ve (vv (countedV (cleanV v)) A170 cc171 A173 cc174),
     ve (.bool (strictV (countedV (cleanV u)) (countedV (cleanV v)))),
     ve (.bool (strictV (countedV (cleanV u)) (countedV (cleanV v)))),
     ve (iv 0)] hs503 (.eq (.eq (.eq (.eq (.eq (.nil)))))) ?_ ?_
  refine .o1 (tk rfl rfl fun _ w hn k => ⟨_, v_load rfl (k.fx 2 h505) (l_agg Try.isAgg29 Try.sizeOf29 (hb508.new_ hn) rfl), rfl⟩) ?_
  refine .o1 (tk rfl rfl fun _ w hn k => ⟨_, v_load rfl (k.fx 3 h506) (l_agg Try.isAgg29 Try.sizeOf29 (hb509.new_ hn) rfl), rfl⟩) ?_
  refine .o1 (ck rfl rfl rfl (fun _ w hn k => ⟨#[vv (countedV (cleanV u)) A177 cc178 A180 cc181, vv (countedV (cleanV v)) A170 cc171 A173 cc174], args2 (k.eq1 0 51 rfl) (k.eq1 1 52 rfl), fun _ => by kernel_rfl, cstrict_c (countedV (cleanV u)) _ _ _ _ (countedV (cleanV v)) _ _ _ _ _ (hr512.new_ hn) (hr513.new_ hn) (hr510.new_ hn) (hr511.new_ hn)⟩) fun _ => rfl) ?_
  refine .o1 (tk rfl rfl fun _ w hn k => ⟨_, v_assign rfl (k.eq1 2 53 rfl), rfl⟩) ?_
  refine .o1 (tk rfl rfl fun _ w hn k => ⟨_, v_assign rfl rfl, rfl⟩) ?_
  exact .nil
  intro a518 w519 hn520 ha521
  obtain ⟨hs522, hd523, hN526⟩ := aft ha521 hs503 hd504 hN514 hn520
  have h524 := ha521.ge 3 4 rfl
  have h525 := ha521.ge 4 5 rfl
  refine st_nil (hK517 _ _ ?_)
  refine wp_ret (ret_k hd523 (v := .tuple #[.bool (strictV (countedV (cleanV u)) (countedV (cleanV v))), iv 0]) (res_tt rfl h524 h525 _) ?_)
  refine ⟨?_, hN526⟩
  show Ending.returned (.tuple #[.bool (strictV (countedV (cleanV u)) (countedV (cleanV v))), iv 0]) = Ending.returned (.tuple #[.bool ((looseV v u).1), iv ((looseV v u).2)])
  first | rfl | (simp only [looseV, loose1, loose2, loose3, noneV, ht90, ht104, ht147, ht226, ht515, bsm] <;> rfl) | (simp [looseV, loose1, loose2, loose3, noneV, ht90, ht104, ht147, ht226, ht515]; done) | (exfalso; omega)
  have ht515d := of_decide_eq_false ht515
  have hv527 := hB h507 ht515
  refine wp_cond_false hv527 ?_
  refine wp_seq_k fun K528 hK528 => ?_
  rcases Bool.eq_false_or_eq_true (decide (((countedV (cleanV u)).k) = 3)) with ht529 | ht529
  have ht529d := of_decide_eq_true ht529
  refine wp_g0 [true, true, true, true, true, true, true, true, true] [] 91
    [ve (pv q9),
     ve (iv ((countedV (cleanV u)).k)),
     ve (.bool true),
     ve (.bool true),
     ve (pv q13),
     ve (iv ((countedV (cleanV v)).k)),
     ve (.bool (decide (((countedV (cleanV v)).k) = 4))),
     ve (.bool (decide (((countedV (cleanV v)).k) = 4))),
     ve (.bool (decide (((countedV (cleanV v)).k) = 4)))] hs503 (.eq (.eq (.eq (.eq (.eq (.eq (.eq (.eq (.eq (.nil)))))))))) ?_ ?_
  refine .o1 (tk rfl rfl fun _ w hn k => ⟨_, v_field rfl (k.fx 2 h505) (fun w => rfl), rfl⟩) ?_
  refine .o1 (tk rfl rfl fun _ w hn k => ⟨_, v_load rfl (k.eq1 0 55 rfl) (l_one Try.isAgg3 ((hb508.new_ hn).cell 0)), rfl⟩) ?_
  refine .o1 (tk rfl rfl fun _ w hn k => ⟨_, v_bin rfl (k.eq1 1 56 rfl) rfl (fun _ => rfl) (r_eql ht529), rfl⟩) ?_
  refine .o1 (tk rfl rfl fun _ w hn k => ⟨_, v_move rfl (k.eq1 2 57 rfl), rfl⟩) ?_
  refine .o1 (tg rfl rfl rfl (fun _ _ k => k.eq1 3 58 rfl) fun _ w hn k => ⟨_, v_field rfl (k.fx 3 h506) (fun w => rfl), rfl⟩) ?_
  refine .o1 (tg rfl rfl rfl (fun _ _ k => k.eq1 3 58 rfl) fun _ w hn k => ⟨_, v_load rfl (k.eq1 4 59 rfl) (l_one Try.isAgg3 ((hb509.new_ hn).cell 0)), rfl⟩) ?_
  refine .o1 (tg rfl rfl rfl (fun _ _ k => k.eq1 3 58 rfl) fun _ w hn k => ⟨_, v_bin rfl (k.eq1 5 60 rfl) rfl (fun _ => rfl) (r_eql rfl), rfl⟩) ?_
  refine .o1 (tk rfl rfl fun _ w hn k => ⟨_, v_pickT rfl (k.eq1 3 58 rfl) (k.eq1 6 61 rfl), rfl⟩) ?_
  refine .o1 (tk rfl rfl fun _ w hn k => ⟨_, v_assign rfl (k.eq1 7 62 rfl), rfl⟩) ?_
  exact .nil
  intro a530 w531 hn532 ha533
  obtain ⟨hs534, hd535, hN545⟩ := aft ha533 hs503 hd504 hN514 hn532
  have h536 := ha533.fx 2 h505
  have h537 := ha533.fx 3 h506
  have h538 := ha533.ge 8 54 rfl
  have hb539 := hb508.new_ hn532
  have hb540 := hb509.new_ hn532
  have hr541 := hr510.new_ hn532
  have hr542 := hr511.new_ hn532
  have hr543 := hr512.new_ hn532
  have hr544 := hr513.new_ hn532
  refine st_nil (hK528 _ _ ?_)
  rcases Bool.eq_false_or_eq_true (decide (((countedV (cleanV v)).k) = 4)) with ht546 | ht546
  have ht546d := of_decide_eq_true ht546
  have hv547 := hB h538 ht546
  refine wp_cond_true hv547 ?_
  refine wp_seq_k fun K548 hK548 => ?_
  refine wp_g0 [true, true, true, true, true, true, true] [] 91
    [ve (.pointer (some ⟨q13, 3, none⟩)),
     ve (.agg #[.bool ((countedV (cleanV v)).neg), sv A170 ((countedV (cleanV v)).mag) cc171]),
     ve (.pointer (some ⟨q9, 1, none⟩)),
     ve (nv (Nm.mk ((countedV (cleanV u)).nk) ((countedV (cleanV u)).nn))),
     ve (.bool (alikeB ((countedV (cleanV v)).neg) ((countedV (cleanV v)).mag) (Nm.mk ((countedV (cleanV u)).nk) ((countedV (cleanV u)).nn)))),
     ve (.bool (alikeB ((countedV (cleanV v)).neg) ((countedV (cleanV v)).mag) (Nm.mk ((countedV (cleanV u)).nk) ((countedV (cleanV u)).nn)))),
     ve (iv 0)] hs534 (.eq (.eq (.eq (.eq (.eq (.eq (.eq (.nil)))))))) ?_ ?_
  refine .o1 (tk rfl rfl fun _ w hn k => ⟨_, v_field rfl (k.fx 3 h537) (fun w => rfl), rfl⟩) ?_
  refine .o1 (tk rfl rfl fun _ w hn k => ⟨_, v_load rfl (k.eq1 0 63 rfl) (l_part Try.isAgg26 Try.sizeOf26 (hb540.new_ hn) (Nat.le_of_ble_eq_true rfl)), rfl⟩) ?_
  refine .o1 (tk rfl rfl fun _ w hn k => ⟨_, v_field rfl (k.fx 2 h536) (fun w => rfl), rfl⟩) ?_
  refine .o1 (tk rfl rfl fun _ w hn k => ⟨_, v_load rfl (k.eq1 2 65 rfl) (l_part Try.isAgg23 Try.sizeOf23 (hb539.new_ hn) (Nat.le_of_ble_eq_true rfl)), rfl⟩) ?_
  refine .o1 (ck rfl rfl rfl (fun _ w hn k => ⟨#[.agg #[.bool ((countedV (cleanV v)).neg), sv A170 ((countedV (cleanV v)).mag) cc171], nv (Nm.mk ((countedV (cleanV u)).nk) ((countedV (cleanV u)).nn))], args2 (k.eq1 1 64 rfl) (k.eq1 3 66 rfl), fun _ => by kernel_rfl, alike_c ((countedV (cleanV v)).neg) _ ((countedV (cleanV v)).mag) _ (Nm.mk ((countedV (cleanV u)).nk) ((countedV (cleanV u)).nn)) _ (hr541.new_ hn) hvv.clean.counted.limbs (by first | omega | (simp only [List.length_nil, List.length_take, List.length_drop]; omega) | (simp only [List.length_cons, List.length_nil]; omega)) (by omega) (by omega)⟩) fun _ => rfl) ?_
  refine .o1 (tk rfl rfl fun _ w hn k => ⟨_, v_assign rfl (k.eq1 4 67 rfl), rfl⟩) ?_
  refine .o1 (tk rfl rfl fun _ w hn k => ⟨_, v_assign rfl rfl, rfl⟩) ?_
  exact .nil
  intro a549 w550 hn551 ha552
  obtain ⟨hs553, hd554, hN557⟩ := aft ha552 hs534 hd535 hN545 hn551
  have h555 := ha552.ge 5 4 rfl
  have h556 := ha552.ge 6 5 rfl
  refine st_nil (hK548 _ _ ?_)
  refine wp_ret (ret_k hd554 (v := .tuple #[.bool (alikeB ((countedV (cleanV v)).neg) ((countedV (cleanV v)).mag) (Nm.mk ((countedV (cleanV u)).nk) ((countedV (cleanV u)).nn))), iv 0]) (res_tt rfl h555 h556 _) ?_)
  refine ⟨?_, hN557⟩
  show Ending.returned (.tuple #[.bool (alikeB ((countedV (cleanV v)).neg) ((countedV (cleanV v)).mag) (Nm.mk ((countedV (cleanV u)).nk) ((countedV (cleanV u)).nn))), iv 0]) = Ending.returned (.tuple #[.bool ((looseV v u).1), iv ((looseV v u).2)])
  first | rfl | (simp only [looseV, loose1, loose2, loose3, noneV, ht90, ht104, ht147, ht226, ht515, ht529, ht546, bsm] <;> rfl) | (simp [looseV, loose1, loose2, loose3, noneV, ht90, ht104, ht147, ht226, ht515, ht529, ht546]; done) | (exfalso; omega)
  have ht546d := of_decide_eq_false ht546
  have hv558 := hB h538 ht546
  refine wp_cond_false hv558 ?_
  refine wp_seq_k fun K559 hK559 => ?_
  refine wp_g0 [true, true, true, true, true, true, true, true, true] [] 91
    [ve (pv q9),
     ve (iv ((countedV (cleanV u)).k)),
     ve (.bool true),
     ve (.bool true),
     ve (pv q13),
     ve (iv ((countedV (cleanV v)).k)),
     ve (.bool (decide (((countedV (cleanV v)).k) = 5))),
     ve (.bool (decide (((countedV (cleanV v)).k) = 5))),
     ve (.bool (decide (((countedV (cleanV v)).k) = 5)))] hs534 (.eq (.eq (.eq (.eq (.eq (.eq (.eq (.eq (.eq (.nil)))))))))) ?_ ?_
  refine .o1 (tk rfl rfl fun _ w hn k => ⟨_, v_field rfl (k.fx 2 h536) (fun w => rfl), rfl⟩) ?_
  refine .o1 (tk rfl rfl fun _ w hn k => ⟨_, v_load rfl (k.eq1 0 69 rfl) (l_one Try.isAgg3 ((hb539.new_ hn).cell 0)), rfl⟩) ?_
  refine .o1 (tk rfl rfl fun _ w hn k => ⟨_, v_bin rfl (k.eq1 1 70 rfl) rfl (fun _ => rfl) (r_eql ht529), rfl⟩) ?_
  refine .o1 (tk rfl rfl fun _ w hn k => ⟨_, v_move rfl (k.eq1 2 71 rfl), rfl⟩) ?_
  refine .o1 (tg rfl rfl rfl (fun _ _ k => k.eq1 3 72 rfl) fun _ w hn k => ⟨_, v_field rfl (k.fx 3 h537) (fun w => rfl), rfl⟩) ?_
  refine .o1 (tg rfl rfl rfl (fun _ _ k => k.eq1 3 72 rfl) fun _ w hn k => ⟨_, v_load rfl (k.eq1 4 73 rfl) (l_one Try.isAgg3 ((hb540.new_ hn).cell 0)), rfl⟩) ?_
  refine .o1 (tg rfl rfl rfl (fun _ _ k => k.eq1 3 72 rfl) fun _ w hn k => ⟨_, v_bin rfl (k.eq1 5 74 rfl) rfl (fun _ => rfl) (r_eql rfl), rfl⟩) ?_
  refine .o1 (tk rfl rfl fun _ w hn k => ⟨_, v_pickT rfl (k.eq1 3 72 rfl) (k.eq1 6 75 rfl), rfl⟩) ?_
  refine .o1 (tk rfl rfl fun _ w hn k => ⟨_, v_assign rfl (k.eq1 7 76 rfl), rfl⟩) ?_
  exact .nil
  intro a560 w561 hn562 ha563
  obtain ⟨hs564, hd565, hN575⟩ := aft ha563 hs534 hd535 hN545 hn562
  have h566 := ha563.fx 2 h536
  have h567 := ha563.fx 3 h537
  have h568 := ha563.ge 8 68 rfl
  have hb569 := hb539.new_ hn562
  have hb570 := hb540.new_ hn562
  have hr571 := hr541.new_ hn562
  have hr572 := hr542.new_ hn562
  have hr573 := hr543.new_ hn562
  have hr574 := hr544.new_ hn562
  refine st_nil (hK559 _ _ ?_)
  rcases Bool.eq_false_or_eq_true (decide (((countedV (cleanV v)).k) = 5)) with ht576 | ht576
  have ht576d := of_decide_eq_true ht576
  have hv577 := hB h568 ht576
  refine wp_cond_true hv577 ?_
  refine wp_seq_k fun K578 hK578 => ?_
  refine wp_g [true, true, true, true, true, true, false, false] [4] [(6, false), (7, true)] 91
    [ve (vv (countedV (cleanV v)) A170 cc171 A173 cc174),
     ve (.tuple #[nv ((numberV (countedV (cleanV v))).1), iv ((numberV (countedV (cleanV v))).2)]),
     ve (.tuple #[nv ((numberV (countedV (cleanV v))).1), iv ((numberV (countedV (cleanV v))).2)]),
     ve (nv ((numberV (countedV (cleanV v))).1)),
     ve (iv ((numberV (countedV (cleanV v))).2)),
     IsNew w561 23 [iv 0, iv 0],
     vt,
     vt]
    [5] (newsCons (fun v w h => IsNew.old h) newsNil) hs564 (.eq (.eq (.eq (.eq (.eq (.nw (.tt (.tt (.nil))))))))) ?_ ?_ ?_
  refine .o1 (tk rfl rfl fun _ w hn k => ⟨_, v_load rfl (k.fx 3 h567) (l_agg Try.isAgg29 Try.sizeOf29 (hb570.new_ hn) rfl), rfl⟩) ?_
  refine .o1 (ck rfl rfl rfl (fun _ w hn k => ⟨#[vv (countedV (cleanV v)) A170 cc171 A173 cc174], args1 (k.eq1 0 78 rfl), fun _ => by kernel_rfl, cnumber_c (countedV (cleanV v)) _ _ _ _ _ (hr571.new_ hn) (hr572.new_ hn) hvv.clean.counted⟩) fun _ => rfl) ?_
  refine .o1 (tk rfl rfl fun _ w hn k => ⟨_, v_move rfl (k.eq1 1 79 rfl), rfl⟩) ?_
  refine .o1 (tk rfl rfl fun _ w hn k => ⟨_, v_extract rfl (k.eq1 2 77 rfl) rfl, rfl⟩) ?_
  refine .o3 ?_
  refine .o2 (step_allocN (cs := [iv 0, iv 0]) (t := 23) rfl (noG rfl) (fun _ w hn k => rfl) (fun q _ hq hb => ⟨q, rfl, hq, hb⟩)) ?_
  refine .off ?_
  refine .off ?_
  exact .nil
  intro i h
  simp only [List.contains_eq_mem, List.mem_cons, List.not_mem_nil, or_false, decide_eq_true_eq] at h
  subst h
  exact eager_take rfl rfl fun _ w hn k => ⟨iv ((numberV (countedV (cleanV v))).2), fun w => v_extract rfl (k.eq1 2 77 rfl) rfl, rfl⟩
  intro a579 w580 hn581 ha582
  obtain ⟨hs583, hd584, hN597⟩ := aft ha582 hs564 hd565 hN575 hn581
  have h585 := ha582.fx 2 h566
  have h586 := ha582.ge 3 80 rfl
  have h587 := ha582.ge 4 81 rfl
  obtain ⟨q589, h588, hq590, hb591⟩ : IsNew _ _ _ _ _ := ha582.got 5 6 rfl (by kernel_rfl)
  have hb592 := hb569.new_ hn581
  have hne593 : q9 ≠ q589 := by have h1 := hb569.lt; have h2 := hq590; omega
  have hq594 := Nat.le_trans hN575.size hq590
  have hr595 := hr573.new_ hn581
  have hr596 := hr574.new_ hn581
  obtain ⟨w598, -, hst599, hb600, hu601, hf602⟩ := s_two (v0 := iv ((numberV (countedV (cleanV v))).1.k)) (v1 := iv ((numberV (countedV (cleanV v))).1.n)) Try.sizeOf23 rfl rfl rfl hb591
  refine st_act rfl rfl fun K603 hL604 => a_store' rfl h588 h586 hst599 (hL604 _ _ trivial ?_)
  have hr605 := hr595.far hb591 hu601 (by first | rfl | decide | simp [notK])
  have hr606 := hr596.far hb591 hu601 (by first | rfl | decide | simp [notK])
  have hb607 := hf602 _ _ _ (hne593) hb592
  have hN608 := hN597.trans hu601 (fun k hk hkb => by subst hkb; omega)
  refine st_take rfl rfl (y_assign (v := iv ((numberV (countedV (cleanV v))).2)) rfl h587) rfl ?_
  obtain ⟨a609, ha610⟩ : ∃ a', a' = a579.put (some 7) (iv ((numberV (countedV (cleanV v))).2)) := ⟨_, rfl⟩
  have hs611 : a609.tmps.size = 91 := by rw [ha610, put_size]; exact hs583
  have hd612 : a609.defers = [] := by rw [ha610, put_defers]; exact hd584
  have h613 := pn ha610 h585 (by decide)
  have h614 := pn ha610 h586 (by decide)
  have h615 := pn ha610 h587 (by decide)
  have h616 := pn ha610 h588 (by decide)
  have h617 : a609.eval (.tmp 7) = iv ((numberV (countedV (cleanV v))).2) := by rw [ha610]; exact put_same _ _ _ (by rw [hs583]; decide)
  show stepsTo _ _ _ _ _ (a579.put (some 7) (iv ((numberV (countedV (cleanV v))).2))) _
  rw [← ha610]
  refine st_nil (hK578 _ _ ?_)
  refine wp_seq_k fun K618 hK618 => ?_
  rcases Bool.eq_false_or_eq_true (decide (((numberV (countedV (cleanV v))).2) = 0)) with ht619 | ht619
  have ht619d := of_decide_eq_true ht619
  refine wp_g0 [true, true, true, true, true, true, true, true, true, true, true] [] 91
    [ve (iv ((numberV (countedV (cleanV v))).2)),
     ve (.bool true),
     ve (.bool true),
     ve (.pointer (some ⟨q9, 1, none⟩)),
     ve (nv (Nm.mk ((countedV (cleanV u)).nk) ((countedV (cleanV u)).nn))),
     ve (nv ((numberV (countedV (cleanV v))).1)),
     ve (.bool (equalM (Nm.mk ((countedV (cleanV u)).nk) ((countedV (cleanV u)).nn)) ((numberV (countedV (cleanV v))).1))),
     ve (.bool (equalM (Nm.mk ((countedV (cleanV u)).nk) ((countedV (cleanV u)).nn)) ((numberV (countedV (cleanV v))).1))),
     ve (iv ((numberV (countedV (cleanV v))).2)),
     ve (.bool (equalM (Nm.mk ((countedV (cleanV u)).nk) ((countedV (cleanV u)).nn)) ((numberV (countedV (cleanV v))).1))),
     ve (iv ((numberV (countedV (cleanV v))).2))] hs611 (.eq (.eq (.eq (.eq (.eq (.eq (.eq (.eq (.eq (.eq (.eq (.nil)))))))))))) ?_ ?_
  refine .o1 (tk rfl rfl fun _ w hn k => ⟨_, v_move rfl (k.fx 7 h617), rfl⟩) ?_
  refine .o1 (tk rfl rfl fun _ w hn k => ⟨_, v_bin rfl (k.eq1 0 82 rfl) rfl (fun _ => rfl) (r_eql ht619), rfl⟩) ?_
  refine .o1 (tk rfl rfl fun _ w hn k => ⟨_, v_move rfl (k.eq1 1 83 rfl), rfl⟩) ?_
  refine .o1 (tg rfl rfl rfl (fun _ _ k => k.eq1 2 84 rfl) fun _ w hn k => ⟨_, v_field rfl (k.fx 2 h613) (fun w => rfl), rfl⟩) ?_
  refine .o1 (tg rfl rfl rfl (fun _ _ k => k.eq1 2 84 rfl) fun _ w hn k => ⟨_, v_load rfl (k.eq1 3 85 rfl) (l_part Try.isAgg23 Try.sizeOf23 (hb607.new_ hn) (Nat.le_of_ble_eq_true rfl)), rfl⟩) ?_
  refine .o1 (tg rfl rfl rfl (fun _ _ k => k.eq1 2 84 rfl) fun _ w hn k => ⟨_, v_load rfl (k.fx 6 h616) (l_two Try.isAgg23 Try.sizeOf23 (hb600.new_ hn)), rfl⟩) ?_
  refine .o1 (cg rfl rfl rfl (fun _ _ k => k.eq1 2 84 rfl) rfl (fun _ w hn k => ⟨#[nv (Nm.mk ((countedV (cleanV u)).nk) ((countedV (cleanV u)).nn)), nv ((numberV (countedV (cleanV v))).1)], args2 (k.eq1 4 86 rfl) (k.eq1 5 87 rfl), fun _ => by kernel_rfl, equal_c (Nm.mk ((countedV (cleanV u)).nk) ((countedV (cleanV u)).nn)) ((numberV (countedV (cleanV v))).1) _ ⟩) fun _ => rfl) ?_
  refine .o1 (tk rfl rfl fun _ w hn k => ⟨_, v_pickT rfl (k.eq1 2 84 rfl) (k.eq1 6 88 rfl), rfl⟩) ?_
  refine .o1 (tk rfl rfl fun _ w hn k => ⟨_, v_move rfl (k.fx 7 h617), rfl⟩) ?_
  refine .o1 (tk rfl rfl fun _ w hn k => ⟨_, v_assign rfl (k.eq1 7 89 rfl), rfl⟩) ?_
  refine .o1 (tk rfl rfl fun _ w hn k => ⟨_, v_assign rfl (k.eq1 8 90 rfl), rfl⟩) ?_
  exact .nil
  intro a620 w621 hn622 ha623
  obtain ⟨hs624, hd625, hN628⟩ := aft ha623 hs611 hd612 hN608 hn622
  have h626 := ha623.ge 9 4 rfl
  have h627 := ha623.ge 10 5 rfl
  refine st_nil (hK618 _ _ ?_)
  refine wp_ret (ret_k hd625 (v := .tuple #[.bool (equalM (Nm.mk ((countedV (cleanV u)).nk) ((countedV (cleanV u)).nn)) ((numberV (countedV (cleanV v))).1)), iv ((numberV (countedV (cleanV v))).2)]) (res_tt rfl h626 h627 _) ?_)
  refine ⟨?_, hN628⟩
  show Ending.returned (.tuple #[.bool (equalM (Nm.mk ((countedV (cleanV u)).nk) ((countedV (cleanV u)).nn)) ((numberV (countedV (cleanV v))).1)), iv ((numberV (countedV (cleanV v))).2)]) = Ending.returned (.tuple #[.bool ((looseV v u).1), iv ((looseV v u).2)])
  first | rfl | (simp only [looseV, loose1, loose2, loose3, noneV, ht90, ht104, ht147, ht226, ht515, ht529, ht546, ht576, ht619, bsm] <;> rfl) | (simp [looseV, loose1, loose2, loose3, noneV, ht90, ht104, ht147, ht226, ht515, ht529, ht546, ht576, ht619]; done) | (exfalso; omega)
  have ht619d := of_decide_eq_false ht619
  refine wp_g0 [true, true, true, true, true, true, true, true, true, true, true] [] 91
    [ve (iv ((numberV (countedV (cleanV v))).2)),
     ve (.bool false),
     ve (.bool false),
     ve undef,
     ve undef,
     ve undef,
     ve undef,
     ve (.bool false),
     ve (iv ((numberV (countedV (cleanV v))).2)),
     ve (.bool false),
     ve (iv ((numberV (countedV (cleanV v))).2))] hs611 (.eq (.eq (.eq (.eq (.eq (.eq (.eq (.eq (.eq (.eq (.eq (.nil)))))))))))) ?_ ?_
  refine .o1 (tk rfl rfl fun _ w hn k => ⟨_, v_move rfl (k.fx 7 h617), rfl⟩) ?_
  refine .o1 (tk rfl rfl fun _ w hn k => ⟨_, v_bin rfl (k.eq1 0 82 rfl) rfl (fun _ => rfl) (r_eql ht619), rfl⟩) ?_
  refine .o1 (tk rfl rfl fun _ w hn k => ⟨_, v_move rfl (k.eq1 1 83 rfl), rfl⟩) ?_
  refine .o1 (sk rfl rfl rfl (fun _ _ _ k => k.eq1 2 84 rfl) (fun _ => rfl)) ?_
  refine .o1 (sk rfl rfl rfl (fun _ _ _ k => k.eq1 2 84 rfl) (fun _ => rfl)) ?_
  refine .o1 (sk rfl rfl rfl (fun _ _ _ k => k.eq1 2 84 rfl) (fun _ => rfl)) ?_
  refine .o1 (sk rfl rfl rfl (fun _ _ _ k => k.eq1 2 84 rfl) (fun _ => rfl)) ?_
  refine .o1 (tk rfl rfl fun _ w hn k => ⟨_, v_pickF rfl (k.eq1 2 84 rfl) rfl, rfl⟩) ?_
  refine .o1 (tk rfl rfl fun _ w hn k => ⟨_, v_move rfl (k.fx 7 h617), rfl⟩) ?_
  refine .o1 (tk rfl rfl fun _ w hn k => ⟨_, v_assign rfl (k.eq1 7 89 rfl), rfl⟩) ?_
  refine .o1 (tk rfl rfl fun _ w hn k => ⟨_, v_assign rfl (k.eq1 8 90 rfl), rfl⟩) ?_
  exact .nil
  intro a629 w630 hn631 ha632
  obtain ⟨hs633, hd634, hN637⟩ := aft ha632 hs611 hd612 hN608 hn631
  have h635 := ha632.ge 9 4 rfl
  have h636 := ha632.ge 10 5 rfl
  refine st_nil (hK618 _ _ ?_)
  refine wp_ret (ret_k hd634 (v := .tuple #[.bool false, iv ((numberV (countedV (cleanV v))).2)]) (res_tt rfl h635 h636 _) ?_)
  refine ⟨?_, hN637⟩
  show Ending.returned (.tuple #[.bool false, iv ((numberV (countedV (cleanV v))).2)]) = Ending.returned (.tuple #[.bool ((looseV v u).1), iv ((looseV v u).2)])
  first | rfl | (simp only [looseV, loose1, loose2, loose3, noneV, ht90, ht104, ht147, ht226, ht515, ht529, ht546, ht576, ht619, bsm] <;> rfl) | (simp [looseV, loose1, loose2, loose3, noneV, ht90, ht104, ht147, ht226, ht515, ht529, ht546, ht576, ht619]; done) | (exfalso; omega)
  have ht576d := of_decide_eq_false ht576
  have hv638 := hB h568 ht576
  refine wp_cond_false hv638 ?_
  refine wp_skip ?_
  refine hK497 _ _ ?_
  refine wp_seq_k fun K639 hK639 => ?_
  refine wp_g0 [true, true] [] 91
    [ve (.bool false),
     ve (iv 3)] hs564 (.eq (.eq (.nil))) ?_ ?_
  refine .o1 (tk rfl rfl fun _ w hn k => ⟨_, v_assign rfl rfl, rfl⟩) ?_
  refine .o1 (tk rfl rfl fun _ w hn k => ⟨_, v_assign rfl rfl, rfl⟩) ?_
  exact .nil
  intro a640 w641 hn642 ha643
  obtain ⟨hs644, hd645, hN648⟩ := aft ha643 hs564 hd565 hN575 hn642
  have h646 := ha643.ge 0 4 rfl
  have h647 := ha643.ge 1 5 rfl
  refine st_nil (hK639 _ _ ?_)
  refine wp_ret (ret_k hd645 (v := .tuple #[.bool false, iv 3]) (res_tt rfl h646 h647 _) ?_)
  refine ⟨?_, hN648⟩
  show Ending.returned (.tuple #[.bool false, iv 3]) = Ending.returned (.tuple #[.bool ((looseV v u).1), iv ((looseV v u).2)])
  first | rfl | (simp only [looseV, loose1, loose2, loose3, noneV, ht90, ht104, ht147, ht226, ht515, ht529, ht546, ht576, bsm] <;> rfl) | (simp [looseV, loose1, loose2, loose3, noneV, ht90, ht104, ht147, ht226, ht515, ht529, ht546, ht576]; done) | (exfalso; omega)
  have ht529d := of_decide_eq_false ht529
  refine wp_g0 [true, true, true, true, true, true, true, true, true] [] 91
    [ve (pv q9),
     ve (iv ((countedV (cleanV u)).k)),
     ve (.bool false),
     ve (.bool false),
     ve undef,
     ve undef,
     ve undef,
     ve (.bool false),
     ve (.bool false)] hs503 (.eq (.eq (.eq (.eq (.eq (.eq (.eq (.eq (.eq (.nil)))))))))) ?_ ?_
  refine .o1 (tk rfl rfl fun _ w hn k => ⟨_, v_field rfl (k.fx 2 h505) (fun w => rfl), rfl⟩) ?_
  refine .o1 (tk rfl rfl fun _ w hn k => ⟨_, v_load rfl (k.eq1 0 55 rfl) (l_one Try.isAgg3 ((hb508.new_ hn).cell 0)), rfl⟩) ?_
  refine .o1 (tk rfl rfl fun _ w hn k => ⟨_, v_bin rfl (k.eq1 1 56 rfl) rfl (fun _ => rfl) (r_eql ht529), rfl⟩) ?_
  refine .o1 (tk rfl rfl fun _ w hn k => ⟨_, v_move rfl (k.eq1 2 57 rfl), rfl⟩) ?_
  refine .o1 (sk rfl rfl rfl (fun _ _ _ k => k.eq1 3 58 rfl) (fun _ => rfl)) ?_
  refine .o1 (sk rfl rfl rfl (fun _ _ _ k => k.eq1 3 58 rfl) (fun _ => rfl)) ?_
  refine .o1 (sk rfl rfl rfl (fun _ _ _ k => k.eq1 3 58 rfl) (fun _ => rfl)) ?_
  refine .o1 (tk rfl rfl fun _ w hn k => ⟨_, v_pickF rfl (k.eq1 3 58 rfl) rfl, rfl⟩) ?_
  refine .o1 (tk rfl rfl fun _ w hn k => ⟨_, v_assign rfl (k.eq1 7 62 rfl), rfl⟩) ?_
  exact .nil
  intro a649 w650 hn651 ha652
  obtain ⟨hs653, hd654, hN664⟩ := aft ha652 hs503 hd504 hN514 hn651
  have h655 := ha652.fx 2 h505
  have h656 := ha652.fx 3 h506
  have h657 := ha652.ge 8 54 rfl
  have hb658 := hb508.new_ hn651
  have hb659 := hb509.new_ hn651
  have hr660 := hr510.new_ hn651
  have hr661 := hr511.new_ hn651
  have hr662 := hr512.new_ hn651
  have hr663 := hr513.new_ hn651
  refine st_nil (hK528 _ _ ?_)
  refine wp_cond_false h657 ?_
  refine wp_seq_k fun K665 hK665 => ?_
  refine wp_g0 [true, true, true, true, true, true, true, true, true] [] 91
    [ve (pv q9),
     ve (iv ((countedV (cleanV u)).k)),
     ve (.bool false),
     ve (.bool false),
     ve undef,
     ve undef,
     ve undef,
     ve (.bool false),
     ve (.bool false)] hs653 (.eq (.eq (.eq (.eq (.eq (.eq (.eq (.eq (.eq (.nil)))))))))) ?_ ?_
  refine .o1 (tk rfl rfl fun _ w hn k => ⟨_, v_field rfl (k.fx 2 h655) (fun w => rfl), rfl⟩) ?_
  refine .o1 (tk rfl rfl fun _ w hn k => ⟨_, v_load rfl (k.eq1 0 69 rfl) (l_one Try.isAgg3 ((hb658.new_ hn).cell 0)), rfl⟩) ?_
  refine .o1 (tk rfl rfl fun _ w hn k => ⟨_, v_bin rfl (k.eq1 1 70 rfl) rfl (fun _ => rfl) (r_eql ht529), rfl⟩) ?_
  refine .o1 (tk rfl rfl fun _ w hn k => ⟨_, v_move rfl (k.eq1 2 71 rfl), rfl⟩) ?_
  refine .o1 (sk rfl rfl rfl (fun _ _ _ k => k.eq1 3 72 rfl) (fun _ => rfl)) ?_
  refine .o1 (sk rfl rfl rfl (fun _ _ _ k => k.eq1 3 72 rfl) (fun _ => rfl)) ?_
  refine .o1 (sk rfl rfl rfl (fun _ _ _ k => k.eq1 3 72 rfl) (fun _ => rfl)) ?_
  refine .o1 (tk rfl rfl fun _ w hn k => ⟨_, v_pickF rfl (k.eq1 3 72 rfl) rfl, rfl⟩) ?_
  refine .o1 (tk rfl rfl fun _ w hn k => ⟨_, v_assign rfl (k.eq1 7 76 rfl), rfl⟩) ?_
  exact .nil
  intro a666 w667 hn668 ha669
  obtain ⟨hs670, hd671, hN681⟩ := aft ha669 hs653 hd654 hN664 hn668
  have h672 := ha669.fx 2 h655
  have h673 := ha669.fx 3 h656
  have h674 := ha669.ge 8 68 rfl
  have hb675 := hb658.new_ hn668
  have hb676 := hb659.new_ hn668
  have hr677 := hr660.new_ hn668
  have hr678 := hr661.new_ hn668
  have hr679 := hr662.new_ hn668
  have hr680 := hr663.new_ hn668
  refine st_nil (hK665 _ _ ?_)
  refine wp_cond_false h674 ?_
  refine wp_skip ?_
  refine hK497 _ _ ?_
  refine wp_seq_k fun K682 hK682 => ?_
  refine wp_g0 [true, true] [] 91
    [ve (.bool false),
     ve (iv 3)] hs670 (.eq (.eq (.nil))) ?_ ?_
  refine .o1 (tk rfl rfl fun _ w hn k => ⟨_, v_assign rfl rfl, rfl⟩) ?_
  refine .o1 (tk rfl rfl fun _ w hn k => ⟨_, v_assign rfl rfl, rfl⟩) ?_
  exact .nil
  intro a683 w684 hn685 ha686
  obtain ⟨hs687, hd688, hN691⟩ := aft ha686 hs670 hd671 hN681 hn685
  have h689 := ha686.ge 0 4 rfl
  have h690 := ha686.ge 1 5 rfl
  refine st_nil (hK682 _ _ ?_)
  refine wp_ret (ret_k hd688 (v := .tuple #[.bool false, iv 3]) (res_tt rfl h689 h690 _) ?_)
  refine ⟨?_, hN691⟩
  show Ending.returned (.tuple #[.bool false, iv 3]) = Ending.returned (.tuple #[.bool ((looseV v u).1), iv ((looseV v u).2)])
  first | rfl | (simp only [looseV, loose1, loose2, loose3, noneV, ht90, ht104, ht147, ht226, ht515, ht529, bsm] <;> rfl) | (simp [looseV, loose1, loose2, loose3, noneV, ht90, ht104, ht147, ht226, ht515, ht529]; done) | (exfalso; omega)
theorem parts5 {ac : Act} {i1 i2 i3 i4 i5 : Nat} {x1 x2 x3 x4 x5 : Operand} {u1 u2 u3 u4 u5 : Value} (h1 : ac.eval x1 = u1) (h2 : ac.eval x2 = u2) (h3 : ac.eval x3 = u3) (h4 : ac.eval x4 = u4) (h5 : ac.eval x5 = u5) : ((#[(i1, x1), (i2, x2), (i3, x3), (i4, x4), (i5, x5)] : Array (Nat × Operand)).map fun (i, x) => (i, ac.eval x)) = [(i1, u1), (i2, u2), (i3, u3), (i4, u4), (i5, u5)].toArray := by simp [h1, h2, h3, h4, h5]
set_option maxHeartbeats 4000000 in
set_option maxRecDepth 100000 in
theorem rnum_c (a : Nm) (b : Nm) (w : World) : Calls Try.prog 59 #[nv a, nv b] w (IsRet (.bool (decide (a.k = b.k) && decide (a.n = b.n))) w) := by
  refine enter_abs Try.func59 rfl fun a0 hs0 hd0 hp => ?_
  have hs0 : a0.tmps.size = 17 := hs0
  have hN0 : New w w := Upd.refl _ _
  have hp0 : a0.eval (.tmp 0) = nv a := hp 0 _ rfl
  have hp1 : a0.eval (.tmp 1) = nv b := hp 1 _ rfl
  refine wp_seq_k fun K1 hK1 => ?_
  refine wp_g [true, true, true] [] [] 17
    [IsNew w 23 [iv a.k, iv a.n],
     IsNew w 23 [iv b.k, iv b.n],
     ve (.bool false)]
    [0, 1] (newsCons (fun v w h => IsNew.old h) (newsCons (fun v w h => IsNew.old h) newsNil)) hs0 (.nw (.nw (.eq (.nil)))) ?_ (fun i h => by cases h) ?_
  refine .o2 (step_allocN (cs := [iv a.k, iv a.n]) (t := 23) rfl (noG rfl) (fun _ w hn k => v_box rfl (k.fx 0 hp0) (fun w => rfl)) (fun q _ hq hb => ⟨q, rfl, hq, hb⟩)) ?_
  refine .o2 (step_allocN (cs := [iv b.k, iv b.n]) (t := 23) rfl (noG rfl) (fun _ w hn k => v_box rfl (k.fx 1 hp1) (fun w => rfl)) (fun q _ hq hb => ⟨q, rfl, hq, hb⟩)) ?_
  refine .o1 (tk rfl rfl fun _ w hn k => ⟨_, v_assign rfl rfl, rfl⟩) ?_
  exact .nil
  intro a2 w3 hn4 ha5
  obtain ⟨hs6, hd7, hN18⟩ := aft ha5 hs0 hd0 hN0 hn4
  obtain ⟨q9, h8, hq10, hb11⟩ : IsNew _ _ _ _ _ := ha5.got 0 2 rfl (by kernel_rfl)
  obtain ⟨q13, h12, hq14, hb15⟩ : IsNew _ _ _ _ _ := ha5.got 1 3 rfl (by kernel_rfl)
  have hq16 := Nat.le_trans hN0.size hq10
  have hq17 := Nat.le_trans hN0.size hq14
  refine st_nil (hK1 _ _ ?_)
  refine wp_seq_k fun K19 hK19 => ?_
  rcases Bool.eq_false_or_eq_true (decide (a.k = b.k)) with ht20 | ht20
  have ht20d := of_decide_eq_true ht20
  refine wp_g0 [true, true, true, true, true, true, true, true, true, true, true, true, true] [] 17
    [ve (pv q9),
     ve (iv a.k),
     ve (pv q13),
     ve (iv b.k),
     ve (.bool true),
     ve (.bool true),
     ve (.pointer (some ⟨q9, 1, none⟩)),
     ve (iv a.n),
     ve (.pointer (some ⟨q13, 1, none⟩)),
     ve (iv b.n),
     ve (.bool (decide (a.n = b.n))),
     ve (.bool (decide (a.n = b.n))),
     ve (.bool (decide (a.n = b.n)))] hs6 (.eq (.eq (.eq (.eq (.eq (.eq (.eq (.eq (.eq (.eq (.eq (.eq (.eq (.nil)))))))))))))) ?_ ?_
  refine .o1 (tk rfl rfl fun _ w hn k => ⟨_, v_field rfl (k.fx 2 h8) (fun w => rfl), rfl⟩) ?_
  refine .o1 (tk rfl rfl fun _ w hn k => ⟨_, v_load rfl (k.eq1 0 5 rfl) (l_one Try.isAgg3 ((hb11.new_ hn).cell 0)), rfl⟩) ?_
  refine .o1 (tk rfl rfl fun _ w hn k => ⟨_, v_field rfl (k.fx 3 h12) (fun w => rfl), rfl⟩) ?_
  refine .o1 (tk rfl rfl fun _ w hn k => ⟨_, v_load rfl (k.eq1 2 7 rfl) (l_one Try.isAgg3 ((hb15.new_ hn).cell 0)), rfl⟩) ?_
  refine .o1 (tk rfl rfl fun _ w hn k => ⟨_, v_bin rfl (k.eq1 1 6 rfl) (k.eq1 3 8 rfl) (fun _ => rfl) (r_eql ht20), rfl⟩) ?_
  refine .o1 (tk rfl rfl fun _ w hn k => ⟨_, v_move rfl (k.eq1 4 9 rfl), rfl⟩) ?_
  refine .o1 (tg rfl rfl rfl (fun _ _ k => k.eq1 5 10 rfl) fun _ w hn k => ⟨_, v_field rfl (k.fx 2 h8) (fun w => rfl), rfl⟩) ?_
  refine .o1 (tg rfl rfl rfl (fun _ _ k => k.eq1 5 10 rfl) fun _ w hn k => ⟨_, v_load rfl (k.eq1 6 11 rfl) (l_one Try.isAgg3 ((hb11.new_ hn).cell 1)), rfl⟩) ?_
  refine .o1 (tg rfl rfl rfl (fun _ _ k => k.eq1 5 10 rfl) fun _ w hn k => ⟨_, v_field rfl (k.fx 3 h12) (fun w => rfl), rfl⟩) ?_
  refine .o1 (tg rfl rfl rfl (fun _ _ k => k.eq1 5 10 rfl) fun _ w hn k => ⟨_, v_load rfl (k.eq1 8 13 rfl) (l_one Try.isAgg3 ((hb15.new_ hn).cell 1)), rfl⟩) ?_
  refine .o1 (tg rfl rfl rfl (fun _ _ k => k.eq1 5 10 rfl) fun _ w hn k => ⟨_, v_bin rfl (k.eq1 7 12 rfl) (k.eq1 9 14 rfl) (fun _ => rfl) (r_eql rfl), rfl⟩) ?_
  refine .o1 (tk rfl rfl fun _ w hn k => ⟨_, v_pickT rfl (k.eq1 5 10 rfl) (k.eq1 10 15 rfl), rfl⟩) ?_
  refine .o1 (tk rfl rfl fun _ w hn k => ⟨_, v_assign rfl (k.eq1 11 16 rfl), rfl⟩) ?_
  exact .nil
  intro a21 w22 hn23 ha24
  obtain ⟨hs25, hd26, hN28⟩ := aft ha24 hs6 hd7 hN18 hn23
  have h27 := ha24.ge 12 4 rfl
  refine st_nil (hK19 _ _ ?_)
  refine wp_ret (ret_k hd26 (v := .bool (decide (a.n = b.n))) (res_t rfl h27 _) ?_)
  refine ⟨?_, hN28⟩
  show Ending.returned (.bool (decide (a.n = b.n))) = Ending.returned (.bool (decide (a.k = b.k) && decide (a.n = b.n)))
  first | rfl | (simp only [ht20, bsm] <;> rfl) | (simp [ht20]; done) | (exfalso; omega)
  have ht20d := of_decide_eq_false ht20
  refine wp_g0 [true, true, true, true, true, true, true, true, true, true, true, true, true] [] 17
    [ve (pv q9),
     ve (iv a.k),
     ve (pv q13),
     ve (iv b.k),
     ve (.bool false),
     ve (.bool false),
     ve undef,
     ve undef,
     ve undef,
     ve undef,
     ve undef,
     ve (.bool false),
     ve (.bool false)] hs6 (.eq (.eq (.eq (.eq (.eq (.eq (.eq (.eq (.eq (.eq (.eq (.eq (.eq (.nil)))))))))))))) ?_ ?_
  refine .o1 (tk rfl rfl fun _ w hn k => ⟨_, v_field rfl (k.fx 2 h8) (fun w => rfl), rfl⟩) ?_
  refine .o1 (tk rfl rfl fun _ w hn k => ⟨_, v_load rfl (k.eq1 0 5 rfl) (l_one Try.isAgg3 ((hb11.new_ hn).cell 0)), rfl⟩) ?_
  refine .o1 (tk rfl rfl fun _ w hn k => ⟨_, v_field rfl (k.fx 3 h12) (fun w => rfl), rfl⟩) ?_
  refine .o1 (tk rfl rfl fun _ w hn k => ⟨_, v_load rfl (k.eq1 2 7 rfl) (l_one Try.isAgg3 ((hb15.new_ hn).cell 0)), rfl⟩) ?_
  refine .o1 (tk rfl rfl fun _ w hn k => ⟨_, v_bin rfl (k.eq1 1 6 rfl) (k.eq1 3 8 rfl) (fun _ => rfl) (r_eql ht20), rfl⟩) ?_
  refine .o1 (tk rfl rfl fun _ w hn k => ⟨_, v_move rfl (k.eq1 4 9 rfl), rfl⟩) ?_
  refine .o1 (sk rfl rfl rfl (fun _ _ _ k => k.eq1 5 10 rfl) (fun _ => rfl)) ?_
  refine .o1 (sk rfl rfl rfl (fun _ _ _ k => k.eq1 5 10 rfl) (fun _ => rfl)) ?_
  refine .o1 (sk rfl rfl rfl (fun _ _ _ k => k.eq1 5 10 rfl) (fun _ => rfl)) ?_
  refine .o1 (sk rfl rfl rfl (fun _ _ _ k => k.eq1 5 10 rfl) (fun _ => rfl)) ?_
  refine .o1 (sk rfl rfl rfl (fun _ _ _ k => k.eq1 5 10 rfl) (fun _ => rfl)) ?_
  refine .o1 (tk rfl rfl fun _ w hn k => ⟨_, v_pickF rfl (k.eq1 5 10 rfl) rfl, rfl⟩) ?_
  refine .o1 (tk rfl rfl fun _ w hn k => ⟨_, v_assign rfl (k.eq1 11 16 rfl), rfl⟩) ?_
  exact .nil
  intro a29 w30 hn31 ha32
  obtain ⟨hs33, hd34, hN36⟩ := aft ha32 hs6 hd7 hN18 hn31
  have h35 := ha32.ge 12 4 rfl
  refine st_nil (hK19 _ _ ?_)
  refine wp_ret (ret_k hd34 (v := .bool false) (res_t rfl h35 _) ?_)
  refine ⟨?_, hN36⟩
  show Ending.returned (.bool false) = Ending.returned (.bool (decide (a.k = b.k) && decide (a.n = b.n)))
  first | rfl | (simp only [ht20, bsm] <;> rfl) | (simp [ht20]; done) | (exfalso; omega)
set_option maxHeartbeats 4000000 in
set_option maxRecDepth 100000 in
theorem rbig_c (a : Bool) (Aa : Option Addr) (ma : List Nat) (ca : Nat) (b : Bool) (Ab : Option Addr) (mb : List Nat) (cb : Nat) (w : World) (hra : SRow w .u32 Aa ma ca) (hrb : SRow w .u32 Ab mb cb) : Calls Try.prog 60 #[.agg #[.bool a, sv Aa ma ca], .agg #[.bool b, sv Ab mb cb]] w (IsRet (.bool (decide (a = b) && decide (ma = mb))) w) := by
  refine enter_abs Try.func60 rfl fun a0 hs0 hd0 hp => ?_
  have hs0 : a0.tmps.size = 17 := hs0
  have hN0 : New w w := Upd.refl _ _
  have hp0 : a0.eval (.tmp 0) = .agg #[.bool a, sv Aa ma ca] := hp 0 _ rfl
  have hp1 : a0.eval (.tmp 1) = .agg #[.bool b, sv Ab mb cb] := hp 1 _ rfl
  refine wp_seq_k fun K1 hK1 => ?_
  refine wp_g [true, true, true] [] [] 17
    [IsNew w 26 [.bool a, sv Aa ma ca],
     IsNew w 26 [.bool b, sv Ab mb cb],
     ve (.bool false)]
    [0, 1] (newsCons (fun v w h => IsNew.old h) (newsCons (fun v w h => IsNew.old h) newsNil)) hs0 (.nw (.nw (.eq (.nil)))) ?_ (fun i h => by cases h) ?_
  refine .o2 (step_allocN (cs := [.bool a, sv Aa ma ca]) (t := 26) rfl (noG rfl) (fun _ w hn k => v_box rfl (k.fx 0 hp0) (fun w => rfl)) (fun q _ hq hb => ⟨q, rfl, hq, hb⟩)) ?_
  refine .o2 (step_allocN (cs := [.bool b, sv Ab mb cb]) (t := 26) rfl (noG rfl) (fun _ w hn k => v_box rfl (k.fx 1 hp1) (fun w => rfl)) (fun q _ hq hb => ⟨q, rfl, hq, hb⟩)) ?_
  refine .o1 (tk rfl rfl fun _ w hn k => ⟨_, v_assign rfl rfl, rfl⟩) ?_
  exact .nil
  intro a2 w3 hn4 ha5
  obtain ⟨hs6, hd7, hN18⟩ := aft ha5 hs0 hd0 hN0 hn4
  obtain ⟨q9, h8, hq10, hb11⟩ : IsNew _ _ _ _ _ := ha5.got 0 2 rfl (by kernel_rfl)
  obtain ⟨q13, h12, hq14, hb15⟩ : IsNew _ _ _ _ _ := ha5.got 1 3 rfl (by kernel_rfl)
  have hq16 := Nat.le_trans hN0.size hq10
  have hq17 := Nat.le_trans hN0.size hq14
  refine st_nil (hK1 _ _ ?_)
  refine wp_seq_k fun K19 hK19 => ?_
  rcases Bool.eq_false_or_eq_true (a) with ht20 | ht20
  rcases Bool.eq_false_or_eq_true (b) with ht21 | ht21
  refine wp_g0 [true, true, true, true, true, true, true, true, true, true, true, true, true] [] 17
    [ve (pv q9),
     ve (.bool true),
     ve (pv q13),
     ve (.bool true),
     ve (.bool true),
     ve (.bool true),
     ve (.pointer (some ⟨q9, 1, none⟩)),
     ve (sv Aa ma ca),
     ve (.pointer (some ⟨q13, 1, none⟩)),
     ve (sv Ab mb cb),
     ve (.bool (decide (ma = mb))),
     ve (.bool (decide (ma = mb))),
     ve (.bool (decide (ma = mb)))] hs6 (.eq (.eq (.eq (.eq (.eq (.eq (.eq (.eq (.eq (.eq (.eq (.eq (.eq (.nil)))))))))))))) ?_ ?_
  refine .o1 (tk rfl rfl fun _ w hn k => ⟨_, v_field rfl (k.fx 2 h8) (fun w => rfl), rfl⟩) ?_
  refine .o1 (tk rfl rfl fun _ w hn k => ⟨_, v_load rfl (k.eq1 0 5 rfl) (l_one Try.isAgg4 ((hb11.new_ hn).cell 0)), congrArg Value.bool ht20⟩) ?_
  refine .o1 (tk rfl rfl fun _ w hn k => ⟨_, v_field rfl (k.fx 3 h12) (fun w => rfl), rfl⟩) ?_
  refine .o1 (tk rfl rfl fun _ w hn k => ⟨_, v_load rfl (k.eq1 2 7 rfl) (l_one Try.isAgg4 ((hb15.new_ hn).cell 0)), congrArg Value.bool ht21⟩) ?_
  refine .o1 (tk rfl rfl fun _ w hn k => ⟨_, v_bin rfl (k.eq1 1 6 rfl) (k.eq1 3 8 rfl) (fun _ => rfl) (fun w => by kernel_rfl), rfl⟩) ?_
  refine .o1 (tk rfl rfl fun _ w hn k => ⟨_, v_move rfl (k.eq1 4 9 rfl), rfl⟩) ?_
  refine .o1 (tg rfl rfl rfl (fun _ _ k => k.eq1 5 10 rfl) fun _ w hn k => ⟨_, v_field rfl (k.fx 2 h8) (fun w => rfl), rfl⟩) ?_
  refine .o1 (tg rfl rfl rfl (fun _ _ k => k.eq1 5 10 rfl) fun _ w hn k => ⟨_, v_load rfl (k.eq1 6 11 rfl) (l_one Try.isAgg24 ((hb11.new_ hn).cell 1)), rfl⟩) ?_
  refine .o1 (tg rfl rfl rfl (fun _ _ k => k.eq1 5 10 rfl) fun _ w hn k => ⟨_, v_field rfl (k.fx 3 h12) (fun w => rfl), rfl⟩) ?_
  refine .o1 (tg rfl rfl rfl (fun _ _ k => k.eq1 5 10 rfl) fun _ w hn k => ⟨_, v_load rfl (k.eq1 8 13 rfl) (l_one Try.isAgg24 ((hb15.new_ hn).cell 1)), rfl⟩) ?_
  refine .o1 (cg rfl rfl rfl (fun _ _ k => k.eq1 5 10 rfl) rfl (fun _ w hn k => ⟨#[sv Aa ma ca, sv Ab mb cb], args2 (k.eq1 7 12 rfl) (k.eq1 9 14 rfl), fun _ => by kernel_rfl, rlist32_c _ ma _ _ mb _ _ (hra.new_ (hN18.transNew hn)) (hrb.new_ (hN18.transNew hn))⟩) fun _ => rfl) ?_
  refine .o1 (tk rfl rfl fun _ w hn k => ⟨_, v_pickT rfl (k.eq1 5 10 rfl) (k.eq1 10 15 rfl), rfl⟩) ?_
  refine .o1 (tk rfl rfl fun _ w hn k => ⟨_, v_assign rfl (k.eq1 11 16 rfl), rfl⟩) ?_
  exact .nil
  intro a22 w23 hn24 ha25
  obtain ⟨hs26, hd27, hN29⟩ := aft ha25 hs6 hd7 hN18 hn24
  have h28 := ha25.ge 12 4 rfl
  refine st_nil (hK19 _ _ ?_)
  refine wp_ret (ret_k hd27 (v := .bool (decide (ma = mb))) (res_t rfl h28 _) ?_)
  refine ⟨?_, hN29⟩
  show Ending.returned (.bool (decide (ma = mb))) = Ending.returned (.bool (decide (a = b) && decide (ma = mb)))
  first | rfl | (simp only [ht20, ht21, bsm] <;> rfl) | (simp [ht20, ht21]; done) | (exfalso; omega)
  refine wp_g0 [true, true, true, true, true, true, true, true, true, true, true, true, true] [] 17
    [ve (pv q9),
     ve (.bool true),
     ve (pv q13),
     ve (.bool false),
     ve (.bool false),
     ve (.bool false),
     ve undef,
     ve undef,
     ve undef,
     ve undef,
     ve undef,
     ve (.bool false),
     ve (.bool false)] hs6 (.eq (.eq (.eq (.eq (.eq (.eq (.eq (.eq (.eq (.eq (.eq (.eq (.eq (.nil)))))))))))))) ?_ ?_
  refine .o1 (tk rfl rfl fun _ w hn k => ⟨_, v_field rfl (k.fx 2 h8) (fun w => rfl), rfl⟩) ?_
  refine .o1 (tk rfl rfl fun _ w hn k => ⟨_, v_load rfl (k.eq1 0 5 rfl) (l_one Try.isAgg4 ((hb11.new_ hn).cell 0)), congrArg Value.bool ht20⟩) ?_
  refine .o1 (tk rfl rfl fun _ w hn k => ⟨_, v_field rfl (k.fx 3 h12) (fun w => rfl), rfl⟩) ?_
  refine .o1 (tk rfl rfl fun _ w hn k => ⟨_, v_load rfl (k.eq1 2 7 rfl) (l_one Try.isAgg4 ((hb15.new_ hn).cell 0)), congrArg Value.bool ht21⟩) ?_
  refine .o1 (tk rfl rfl fun _ w hn k => ⟨_, v_bin rfl (k.eq1 1 6 rfl) (k.eq1 3 8 rfl) (fun _ => rfl) (fun w => by kernel_rfl), rfl⟩) ?_
  refine .o1 (tk rfl rfl fun _ w hn k => ⟨_, v_move rfl (k.eq1 4 9 rfl), rfl⟩) ?_
  refine .o1 (sk rfl rfl rfl (fun _ _ _ k => k.eq1 5 10 rfl) (fun _ => rfl)) ?_
  refine .o1 (sk rfl rfl rfl (fun _ _ _ k => k.eq1 5 10 rfl) (fun _ => rfl)) ?_
  refine .o1 (sk rfl rfl rfl (fun _ _ _ k => k.eq1 5 10 rfl) (fun _ => rfl)) ?_
  refine .o1 (sk rfl rfl rfl (fun _ _ _ k => k.eq1 5 10 rfl) (fun _ => rfl)) ?_
  refine .o1 (sk rfl rfl rfl (fun _ _ _ k => k.eq1 5 10 rfl) (fun _ => rfl)) ?_
  refine .o1 (tk rfl rfl fun _ w hn k => ⟨_, v_pickF rfl (k.eq1 5 10 rfl) rfl, rfl⟩) ?_
  refine .o1 (tk rfl rfl fun _ w hn k => ⟨_, v_assign rfl (k.eq1 11 16 rfl), rfl⟩) ?_
  exact .nil
  intro a30 w31 hn32 ha33
  obtain ⟨hs34, hd35, hN37⟩ := aft ha33 hs6 hd7 hN18 hn32
  have h36 := ha33.ge 12 4 rfl
  refine st_nil (hK19 _ _ ?_)
  refine wp_ret (ret_k hd35 (v := .bool false) (res_t rfl h36 _) ?_)
  refine ⟨?_, hN37⟩
  show Ending.returned (.bool false) = Ending.returned (.bool (decide (a = b) && decide (ma = mb)))
  first | rfl | (simp only [ht20, ht21, bsm] <;> rfl) | (simp [ht20, ht21]; done) | (exfalso; omega)
  rcases Bool.eq_false_or_eq_true (b) with ht38 | ht38
  refine wp_g0 [true, true, true, true, true, true, true, true, true, true, true, true, true] [] 17
    [ve (pv q9),
     ve (.bool false),
     ve (pv q13),
     ve (.bool true),
     ve (.bool false),
     ve (.bool false),
     ve undef,
     ve undef,
     ve undef,
     ve undef,
     ve undef,
     ve (.bool false),
     ve (.bool false)] hs6 (.eq (.eq (.eq (.eq (.eq (.eq (.eq (.eq (.eq (.eq (.eq (.eq (.eq (.nil)))))))))))))) ?_ ?_
  refine .o1 (tk rfl rfl fun _ w hn k => ⟨_, v_field rfl (k.fx 2 h8) (fun w => rfl), rfl⟩) ?_
  refine .o1 (tk rfl rfl fun _ w hn k => ⟨_, v_load rfl (k.eq1 0 5 rfl) (l_one Try.isAgg4 ((hb11.new_ hn).cell 0)), congrArg Value.bool ht20⟩) ?_
  refine .o1 (tk rfl rfl fun _ w hn k => ⟨_, v_field rfl (k.fx 3 h12) (fun w => rfl), rfl⟩) ?_
  refine .o1 (tk rfl rfl fun _ w hn k => ⟨_, v_load rfl (k.eq1 2 7 rfl) (l_one Try.isAgg4 ((hb15.new_ hn).cell 0)), congrArg Value.bool ht38⟩) ?_
  refine .o1 (tk rfl rfl fun _ w hn k => ⟨_, v_bin rfl (k.eq1 1 6 rfl) (k.eq1 3 8 rfl) (fun _ => rfl) (fun w => by kernel_rfl), rfl⟩) ?_
  refine .o1 (tk rfl rfl fun _ w hn k => ⟨_, v_move rfl (k.eq1 4 9 rfl), rfl⟩) ?_
  refine .o1 (sk rfl rfl rfl (fun _ _ _ k => k.eq1 5 10 rfl) (fun _ => rfl)) ?_
  refine .o1 (sk rfl rfl rfl (fun _ _ _ k => k.eq1 5 10 rfl) (fun _ => rfl)) ?_
  refine .o1 (sk rfl rfl rfl (fun _ _ _ k => k.eq1 5 10 rfl) (fun _ => rfl)) ?_
  refine .o1 (sk rfl rfl rfl (fun _ _ _ k => k.eq1 5 10 rfl) (fun _ => rfl)) ?_
  refine .o1 (sk rfl rfl rfl (fun _ _ _ k => k.eq1 5 10 rfl) (fun _ => rfl)) ?_
  refine .o1 (tk rfl rfl fun _ w hn k => ⟨_, v_pickF rfl (k.eq1 5 10 rfl) rfl, rfl⟩) ?_
  refine .o1 (tk rfl rfl fun _ w hn k => ⟨_, v_assign rfl (k.eq1 11 16 rfl), rfl⟩) ?_
  exact .nil
  intro a39 w40 hn41 ha42
  obtain ⟨hs43, hd44, hN46⟩ := aft ha42 hs6 hd7 hN18 hn41
  have h45 := ha42.ge 12 4 rfl
  refine st_nil (hK19 _ _ ?_)
  refine wp_ret (ret_k hd44 (v := .bool false) (res_t rfl h45 _) ?_)
  refine ⟨?_, hN46⟩
  show Ending.returned (.bool false) = Ending.returned (.bool (decide (a = b) && decide (ma = mb)))
  first | rfl | (simp only [ht20, ht38, bsm] <;> rfl) | (simp [ht20, ht38]; done) | (exfalso; omega)
  refine wp_g0 [true, true, true, true, true, true, true, true, true, true, true, true, true] [] 17
    [ve (pv q9),
     ve (.bool false),
     ve (pv q13),
     ve (.bool false),
     ve (.bool true),
     ve (.bool true),
     ve (.pointer (some ⟨q9, 1, none⟩)),
     ve (sv Aa ma ca),
     ve (.pointer (some ⟨q13, 1, none⟩)),
     ve (sv Ab mb cb),
     ve (.bool (decide (ma = mb))),
     ve (.bool (decide (ma = mb))),
     ve (.bool (decide (ma = mb)))] hs6 (.eq (.eq (.eq (.eq (.eq (.eq (.eq (.eq (.eq (.eq (.eq (.eq (.eq (.nil)))))))))))))) ?_ ?_
  refine .o1 (tk rfl rfl fun _ w hn k => ⟨_, v_field rfl (k.fx 2 h8) (fun w => rfl), rfl⟩) ?_
  refine .o1 (tk rfl rfl fun _ w hn k => ⟨_, v_load rfl (k.eq1 0 5 rfl) (l_one Try.isAgg4 ((hb11.new_ hn).cell 0)), congrArg Value.bool ht20⟩) ?_
  refine .o1 (tk rfl rfl fun _ w hn k => ⟨_, v_field rfl (k.fx 3 h12) (fun w => rfl), rfl⟩) ?_
  refine .o1 (tk rfl rfl fun _ w hn k => ⟨_, v_load rfl (k.eq1 2 7 rfl) (l_one Try.isAgg4 ((hb15.new_ hn).cell 0)), congrArg Value.bool ht38⟩) ?_
  refine .o1 (tk rfl rfl fun _ w hn k => ⟨_, v_bin rfl (k.eq1 1 6 rfl) (k.eq1 3 8 rfl) (fun _ => rfl) (fun w => by kernel_rfl), rfl⟩) ?_
  refine .o1 (tk rfl rfl fun _ w hn k => ⟨_, v_move rfl (k.eq1 4 9 rfl), rfl⟩) ?_
  refine .o1 (tg rfl rfl rfl (fun _ _ k => k.eq1 5 10 rfl) fun _ w hn k => ⟨_, v_field rfl (k.fx 2 h8) (fun w => rfl), rfl⟩) ?_
  refine .o1 (tg rfl rfl rfl (fun _ _ k => k.eq1 5 10 rfl) fun _ w hn k => ⟨_, v_load rfl (k.eq1 6 11 rfl) (l_one Try.isAgg24 ((hb11.new_ hn).cell 1)), rfl⟩) ?_
  refine .o1 (tg rfl rfl rfl (fun _ _ k => k.eq1 5 10 rfl) fun _ w hn k => ⟨_, v_field rfl (k.fx 3 h12) (fun w => rfl), rfl⟩) ?_
  refine .o1 (tg rfl rfl rfl (fun _ _ k => k.eq1 5 10 rfl) fun _ w hn k => ⟨_, v_load rfl (k.eq1 8 13 rfl) (l_one Try.isAgg24 ((hb15.new_ hn).cell 1)), rfl⟩) ?_
  refine .o1 (cg rfl rfl rfl (fun _ _ k => k.eq1 5 10 rfl) rfl (fun _ w hn k => ⟨#[sv Aa ma ca, sv Ab mb cb], args2 (k.eq1 7 12 rfl) (k.eq1 9 14 rfl), fun _ => by kernel_rfl, rlist32_c _ ma _ _ mb _ _ (hra.new_ (hN18.transNew hn)) (hrb.new_ (hN18.transNew hn))⟩) fun _ => rfl) ?_
  refine .o1 (tk rfl rfl fun _ w hn k => ⟨_, v_pickT rfl (k.eq1 5 10 rfl) (k.eq1 10 15 rfl), rfl⟩) ?_
  refine .o1 (tk rfl rfl fun _ w hn k => ⟨_, v_assign rfl (k.eq1 11 16 rfl), rfl⟩) ?_
  exact .nil
  intro a47 w48 hn49 ha50
  obtain ⟨hs51, hd52, hN54⟩ := aft ha50 hs6 hd7 hN18 hn49
  have h53 := ha50.ge 12 4 rfl
  refine st_nil (hK19 _ _ ?_)
  refine wp_ret (ret_k hd52 (v := .bool (decide (ma = mb))) (res_t rfl h53 _) ?_)
  refine ⟨?_, hN54⟩
  show Ending.returned (.bool (decide (ma = mb))) = Ending.returned (.bool (decide (a = b) && decide (ma = mb)))
  first | rfl | (simp only [ht20, ht38, bsm] <;> rfl) | (simp [ht20, ht38]; done) | (exfalso; omega)
def cunits_c_P (Au : Option Addr) (u : List Nat) (cu : Nat) (w : World) (en : Ending) (w' : World) : Prop := ∃ (Ar0 : Option Addr) (cr0 : Nat), en = .returned (sv Ar0 u cr0) ∧ SOwn w' w.heap.size 66 .u16 Ar0 u cr0 ∧ New w w'
set_option maxHeartbeats 4000000 in
set_option maxRecDepth 100000 in
theorem cunits_c (Au : Option Addr) (u : List Nat) (cu : Nat) (w : World) (hru : SRow w .u16 Au u cu) (hs : u.length ≤ 1000000) : Calls Try.prog 41 #[sv Au u cu] w (cunits_c_P Au u cu w) := by
  refine enter_abs Try.func41 rfl fun a0 hs0 hd0 hp => ?_
  have hs0 : a0.tmps.size = 6 := hs0
  have hN0 : New w w := Upd.refl _ _
  have hp0 : a0.eval (.tmp 0) = sv Au u cu := hp 0 _ rfl
  refine wp_seq_k fun K1 hK1 => ?_
  refine wp_g0 [true] [] 6
    [ve (sv none ([]) 0)] hs0 (.eq (.nil)) ?_ ?_
  refine .o1 (tk rfl rfl fun _ w hn k => ⟨_, v_assign rfl rfl, rfl⟩) ?_
  exact .nil
  intro a2 w3 hn4 ha5
  obtain ⟨hs6, hd7, hN9⟩ := aft ha5 hs0 hd0 hN0 hn4
  have h8 := ha5.fx 0 hp0
  refine st_nil (hK1 _ _ ?_)
  refine wp_seq_k fun K10 hK10 => ?_
  refine wp_g0 [true, true, false, false] [(2, false), (3, true)] 6
    [(fun (v_ : Value) (W : World) => ∃ (A3 : Option Addr) (c4 : Nat), v_ = sv A3 ([]) c4 ∧ SOwn W w3.heap.size 66 .u16 A3 ([]) c4),
     ve (sv Au u cu),
     vt,
     vt] hs6 (.cons (fun v W W' hn ⟨A3, c4, he, h0⟩ => ⟨A3, c4, he, h0.new_ hn⟩) (.eq (.tt (.tt (.nil))))) ?_ ?_
  refine .o1 (tkA rfl (noG rfl) fun _ w hn k => (by
        exact x_bslice0 .u16 rfl parts0 elU fun A1 c2 W' hmo => ⟨A1, c2, rfl, (hmo.more hn.size)⟩)) ?_
  refine .o1 (tk rfl rfl fun _ w hn k => ⟨_, v_move rfl (k.fx 0 h8), rfl⟩) ?_
  refine .off ?_
  refine .off ?_
  exact .nil
  intro a11 w12 hn13 ha14
  obtain ⟨hs15, hd16, hN23⟩ := aft ha14 hs6 hd7 hN9 hn13
  obtain ⟨A18, cc19, h17, hr20⟩ : (fun (v_ : Value) (W : World) => ∃ (A3 : Option Addr) (c4 : Nat), v_ = sv A3 ([]) c4 ∧ SOwn W w3.heap.size 66 .u16 A3 ([]) c4) _ _ := ha14.got 0 3 rfl (by kernel_rfl)
  have h17 : a11.eval (.tmp 3) = sv A18 ([]) cc19 := h17
  have h21 := ha14.ge 1 4 rfl
  have hr22 := hr20.more hN9.size
  have hw32 := hN23.size
  refine st_act rfl rfl fun K30 hL31 => a_append (k := .u16) (b := w.heap.size) rfl elU h17 hr22 h21 (hru.new_ hN23) (by first | omega | (simp only [List.length_nil, List.length_cons, List.length_append, List.length_take, List.length_drop, List.length_replicate, List.length_set]; omega)) (by first | omega | (simp only [List.length_nil, List.length_cons, List.length_append, List.length_take, List.length_drop, List.length_replicate, List.length_set]; omega)) hw32 fun A24 cc25 w26 hr27 hg28 => hL31 _ _ trivial ?_
  have hN29 := hN23.ownGrown hr22 hg28
  obtain ⟨a33, ha34⟩ : ∃ a', a' = a11.put (some 5) (sv A24 ([] ++ u) cc25) := ⟨_, rfl⟩
  have hs35 : a33.tmps.size = 6 := by rw [ha34, put_size]; exact hs15
  have hd36 : a33.defers = [] := by rw [ha34, put_defers]; exact hd16
  have h37 := pn ha34 h21 (by decide)
  have h38 : a33.eval (.tmp 5) = sv A24 ([] ++ u) cc25 := by rw [ha34]; exact put_same _ _ _ (by rw [hs15]; decide)
  show stepsTo _ _ _ _ _ (a11.put (some 5) (sv A24 ([] ++ u) cc25)) _
  rw [← ha34]
  refine st_take rfl rfl (y_assign (v := sv A24 ([] ++ u) cc25) rfl h38) rfl ?_
  obtain ⟨a39, ha40⟩ : ∃ a', a' = a33.put (some 2) (sv A24 ([] ++ u) cc25) := ⟨_, rfl⟩
  have hs41 : a39.tmps.size = 6 := by rw [ha40, put_size]; exact hs35
  have hd42 : a39.defers = [] := by rw [ha40, put_defers]; exact hd36
  have h43 := pn ha40 h37 (by decide)
  have h44 := pn ha40 h38 (by decide)
  have h45 : a39.eval (.tmp 2) = sv A24 ([] ++ u) cc25 := by rw [ha40]; exact put_same _ _ _ (by rw [hs35]; decide)
  show stepsTo _ _ _ _ _ (a33.put (some 2) (sv A24 ([] ++ u) cc25)) _
  rw [← ha40]
  refine st_nil (hK10 _ _ ?_)
  refine wp_ret (ret_k hd42 (v := sv A24 ([] ++ u) cc25) (res_t rfl h45 _) ?_)
  have hsp : ([] ++ u) = u := by simp
  exact ⟨A24, cc25, congrArg (fun l => Ending.returned (sv A24 l cc25)) hsp, Eq.mp (congrArg (fun l => SOwn _ _ _ _ A24 l cc25) hsp) hr27, hN29⟩
set_option maxHeartbeats 8000000 in
set_option maxRecDepth 100000 in
theorem qsame_c (v : Vl) (Av : Option Addr) (cv : Nat) (Bv : Option Addr) (dv : Nat) (u : Vl) (Au : Option Addr) (cu : Nat) (Bu : Option Addr) (du : Nat) (w : World) (hmv : SRow w .u32 Av v.mag cv) (hsv : SRow w .u16 Bv v.s dv) (hmu : SRow w .u32 Au u.mag cu) (hsu : SRow w .u16 Bu u.s du) : Calls Try.prog 37 #[vv v Av cv Bv dv, vv u Au cu Bu du] w (IsRet (.bool (sameV v u)) w) := by
  refine enter_abs Try.func37 rfl fun a0 hs0 hd0 hp => ?_
  have hs0 : a0.tmps.size = 38 := hs0
  have hN0 : New w w := Upd.refl _ _
  have hp0 : a0.eval (.tmp 0) = vv v Av cv Bv dv := hp 0 _ rfl
  have hp1 : a0.eval (.tmp 1) = vv u Au cu Bu du := hp 1 _ rfl
  refine wp_seq_k fun K1 hK1 => ?_
  refine wp_g [true, true, true] [] [] 38
    [IsNew w 32 [iv v.k, iv v.nk, iv v.nn, .bool v.neg, sv Av v.mag cv, sv Bv v.s dv, iv v.ref],
     IsNew w 32 [iv u.k, iv u.nk, iv u.nn, .bool u.neg, sv Au u.mag cu, sv Bu u.s du, iv u.ref],
     ve (.bool false)]
    [0, 1] (newsCons (fun v w h => IsNew.old h) (newsCons (fun v w h => IsNew.old h) newsNil)) hs0 (.nw (.nw (.eq (.nil)))) ?_ (fun i h => by cases h) ?_
  refine .o2 (step_allocN (cs := [iv v.k, iv v.nk, iv v.nn, .bool v.neg, sv Av v.mag cv, sv Bv v.s dv, iv v.ref]) (t := 32) rfl (noG rfl) (fun _ w hn k => v_box rfl (k.fx 0 hp0) (fun w => rfl)) (fun q _ hq hb => ⟨q, rfl, hq, hb⟩)) ?_
  refine .o2 (step_allocN (cs := [iv u.k, iv u.nk, iv u.nn, .bool u.neg, sv Au u.mag cu, sv Bu u.s du, iv u.ref]) (t := 32) rfl (noG rfl) (fun _ w hn k => v_box rfl (k.fx 1 hp1) (fun w => rfl)) (fun q _ hq hb => ⟨q, rfl, hq, hb⟩)) ?_
  refine .o1 (tk rfl rfl fun _ w hn k => ⟨_, v_assign rfl rfl, rfl⟩) ?_
  exact .nil
  intro a2 w3 hn4 ha5
  obtain ⟨hs6, hd7, hN18⟩ := aft ha5 hs0 hd0 hN0 hn4
  obtain ⟨q9, h8, hq10, hb11⟩ : IsNew _ _ _ _ _ := ha5.got 0 2 rfl (by kernel_rfl)
  obtain ⟨q13, h12, hq14, hb15⟩ : IsNew _ _ _ _ _ := ha5.got 1 3 rfl (by kernel_rfl)
  have hq16 := Nat.le_trans hN0.size hq10
  have hq17 := Nat.le_trans hN0.size hq14
  refine st_nil (hK1 _ _ ?_)
  refine wp_seq_k fun K19 hK19 => ?_
  rcases Bool.eq_false_or_eq_true (decide (v.k = u.k)) with ht20 | ht20
  have ht20d := of_decide_eq_true ht20
  rcases Bool.eq_false_or_eq_true ((decide ((Nm.mk v.nk v.nn).k = (Nm.mk u.nk u.nn).k) && decide ((Nm.mk v.nk v.nn).n = (Nm.mk u.nk u.nn).n))) with ht21 | ht21
  rcases Bool.eq_false_or_eq_true ((decide (v.neg = u.neg) && decide (v.mag = u.mag))) with ht22 | ht22
  rcases Bool.eq_false_or_eq_true (decide (v.s = u.s)) with ht23 | ht23
  have ht23d := of_decide_eq_true ht23
  refine wp_g0 [true, true, true, true, true, true, true, true, true, true, true, true, true, true, true, true, true, true, true, true, true, true, true, true, true, true, true, true, true, true, true, true, true, true] [] 38
    [ve (pv q9),
     ve (iv v.k),
     ve (pv q13),
     ve (iv u.k),
     ve (.bool true),
     ve (.bool true),
     ve (.pointer (some ⟨q9, 1, none⟩)),
     ve (nv (Nm.mk v.nk v.nn)),
     ve (.pointer (some ⟨q13, 1, none⟩)),
     ve (nv (Nm.mk u.nk u.nn)),
     ve (.bool true),
     ve (.bool true),
     ve (.bool true),
     ve (.pointer (some ⟨q9, 3, none⟩)),
     ve (.agg #[.bool v.neg, sv Av v.mag cv]),
     ve (.pointer (some ⟨q13, 3, none⟩)),
     ve (.agg #[.bool u.neg, sv Au u.mag cu]),
     ve (.bool true),
     ve (.bool true),
     ve (.bool true),
     ve (.pointer (some ⟨q9, 5, none⟩)),
     ve (sv Bv v.s dv),
     ve (.pointer (some ⟨q13, 5, none⟩)),
     ve (sv Bu u.s du),
     ve (.bool true),
     ve (.bool true),
     ve (.bool true),
     ve (.pointer (some ⟨q9, 6, none⟩)),
     ve (iv v.ref),
     ve (.pointer (some ⟨q13, 6, none⟩)),
     ve (iv u.ref),
     ve (.bool (decide (v.ref = u.ref))),
     ve (.bool (decide (v.ref = u.ref))),
     ve (.bool (decide (v.ref = u.ref)))] hs6 (.eq (.eq (.eq (.eq (.eq (.eq (.eq (.eq (.eq (.eq (.eq (.eq (.eq (.eq (.eq (.eq (.eq (.eq (.eq (.eq (.eq (.eq (.eq (.eq (.eq (.eq (.eq (.eq (.eq (.eq (.eq (.eq (.eq (.eq (.nil))))))))))))))))))))))))))))))))))) ?_ ?_
  refine .o1 (tk rfl rfl fun _ w hn k => ⟨_, v_field rfl (k.fx 2 h8) (fun w => rfl), rfl⟩) ?_
  refine .o1 (tk rfl rfl fun _ w hn k => ⟨_, v_load rfl (k.eq1 0 5 rfl) (l_one Try.isAgg3 ((hb11.new_ hn).cell 0)), rfl⟩) ?_
  refine .o1 (tk rfl rfl fun _ w hn k => ⟨_, v_field rfl (k.fx 3 h12) (fun w => rfl), rfl⟩) ?_
  refine .o1 (tk rfl rfl fun _ w hn k => ⟨_, v_load rfl (k.eq1 2 7 rfl) (l_one Try.isAgg3 ((hb15.new_ hn).cell 0)), rfl⟩) ?_
  refine .o1 (tk rfl rfl fun _ w hn k => ⟨_, v_bin rfl (k.eq1 1 6 rfl) (k.eq1 3 8 rfl) (fun _ => rfl) (r_eql ht20), rfl⟩) ?_
  refine .o1 (tk rfl rfl fun _ w hn k => ⟨_, v_move rfl (k.eq1 4 9 rfl), rfl⟩) ?_
  refine .o1 (tg rfl rfl rfl (fun _ _ k => k.eq1 5 10 rfl) fun _ w hn k => ⟨_, v_field rfl (k.fx 2 h8) (fun w => rfl), rfl⟩) ?_
  refine .o1 (tg rfl rfl rfl (fun _ _ k => k.eq1 5 10 rfl) fun _ w hn k => ⟨_, v_load rfl (k.eq1 6 11 rfl) (l_part Try.isAgg23 Try.sizeOf23 (hb11.new_ hn) (Nat.le_of_ble_eq_true rfl)), rfl⟩) ?_
  refine .o1 (tg rfl rfl rfl (fun _ _ k => k.eq1 5 10 rfl) fun _ w hn k => ⟨_, v_field rfl (k.fx 3 h12) (fun w => rfl), rfl⟩) ?_
  refine .o1 (tg rfl rfl rfl (fun _ _ k => k.eq1 5 10 rfl) fun _ w hn k => ⟨_, v_load rfl (k.eq1 8 13 rfl) (l_part Try.isAgg23 Try.sizeOf23 (hb15.new_ hn) (Nat.le_of_ble_eq_true rfl)), rfl⟩) ?_
  refine .o1 (cg rfl rfl rfl (fun _ _ k => k.eq1 5 10 rfl) rfl (fun _ w hn k => ⟨#[nv (Nm.mk v.nk v.nn), nv (Nm.mk u.nk u.nn)], args2 (k.eq1 7 12 rfl) (k.eq1 9 14 rfl), fun _ => by kernel_rfl, rnum_c (Nm.mk v.nk v.nn) (Nm.mk u.nk u.nn) _ ⟩) fun _ => congrArg Value.bool ht21) ?_
  refine .o1 (tk rfl rfl fun _ w hn k => ⟨_, v_pickT rfl (k.eq1 5 10 rfl) (k.eq1 10 15 rfl), rfl⟩) ?_
  refine .o1 (tk rfl rfl fun _ w hn k => ⟨_, v_move rfl (k.eq1 11 16 rfl), rfl⟩) ?_
  refine .o1 (tg rfl rfl rfl (fun _ _ k => k.eq1 12 17 rfl) fun _ w hn k => ⟨_, v_field rfl (k.fx 2 h8) (fun w => rfl), rfl⟩) ?_
  refine .o1 (tg rfl rfl rfl (fun _ _ k => k.eq1 12 17 rfl) fun _ w hn k => ⟨_, v_load rfl (k.eq1 13 18 rfl) (l_part Try.isAgg26 Try.sizeOf26 (hb11.new_ hn) (Nat.le_of_ble_eq_true rfl)), rfl⟩) ?_
  refine .o1 (tg rfl rfl rfl (fun _ _ k => k.eq1 12 17 rfl) fun _ w hn k => ⟨_, v_field rfl (k.fx 3 h12) (fun w => rfl), rfl⟩) ?_
  refine .o1 (tg rfl rfl rfl (fun _ _ k => k.eq1 12 17 rfl) fun _ w hn k => ⟨_, v_load rfl (k.eq1 15 20 rfl) (l_part Try.isAgg26 Try.sizeOf26 (hb15.new_ hn) (Nat.le_of_ble_eq_true rfl)), rfl⟩) ?_
  refine .o1 (cg rfl rfl rfl (fun _ _ k => k.eq1 12 17 rfl) rfl (fun _ w hn k => ⟨#[.agg #[.bool v.neg, sv Av v.mag cv], .agg #[.bool u.neg, sv Au u.mag cu]], args2 (k.eq1 14 19 rfl) (k.eq1 16 21 rfl), fun _ => by kernel_rfl, rbig_c v.neg _ v.mag _ u.neg _ u.mag _ _ (hmv.new_ (hN18.transNew hn)) (hmu.new_ (hN18.transNew hn))⟩) fun _ => congrArg Value.bool ht22) ?_
  refine .o1 (tk rfl rfl fun _ w hn k => ⟨_, v_pickT rfl (k.eq1 12 17 rfl) (k.eq1 17 22 rfl), rfl⟩) ?_
  refine .o1 (tk rfl rfl fun _ w hn k => ⟨_, v_move rfl (k.eq1 18 23 rfl), rfl⟩) ?_
  refine .o1 (tg rfl rfl rfl (fun _ _ k => k.eq1 19 24 rfl) fun _ w hn k => ⟨_, v_field rfl (k.fx 2 h8) (fun w => rfl), rfl⟩) ?_
  refine .o1 (tg rfl rfl rfl (fun _ _ k => k.eq1 19 24 rfl) fun _ w hn k => ⟨_, v_load rfl (k.eq1 20 25 rfl) (l_one Try.isAgg27 ((hb11.new_ hn).cell 5)), rfl⟩) ?_
  refine .o1 (tg rfl rfl rfl (fun _ _ k => k.eq1 19 24 rfl) fun _ w hn k => ⟨_, v_field rfl (k.fx 3 h12) (fun w => rfl), rfl⟩) ?_
  refine .o1 (tg rfl rfl rfl (fun _ _ k => k.eq1 19 24 rfl) fun _ w hn k => ⟨_, v_load rfl (k.eq1 22 27 rfl) (l_one Try.isAgg27 ((hb15.new_ hn).cell 5)), rfl⟩) ?_
  refine .o1 (cg rfl rfl rfl (fun _ _ k => k.eq1 19 24 rfl) rfl (fun _ w hn k => ⟨#[sv Bv v.s dv, sv Bu u.s du], args2 (k.eq1 21 26 rfl) (k.eq1 23 28 rfl), fun _ => by kernel_rfl, rlist16_c _ v.s _ _ u.s _ _ (hsv.new_ (hN18.transNew hn)) (hsu.new_ (hN18.transNew hn))⟩) fun _ => congrArg Value.bool ht23) ?_
  refine .o1 (tk rfl rfl fun _ w hn k => ⟨_, v_pickT rfl (k.eq1 19 24 rfl) (k.eq1 24 29 rfl), rfl⟩) ?_
  refine .o1 (tk rfl rfl fun _ w hn k => ⟨_, v_move rfl (k.eq1 25 30 rfl), rfl⟩) ?_
  refine .o1 (tg rfl rfl rfl (fun _ _ k => k.eq1 26 31 rfl) fun _ w hn k => ⟨_, v_field rfl (k.fx 2 h8) (fun w => rfl), rfl⟩) ?_
  refine .o1 (tg rfl rfl rfl (fun _ _ k => k.eq1 26 31 rfl) fun _ w hn k => ⟨_, v_load rfl (k.eq1 27 32 rfl) (l_one Try.isAgg3 ((hb11.new_ hn).cell 6)), rfl⟩) ?_
  refine .o1 (tg rfl rfl rfl (fun _ _ k => k.eq1 26 31 rfl) fun _ w hn k => ⟨_, v_field rfl (k.fx 3 h12) (fun w => rfl), rfl⟩) ?_
  refine .o1 (tg rfl rfl rfl (fun _ _ k => k.eq1 26 31 rfl) fun _ w hn k => ⟨_, v_load rfl (k.eq1 29 34 rfl) (l_one Try.isAgg3 ((hb15.new_ hn).cell 6)), rfl⟩) ?_
  refine .o1 (tg rfl rfl rfl (fun _ _ k => k.eq1 26 31 rfl) fun _ w hn k => ⟨_, v_bin rfl (k.eq1 28 33 rfl) (k.eq1 30 35 rfl) (fun _ => rfl) (r_eql rfl), rfl⟩) ?_
  refine .o1 (tk rfl rfl fun _ w hn k => ⟨_, v_pickT rfl (k.eq1 26 31 rfl) (k.eq1 31 36 rfl), rfl⟩) ?_
  refine .o1 (tk rfl rfl fun _ w hn k => ⟨_, v_assign rfl (k.eq1 32 37 rfl), rfl⟩) ?_
  exact .nil
  intro a24 w25 hn26 ha27
  obtain ⟨hs28, hd29, hN31⟩ := aft ha27 hs6 hd7 hN18 hn26
  have h30 := ha27.ge 33 4 rfl
  refine st_nil (hK19 _ _ ?_)
  refine wp_ret (ret_k hd29 (v := .bool (decide (v.ref = u.ref))) (res_t rfl h30 _) ?_)
  refine ⟨?_, hN31⟩
  show Ending.returned (.bool (decide (v.ref = u.ref))) = Ending.returned (.bool (sameV v u))
  first | rfl | (simp only [sameV, ht20, ht21, ht22, ht23, bsm] <;> rfl) | (simp [sameV, ht20, ht21, ht22, ht23]; done) | (exfalso; omega)
  have ht23d := of_decide_eq_false ht23
  refine wp_g0 [true, true, true, true, true, true, true, true, true, true, true, true, true, true, true, true, true, true, true, true, true, true, true, true, true, true, true, true, true, true, true, true, true, true] [] 38
    [ve (pv q9),
     ve (iv v.k),
     ve (pv q13),
     ve (iv u.k),
     ve (.bool true),
     ve (.bool true),
     ve (.pointer (some ⟨q9, 1, none⟩)),
     ve (nv (Nm.mk v.nk v.nn)),
     ve (.pointer (some ⟨q13, 1, none⟩)),
     ve (nv (Nm.mk u.nk u.nn)),
     ve (.bool true),
     ve (.bool true),
     ve (.bool true),
     ve (.pointer (some ⟨q9, 3, none⟩)),
     ve (.agg #[.bool v.neg, sv Av v.mag cv]),
     ve (.pointer (some ⟨q13, 3, none⟩)),
     ve (.agg #[.bool u.neg, sv Au u.mag cu]),
     ve (.bool true),
     ve (.bool true),
     ve (.bool true),
     ve (.pointer (some ⟨q9, 5, none⟩)),
     ve (sv Bv v.s dv),
     ve (.pointer (some ⟨q13, 5, none⟩)),
     ve (sv Bu u.s du),
     ve (.bool false),
     ve (.bool false),
     ve (.bool false),
     ve undef,
     ve undef,
     ve undef,
     ve undef,
     ve undef,
     ve (.bool false),
     ve (.bool false)] hs6 (.eq (.eq (.eq (.eq (.eq (.eq (.eq (.eq (.eq (.eq (.eq (.eq (.eq (.eq (.eq (.eq (.eq (.eq (.eq (.eq (.eq (.eq (.eq (.eq (.eq (.eq (.eq (.eq (.eq (.eq (.eq (.eq (.eq (.eq (.nil))))))))))))))))))))))))))))))))))) ?_ ?_
  refine .o1 (tk rfl rfl fun _ w hn k => ⟨_, v_field rfl (k.fx 2 h8) (fun w => rfl), rfl⟩) ?_
  refine .o1 (tk rfl rfl fun _ w hn k => ⟨_, v_load rfl (k.eq1 0 5 rfl) (l_one Try.isAgg3 ((hb11.new_ hn).cell 0)), rfl⟩) ?_
  refine .o1 (tk rfl rfl fun _ w hn k => ⟨_, v_field rfl (k.fx 3 h12) (fun w => rfl), rfl⟩) ?_
  refine .o1 (tk rfl rfl fun _ w hn k => ⟨_, v_load rfl (k.eq1 2 7 rfl) (l_one Try.isAgg3 ((hb15.new_ hn).cell 0)), rfl⟩) ?_
  refine .o1 (tk rfl rfl fun _ w hn k => ⟨_, v_bin rfl (k.eq1 1 6 rfl) (k.eq1 3 8 rfl) (fun _ => rfl) (r_eql ht20), rfl⟩) ?_
  refine .o1 (tk rfl rfl fun _ w hn k => ⟨_, v_move rfl (k.eq1 4 9 rfl), rfl⟩) ?_
  refine .o1 (tg rfl rfl rfl (fun _ _ k => k.eq1 5 10 rfl) fun _ w hn k => ⟨_, v_field rfl (k.fx 2 h8) (fun w => rfl), rfl⟩) ?_
  refine .o1 (tg rfl rfl rfl (fun _ _ k => k.eq1 5 10 rfl) fun _ w hn k => ⟨_, v_load rfl (k.eq1 6 11 rfl) (l_part Try.isAgg23 Try.sizeOf23 (hb11.new_ hn) (Nat.le_of_ble_eq_true rfl)), rfl⟩) ?_
  refine .o1 (tg rfl rfl rfl (fun _ _ k => k.eq1 5 10 rfl) fun _ w hn k => ⟨_, v_field rfl (k.fx 3 h12) (fun w => rfl), rfl⟩) ?_
  refine .o1 (tg rfl rfl rfl (fun _ _ k => k.eq1 5 10 rfl) fun _ w hn k => ⟨_, v_load rfl (k.eq1 8 13 rfl) (l_part Try.isAgg23 Try.sizeOf23 (hb15.new_ hn) (Nat.le_of_ble_eq_true rfl)), rfl⟩) ?_
  refine .o1 (cg rfl rfl rfl (fun _ _ k => k.eq1 5 10 rfl) rfl (fun _ w hn k => ⟨#[nv (Nm.mk v.nk v.nn), nv (Nm.mk u.nk u.nn)], args2 (k.eq1 7 12 rfl) (k.eq1 9 14 rfl), fun _ => by kernel_rfl, rnum_c (Nm.mk v.nk v.nn) (Nm.mk u.nk u.nn) _ ⟩) fun _ => congrArg Value.bool ht21) ?_
  refine .o1 (tk rfl rfl fun _ w hn k => ⟨_, v_pickT rfl (k.eq1 5 10 rfl) (k.eq1 10 15 rfl), rfl⟩) ?_
  refine .o1 (tk rfl rfl fun _ w hn k => ⟨_, v_move rfl (k.eq1 11 16 rfl), rfl⟩) ?_
  refine .o1 (tg rfl rfl rfl (fun _ _ k => k.eq1 12 17 rfl) fun _ w hn k => ⟨_, v_field rfl (k.fx 2 h8) (fun w => rfl), rfl⟩) ?_
  refine .o1 (tg rfl rfl rfl (fun _ _ k => k.eq1 12 17 rfl) fun _ w hn k => ⟨_, v_load rfl (k.eq1 13 18 rfl) (l_part Try.isAgg26 Try.sizeOf26 (hb11.new_ hn) (Nat.le_of_ble_eq_true rfl)), rfl⟩) ?_
  refine .o1 (tg rfl rfl rfl (fun _ _ k => k.eq1 12 17 rfl) fun _ w hn k => ⟨_, v_field rfl (k.fx 3 h12) (fun w => rfl), rfl⟩) ?_
  refine .o1 (tg rfl rfl rfl (fun _ _ k => k.eq1 12 17 rfl) fun _ w hn k => ⟨_, v_load rfl (k.eq1 15 20 rfl) (l_part Try.isAgg26 Try.sizeOf26 (hb15.new_ hn) (Nat.le_of_ble_eq_true rfl)), rfl⟩) ?_
  refine .o1 (cg rfl rfl rfl (fun _ _ k => k.eq1 12 17 rfl) rfl (fun _ w hn k => ⟨#[.agg #[.bool v.neg, sv Av v.mag cv], .agg #[.bool u.neg, sv Au u.mag cu]], args2 (k.eq1 14 19 rfl) (k.eq1 16 21 rfl), fun _ => by kernel_rfl, rbig_c v.neg _ v.mag _ u.neg _ u.mag _ _ (hmv.new_ (hN18.transNew hn)) (hmu.new_ (hN18.transNew hn))⟩) fun _ => congrArg Value.bool ht22) ?_
  refine .o1 (tk rfl rfl fun _ w hn k => ⟨_, v_pickT rfl (k.eq1 12 17 rfl) (k.eq1 17 22 rfl), rfl⟩) ?_
  refine .o1 (tk rfl rfl fun _ w hn k => ⟨_, v_move rfl (k.eq1 18 23 rfl), rfl⟩) ?_
  refine .o1 (tg rfl rfl rfl (fun _ _ k => k.eq1 19 24 rfl) fun _ w hn k => ⟨_, v_field rfl (k.fx 2 h8) (fun w => rfl), rfl⟩) ?_
  refine .o1 (tg rfl rfl rfl (fun _ _ k => k.eq1 19 24 rfl) fun _ w hn k => ⟨_, v_load rfl (k.eq1 20 25 rfl) (l_one Try.isAgg27 ((hb11.new_ hn).cell 5)), rfl⟩) ?_
  refine .o1 (tg rfl rfl rfl (fun _ _ k => k.eq1 19 24 rfl) fun _ w hn k => ⟨_, v_field rfl (k.fx 3 h12) (fun w => rfl), rfl⟩) ?_
  refine .o1 (tg rfl rfl rfl (fun _ _ k => k.eq1 19 24 rfl) fun _ w hn k => ⟨_, v_load rfl (k.eq1 22 27 rfl) (l_one Try.isAgg27 ((hb15.new_ hn).cell 5)), rfl⟩) ?_
  refine .o1 (cg rfl rfl rfl (fun _ _ k => k.eq1 19 24 rfl) rfl (fun _ w hn k => ⟨#[sv Bv v.s dv, sv Bu u.s du], args2 (k.eq1 21 26 rfl) (k.eq1 23 28 rfl), fun _ => by kernel_rfl, rlist16_c _ v.s _ _ u.s _ _ (hsv.new_ (hN18.transNew hn)) (hsu.new_ (hN18.transNew hn))⟩) fun _ => congrArg Value.bool ht23) ?_
  refine .o1 (tk rfl rfl fun _ w hn k => ⟨_, v_pickT rfl (k.eq1 19 24 rfl) (k.eq1 24 29 rfl), rfl⟩) ?_
  refine .o1 (tk rfl rfl fun _ w hn k => ⟨_, v_move rfl (k.eq1 25 30 rfl), rfl⟩) ?_
  refine .o1 (sk rfl rfl rfl (fun _ _ _ k => k.eq1 26 31 rfl) (fun _ => rfl)) ?_
  refine .o1 (sk rfl rfl rfl (fun _ _ _ k => k.eq1 26 31 rfl) (fun _ => rfl)) ?_
  refine .o1 (sk rfl rfl rfl (fun _ _ _ k => k.eq1 26 31 rfl) (fun _ => rfl)) ?_
  refine .o1 (sk rfl rfl rfl (fun _ _ _ k => k.eq1 26 31 rfl) (fun _ => rfl)) ?_
  refine .o1 (sk rfl rfl rfl (fun _ _ _ k => k.eq1 26 31 rfl) (fun _ => rfl)) ?_
  refine .o1 (tk rfl rfl fun _ w hn k => ⟨_, v_pickF rfl (k.eq1 26 31 rfl) rfl, rfl⟩) ?_
  refine .o1 (tk rfl rfl fun _ w hn k => ⟨_, v_assign rfl (k.eq1 32 37 rfl), rfl⟩) ?_
  exact .nil
  intro a32 w33 hn34 ha35
  obtain ⟨hs36, hd37, hN39⟩ := aft ha35 hs6 hd7 hN18 hn34
  have h38 := ha35.ge 33 4 rfl
  refine st_nil (hK19 _ _ ?_)
  refine wp_ret (ret_k hd37 (v := .bool false) (res_t rfl h38 _) ?_)
  refine ⟨?_, hN39⟩
  show Ending.returned (.bool false) = Ending.returned (.bool (sameV v u))
  first | rfl | (simp only [sameV, ht20, ht21, ht22, ht23, bsm] <;> rfl) | (simp [sameV, ht20, ht21, ht22, ht23]; done) | (exfalso; omega)
  refine wp_g0 [true, true, true, true, true, true, true, true, true, true, true, true, true, true, true, true, true, true, true, true, true, true, true, true, true, true, true, true, true, true, true, true, true, true] [] 38
    [ve (pv q9),
     ve (iv v.k),
     ve (pv q13),
     ve (iv u.k),
     ve (.bool true),
     ve (.bool true),
     ve (.pointer (some ⟨q9, 1, none⟩)),
     ve (nv (Nm.mk v.nk v.nn)),
     ve (.pointer (some ⟨q13, 1, none⟩)),
     ve (nv (Nm.mk u.nk u.nn)),
     ve (.bool true),
     ve (.bool true),
     ve (.bool true),
     ve (.pointer (some ⟨q9, 3, none⟩)),
     ve (.agg #[.bool v.neg, sv Av v.mag cv]),
     ve (.pointer (some ⟨q13, 3, none⟩)),
     ve (.agg #[.bool u.neg, sv Au u.mag cu]),
     ve (.bool false),
     ve (.bool false),
     ve (.bool false),
     ve undef,
     ve undef,
     ve undef,
     ve undef,
     ve undef,
     ve (.bool false),
     ve (.bool false),
     ve undef,
     ve undef,
     ve undef,
     ve undef,
     ve undef,
     ve (.bool false),
     ve (.bool false)] hs6 (.eq (.eq (.eq (.eq (.eq (.eq (.eq (.eq (.eq (.eq (.eq (.eq (.eq (.eq (.eq (.eq (.eq (.eq (.eq (.eq (.eq (.eq (.eq (.eq (.eq (.eq (.eq (.eq (.eq (.eq (.eq (.eq (.eq (.eq (.nil))))))))))))))))))))))))))))))))))) ?_ ?_
  refine .o1 (tk rfl rfl fun _ w hn k => ⟨_, v_field rfl (k.fx 2 h8) (fun w => rfl), rfl⟩) ?_
  refine .o1 (tk rfl rfl fun _ w hn k => ⟨_, v_load rfl (k.eq1 0 5 rfl) (l_one Try.isAgg3 ((hb11.new_ hn).cell 0)), rfl⟩) ?_
  refine .o1 (tk rfl rfl fun _ w hn k => ⟨_, v_field rfl (k.fx 3 h12) (fun w => rfl), rfl⟩) ?_
  refine .o1 (tk rfl rfl fun _ w hn k => ⟨_, v_load rfl (k.eq1 2 7 rfl) (l_one Try.isAgg3 ((hb15.new_ hn).cell 0)), rfl⟩) ?_
  refine .o1 (tk rfl rfl fun _ w hn k => ⟨_, v_bin rfl (k.eq1 1 6 rfl) (k.eq1 3 8 rfl) (fun _ => rfl) (r_eql ht20), rfl⟩) ?_
  refine .o1 (tk rfl rfl fun _ w hn k => ⟨_, v_move rfl (k.eq1 4 9 rfl), rfl⟩) ?_
  refine .o1 (tg rfl rfl rfl (fun _ _ k => k.eq1 5 10 rfl) fun _ w hn k => ⟨_, v_field rfl (k.fx 2 h8) (fun w => rfl), rfl⟩) ?_
  refine .o1 (tg rfl rfl rfl (fun _ _ k => k.eq1 5 10 rfl) fun _ w hn k => ⟨_, v_load rfl (k.eq1 6 11 rfl) (l_part Try.isAgg23 Try.sizeOf23 (hb11.new_ hn) (Nat.le_of_ble_eq_true rfl)), rfl⟩) ?_
  refine .o1 (tg rfl rfl rfl (fun _ _ k => k.eq1 5 10 rfl) fun _ w hn k => ⟨_, v_field rfl (k.fx 3 h12) (fun w => rfl), rfl⟩) ?_
  refine .o1 (tg rfl rfl rfl (fun _ _ k => k.eq1 5 10 rfl) fun _ w hn k => ⟨_, v_load rfl (k.eq1 8 13 rfl) (l_part Try.isAgg23 Try.sizeOf23 (hb15.new_ hn) (Nat.le_of_ble_eq_true rfl)), rfl⟩) ?_
  refine .o1 (cg rfl rfl rfl (fun _ _ k => k.eq1 5 10 rfl) rfl (fun _ w hn k => ⟨#[nv (Nm.mk v.nk v.nn), nv (Nm.mk u.nk u.nn)], args2 (k.eq1 7 12 rfl) (k.eq1 9 14 rfl), fun _ => by kernel_rfl, rnum_c (Nm.mk v.nk v.nn) (Nm.mk u.nk u.nn) _ ⟩) fun _ => congrArg Value.bool ht21) ?_
  refine .o1 (tk rfl rfl fun _ w hn k => ⟨_, v_pickT rfl (k.eq1 5 10 rfl) (k.eq1 10 15 rfl), rfl⟩) ?_
  refine .o1 (tk rfl rfl fun _ w hn k => ⟨_, v_move rfl (k.eq1 11 16 rfl), rfl⟩) ?_
  refine .o1 (tg rfl rfl rfl (fun _ _ k => k.eq1 12 17 rfl) fun _ w hn k => ⟨_, v_field rfl (k.fx 2 h8) (fun w => rfl), rfl⟩) ?_
  refine .o1 (tg rfl rfl rfl (fun _ _ k => k.eq1 12 17 rfl) fun _ w hn k => ⟨_, v_load rfl (k.eq1 13 18 rfl) (l_part Try.isAgg26 Try.sizeOf26 (hb11.new_ hn) (Nat.le_of_ble_eq_true rfl)), rfl⟩) ?_
  refine .o1 (tg rfl rfl rfl (fun _ _ k => k.eq1 12 17 rfl) fun _ w hn k => ⟨_, v_field rfl (k.fx 3 h12) (fun w => rfl), rfl⟩) ?_
  refine .o1 (tg rfl rfl rfl (fun _ _ k => k.eq1 12 17 rfl) fun _ w hn k => ⟨_, v_load rfl (k.eq1 15 20 rfl) (l_part Try.isAgg26 Try.sizeOf26 (hb15.new_ hn) (Nat.le_of_ble_eq_true rfl)), rfl⟩) ?_
  refine .o1 (cg rfl rfl rfl (fun _ _ k => k.eq1 12 17 rfl) rfl (fun _ w hn k => ⟨#[.agg #[.bool v.neg, sv Av v.mag cv], .agg #[.bool u.neg, sv Au u.mag cu]], args2 (k.eq1 14 19 rfl) (k.eq1 16 21 rfl), fun _ => by kernel_rfl, rbig_c v.neg _ v.mag _ u.neg _ u.mag _ _ (hmv.new_ (hN18.transNew hn)) (hmu.new_ (hN18.transNew hn))⟩) fun _ => congrArg Value.bool ht22) ?_
  refine .o1 (tk rfl rfl fun _ w hn k => ⟨_, v_pickT rfl (k.eq1 12 17 rfl) (k.eq1 17 22 rfl), rfl⟩) ?_
  refine .o1 (tk rfl rfl fun _ w hn k => ⟨_, v_move rfl (k.eq1 18 23 rfl), rfl⟩) ?_
  refine .o1 (sk rfl rfl rfl (fun _ _ _ k => k.eq1 19 24 rfl) (fun _ => rfl)) ?_
  refine .o1 (sk rfl rfl rfl (fun _ _ _ k => k.eq1 19 24 rfl) (fun _ => rfl)) ?_
  refine .o1 (sk rfl rfl rfl (fun _ _ _ k => k.eq1 19 24 rfl) (fun _ => rfl)) ?_
  refine .o1 (sk rfl rfl rfl (fun _ _ _ k => k.eq1 19 24 rfl) (fun _ => rfl)) ?_
  refine .o1 (sk rfl rfl rfl (fun _ _ _ k => k.eq1 19 24 rfl) (fun _ => rfl)) ?_
  refine .o1 (tk rfl rfl fun _ w hn k => ⟨_, v_pickF rfl (k.eq1 19 24 rfl) rfl, rfl⟩) ?_
  refine .o1 (tk rfl rfl fun _ w hn k => ⟨_, v_move rfl (k.eq1 25 30 rfl), rfl⟩) ?_
  refine .o1 (sk rfl rfl rfl (fun _ _ _ k => k.eq1 26 31 rfl) (fun _ => rfl)) ?_
  refine .o1 (sk rfl rfl rfl (fun _ _ _ k => k.eq1 26 31 rfl) (fun _ => rfl)) ?_
  refine .o1 (sk rfl rfl rfl (fun _ _ _ k => k.eq1 26 31 rfl) (fun _ => rfl)) ?_
  refine .o1 (sk rfl rfl rfl (fun _ _ _ k => k.eq1 26 31 rfl) (fun _ => rfl)) ?_
  refine .o1 (sk rfl rfl rfl (fun _ _ _ k => k.eq1 26 31 rfl) (fun _ => rfl)) ?_
  refine .o1 (tk rfl rfl fun _ w hn k => ⟨_, v_pickF rfl (k.eq1 26 31 rfl) rfl, rfl⟩) ?_
  refine .o1 (tk rfl rfl fun _ w hn k => ⟨_, v_assign rfl (k.eq1 32 37 rfl), rfl⟩) ?_
  exact .nil
  intro a40 w41 hn42 ha43
  obtain ⟨hs44, hd45, hN47⟩ := aft ha43 hs6 hd7 hN18 hn42
  have h46 := ha43.ge 33 4 rfl
  refine st_nil (hK19 _ _ ?_)
  refine wp_ret (ret_k hd45 (v := .bool false) (res_t rfl h46 _) ?_)
  refine ⟨?_, hN47⟩
  show Ending.returned (.bool false) = Ending.returned (.bool (sameV v u))
  first | rfl | (simp only [sameV, ht20, ht21, ht22, bsm] <;> rfl) | (simp [sameV, ht20, ht21, ht22]; done) | (exfalso; omega)
  refine wp_g0 [true, true, true, true, true, true, true, true, true, true, true, true, true, true, true, true, true, true, true, true, true, true, true, true, true, true, true, true, true, true, true, true, true, true] [] 38
    [ve (pv q9),
     ve (iv v.k),
     ve (pv q13),
     ve (iv u.k),
     ve (.bool true),
     ve (.bool true),
     ve (.pointer (some ⟨q9, 1, none⟩)),
     ve (nv (Nm.mk v.nk v.nn)),
     ve (.pointer (some ⟨q13, 1, none⟩)),
     ve (nv (Nm.mk u.nk u.nn)),
     ve (.bool false),
     ve (.bool false),
     ve (.bool false),
     ve undef,
     ve undef,
     ve undef,
     ve undef,
     ve undef,
     ve (.bool false),
     ve (.bool false),
     ve undef,
     ve undef,
     ve undef,
     ve undef,
     ve undef,
     ve (.bool false),
     ve (.bool false),
     ve undef,
     ve undef,
     ve undef,
     ve undef,
     ve undef,
     ve (.bool false),
     ve (.bool false)] hs6 (.eq (.eq (.eq (.eq (.eq (.eq (.eq (.eq (.eq (.eq (.eq (.eq (.eq (.eq (.eq (.eq (.eq (.eq (.eq (.eq (.eq (.eq (.eq (.eq (.eq (.eq (.eq (.eq (.eq (.eq (.eq (.eq (.eq (.eq (.nil))))))))))))))))))))))))))))))))))) ?_ ?_
  refine .o1 (tk rfl rfl fun _ w hn k => ⟨_, v_field rfl (k.fx 2 h8) (fun w => rfl), rfl⟩) ?_
  refine .o1 (tk rfl rfl fun _ w hn k => ⟨_, v_load rfl (k.eq1 0 5 rfl) (l_one Try.isAgg3 ((hb11.new_ hn).cell 0)), rfl⟩) ?_
  refine .o1 (tk rfl rfl fun _ w hn k => ⟨_, v_field rfl (k.fx 3 h12) (fun w => rfl), rfl⟩) ?_
  refine .o1 (tk rfl rfl fun _ w hn k => ⟨_, v_load rfl (k.eq1 2 7 rfl) (l_one Try.isAgg3 ((hb15.new_ hn).cell 0)), rfl⟩) ?_
  refine .o1 (tk rfl rfl fun _ w hn k => ⟨_, v_bin rfl (k.eq1 1 6 rfl) (k.eq1 3 8 rfl) (fun _ => rfl) (r_eql ht20), rfl⟩) ?_
  refine .o1 (tk rfl rfl fun _ w hn k => ⟨_, v_move rfl (k.eq1 4 9 rfl), rfl⟩) ?_
  refine .o1 (tg rfl rfl rfl (fun _ _ k => k.eq1 5 10 rfl) fun _ w hn k => ⟨_, v_field rfl (k.fx 2 h8) (fun w => rfl), rfl⟩) ?_
  refine .o1 (tg rfl rfl rfl (fun _ _ k => k.eq1 5 10 rfl) fun _ w hn k => ⟨_, v_load rfl (k.eq1 6 11 rfl) (l_part Try.isAgg23 Try.sizeOf23 (hb11.new_ hn) (Nat.le_of_ble_eq_true rfl)), rfl⟩) ?_
  refine .o1 (tg rfl rfl rfl (fun _ _ k => k.eq1 5 10 rfl) fun _ w hn k => ⟨_, v_field rfl (k.fx 3 h12) (fun w => rfl), rfl⟩) ?_
  refine .o1 (tg rfl rfl rfl (fun _ _ k => k.eq1 5 10 rfl) fun _ w hn k => ⟨_, v_load rfl (k.eq1 8 13 rfl) (l_part Try.isAgg23 Try.sizeOf23 (hb15.new_ hn) (Nat.le_of_ble_eq_true rfl)), rfl⟩) ?_
  refine .o1 (cg rfl rfl rfl (fun _ _ k => k.eq1 5 10 rfl) rfl (fun _ w hn k => ⟨#[nv (Nm.mk v.nk v.nn), nv (Nm.mk u.nk u.nn)], args2 (k.eq1 7 12 rfl) (k.eq1 9 14 rfl), fun _ => by kernel_rfl, rnum_c (Nm.mk v.nk v.nn) (Nm.mk u.nk u.nn) _ ⟩) fun _ => congrArg Value.bool ht21) ?_
  refine .o1 (tk rfl rfl fun _ w hn k => ⟨_, v_pickT rfl (k.eq1 5 10 rfl) (k.eq1 10 15 rfl), rfl⟩) ?_
  refine .o1 (tk rfl rfl fun _ w hn k => ⟨_, v_move rfl (k.eq1 11 16 rfl), rfl⟩) ?_
  refine .o1 (sk rfl rfl rfl (fun _ _ _ k => k.eq1 12 17 rfl) (fun _ => rfl)) ?_
  refine .o1 (sk rfl rfl rfl (fun _ _ _ k => k.eq1 12 17 rfl) (fun _ => rfl)) ?_
  refine .o1 (sk rfl rfl rfl (fun _ _ _ k => k.eq1 12 17 rfl) (fun _ => rfl)) ?_
  refine .o1 (sk rfl rfl rfl (fun _ _ _ k => k.eq1 12 17 rfl) (fun _ => rfl)) ?_
  refine .o1 (sk rfl rfl rfl (fun _ _ _ k => k.eq1 12 17 rfl) (fun _ => rfl)) ?_
  refine .o1 (tk rfl rfl fun _ w hn k => ⟨_, v_pickF rfl (k.eq1 12 17 rfl) rfl, rfl⟩) ?_
  refine .o1 (tk rfl rfl fun _ w hn k => ⟨_, v_move rfl (k.eq1 18 23 rfl), rfl⟩) ?_
  refine .o1 (sk rfl rfl rfl (fun _ _ _ k => k.eq1 19 24 rfl) (fun _ => rfl)) ?_
  refine .o1 (sk rfl rfl rfl (fun _ _ _ k => k.eq1 19 24 rfl) (fun _ => rfl)) ?_
  refine .o1 (sk rfl rfl rfl (fun _ _ _ k => k.eq1 19 24 rfl) (fun _ => rfl)) ?_
  refine .o1 (sk rfl rfl rfl (fun _ _ _ k => k.eq1 19 24 rfl) (fun _ => rfl)) ?_
  refine .o1 (sk rfl rfl rfl (fun _ _ _ k => k.eq1 19 24 rfl) (fun _ => rfl)) ?_
  refine .o1 (tk rfl rfl fun _ w hn k => ⟨_, v_pickF rfl (k.eq1 19 24 rfl) rfl, rfl⟩) ?_
  refine .o1 (tk rfl rfl fun _ w hn k => ⟨_, v_move rfl (k.eq1 25 30 rfl), rfl⟩) ?_
  refine .o1 (sk rfl rfl rfl (fun _ _ _ k => k.eq1 26 31 rfl) (fun _ => rfl)) ?_
  refine .o1 (sk rfl rfl rfl (fun _ _ _ k => k.eq1 26 31 rfl) (fun _ => rfl)) ?_
  refine .o1 (sk rfl rfl rfl (fun _ _ _ k => k.eq1 26 31 rfl) (fun _ => rfl)) ?_
  refine .o1 (sk rfl rfl rfl (fun _ _ _ k => k.eq1 26 31 rfl) (fun _ => rfl)) ?_
  refine .o1 (sk rfl rfl rfl (fun _ _ _ k => k.eq1 26 31 rfl) (fun _ => rfl)) ?_
  refine .o1 (tk rfl rfl fun _ w hn k => ⟨_, v_pickF rfl (k.eq1 26 31 rfl) rfl, rfl⟩) ?_
  refine .o1 (tk rfl rfl fun _ w hn k => ⟨_, v_assign rfl (k.eq1 32 37 rfl), rfl⟩) ?_
  exact .nil
  intro a48 w49 hn50 ha51
  obtain ⟨hs52, hd53, hN55⟩ := aft ha51 hs6 hd7 hN18 hn50
  have h54 := ha51.ge 33 4 rfl
  refine st_nil (hK19 _ _ ?_)
  refine wp_ret (ret_k hd53 (v := .bool false) (res_t rfl h54 _) ?_)
  refine ⟨?_, hN55⟩
  show Ending.returned (.bool false) = Ending.returned (.bool (sameV v u))
  first | rfl | (simp only [sameV, ht20, ht21, bsm] <;> rfl) | (simp [sameV, ht20, ht21]; done) | (exfalso; omega)
  have ht20d := of_decide_eq_false ht20
  refine wp_g0 [true, true, true, true, true, true, true, true, true, true, true, true, true, true, true, true, true, true, true, true, true, true, true, true, true, true, true, true, true, true, true, true, true, true] [] 38
    [ve (pv q9),
     ve (iv v.k),
     ve (pv q13),
     ve (iv u.k),
     ve (.bool false),
     ve (.bool false),
     ve undef,
     ve undef,
     ve undef,
     ve undef,
     ve undef,
     ve (.bool false),
     ve (.bool false),
     ve undef,
     ve undef,
     ve undef,
     ve undef,
     ve undef,
     ve (.bool false),
     ve (.bool false),
     ve undef,
     ve undef,
     ve undef,
     ve undef,
     ve undef,
     ve (.bool false),
     ve (.bool false),
     ve undef,
     ve undef,
     ve undef,
     ve undef,
     ve undef,
     ve (.bool false),
     ve (.bool false)] hs6 (.eq (.eq (.eq (.eq (.eq (.eq (.eq (.eq (.eq (.eq (.eq (.eq (.eq (.eq (.eq (.eq (.eq (.eq (.eq (.eq (.eq (.eq (.eq (.eq (.eq (.eq (.eq (.eq (.eq (.eq (.eq (.eq (.eq (.eq (.nil))))))))))))))))))))))))))))))))))) ?_ ?_
  refine .o1 (tk rfl rfl fun _ w hn k => ⟨_, v_field rfl (k.fx 2 h8) (fun w => rfl), rfl⟩) ?_
  refine .o1 (tk rfl rfl fun _ w hn k => ⟨_, v_load rfl (k.eq1 0 5 rfl) (l_one Try.isAgg3 ((hb11.new_ hn).cell 0)), rfl⟩) ?_
  refine .o1 (tk rfl rfl fun _ w hn k => ⟨_, v_field rfl (k.fx 3 h12) (fun w => rfl), rfl⟩) ?_
  refine .o1 (tk rfl rfl fun _ w hn k => ⟨_, v_load rfl (k.eq1 2 7 rfl) (l_one Try.isAgg3 ((hb15.new_ hn).cell 0)), rfl⟩) ?_
  refine .o1 (tk rfl rfl fun _ w hn k => ⟨_, v_bin rfl (k.eq1 1 6 rfl) (k.eq1 3 8 rfl) (fun _ => rfl) (r_eql ht20), rfl⟩) ?_
  refine .o1 (tk rfl rfl fun _ w hn k => ⟨_, v_move rfl (k.eq1 4 9 rfl), rfl⟩) ?_
  refine .o1 (sk rfl rfl rfl (fun _ _ _ k => k.eq1 5 10 rfl) (fun _ => rfl)) ?_
  refine .o1 (sk rfl rfl rfl (fun _ _ _ k => k.eq1 5 10 rfl) (fun _ => rfl)) ?_
  refine .o1 (sk rfl rfl rfl (fun _ _ _ k => k.eq1 5 10 rfl) (fun _ => rfl)) ?_
  refine .o1 (sk rfl rfl rfl (fun _ _ _ k => k.eq1 5 10 rfl) (fun _ => rfl)) ?_
  refine .o1 (sk rfl rfl rfl (fun _ _ _ k => k.eq1 5 10 rfl) (fun _ => rfl)) ?_
  refine .o1 (tk rfl rfl fun _ w hn k => ⟨_, v_pickF rfl (k.eq1 5 10 rfl) rfl, rfl⟩) ?_
  refine .o1 (tk rfl rfl fun _ w hn k => ⟨_, v_move rfl (k.eq1 11 16 rfl), rfl⟩) ?_
  refine .o1 (sk rfl rfl rfl (fun _ _ _ k => k.eq1 12 17 rfl) (fun _ => rfl)) ?_
  refine .o1 (sk rfl rfl rfl (fun _ _ _ k => k.eq1 12 17 rfl) (fun _ => rfl)) ?_
  refine .o1 (sk rfl rfl rfl (fun _ _ _ k => k.eq1 12 17 rfl) (fun _ => rfl)) ?_
  refine .o1 (sk rfl rfl rfl (fun _ _ _ k => k.eq1 12 17 rfl) (fun _ => rfl)) ?_
  refine .o1 (sk rfl rfl rfl (fun _ _ _ k => k.eq1 12 17 rfl) (fun _ => rfl)) ?_
  refine .o1 (tk rfl rfl fun _ w hn k => ⟨_, v_pickF rfl (k.eq1 12 17 rfl) rfl, rfl⟩) ?_
  refine .o1 (tk rfl rfl fun _ w hn k => ⟨_, v_move rfl (k.eq1 18 23 rfl), rfl⟩) ?_
  refine .o1 (sk rfl rfl rfl (fun _ _ _ k => k.eq1 19 24 rfl) (fun _ => rfl)) ?_
  refine .o1 (sk rfl rfl rfl (fun _ _ _ k => k.eq1 19 24 rfl) (fun _ => rfl)) ?_
  refine .o1 (sk rfl rfl rfl (fun _ _ _ k => k.eq1 19 24 rfl) (fun _ => rfl)) ?_
  refine .o1 (sk rfl rfl rfl (fun _ _ _ k => k.eq1 19 24 rfl) (fun _ => rfl)) ?_
  refine .o1 (sk rfl rfl rfl (fun _ _ _ k => k.eq1 19 24 rfl) (fun _ => rfl)) ?_
  refine .o1 (tk rfl rfl fun _ w hn k => ⟨_, v_pickF rfl (k.eq1 19 24 rfl) rfl, rfl⟩) ?_
  refine .o1 (tk rfl rfl fun _ w hn k => ⟨_, v_move rfl (k.eq1 25 30 rfl), rfl⟩) ?_
  refine .o1 (sk rfl rfl rfl (fun _ _ _ k => k.eq1 26 31 rfl) (fun _ => rfl)) ?_
  refine .o1 (sk rfl rfl rfl (fun _ _ _ k => k.eq1 26 31 rfl) (fun _ => rfl)) ?_
  refine .o1 (sk rfl rfl rfl (fun _ _ _ k => k.eq1 26 31 rfl) (fun _ => rfl)) ?_
  refine .o1 (sk rfl rfl rfl (fun _ _ _ k => k.eq1 26 31 rfl) (fun _ => rfl)) ?_
  refine .o1 (sk rfl rfl rfl (fun _ _ _ k => k.eq1 26 31 rfl) (fun _ => rfl)) ?_
  refine .o1 (tk rfl rfl fun _ w hn k => ⟨_, v_pickF rfl (k.eq1 26 31 rfl) rfl, rfl⟩) ?_
  refine .o1 (tk rfl rfl fun _ w hn k => ⟨_, v_assign rfl (k.eq1 32 37 rfl), rfl⟩) ?_
  exact .nil
  intro a56 w57 hn58 ha59
  obtain ⟨hs60, hd61, hN63⟩ := aft ha59 hs6 hd7 hN18 hn58
  have h62 := ha59.ge 33 4 rfl
  refine st_nil (hK19 _ _ ?_)
  refine wp_ret (ret_k hd61 (v := .bool false) (res_t rfl h62 _) ?_)
  refine ⟨?_, hN63⟩
  show Ending.returned (.bool false) = Ending.returned (.bool (sameV v u))
  first | rfl | (simp only [sameV, ht20, bsm] <;> rfl) | (simp [sameV, ht20]; done) | (exfalso; omega)
def qtruth_c_P (t : Bool) (w : World) (en : Ending) (w' : World) : Prop := ∃ (Ar0 : Option Addr) (cr0 : Nat) (Ar1 : Option Addr) (cr1 : Nat), en = .returned (vv (truthV t) Ar0 cr0 Ar1 cr1) ∧ SRow w' .u32 Ar0 ((truthV t).mag) cr0 ∧ SRow w' .u16 Ar1 ((truthV t).s) cr1 ∧ New w w'
set_option maxHeartbeats 4000000 in
set_option maxRecDepth 100000 in
theorem qtruth_c (t : Bool) (w : World) : Calls Try.prog 20 #[.bool t] w (qtruth_c_P t w) := by
  refine enter_abs Try.func20 rfl fun a0 hs0 hd0 hp => ?_
  have hs0 : a0.tmps.size = 6 := hs0
  have hN0 : New w w := Upd.refl _ _
  have hp0 : a0.eval (.tmp 0) = .bool t := hp 0 _ rfl
  refine wp_seq_k fun K1 hK1 => ?_
  refine wp_g [true] [] [] 6
    [IsNew w 32 [iv 0, iv 0, iv 0, .bool false, sv none ([]) 0, sv none ([]) 0, iv 0]]
    [0] (newsCons (fun v w h => IsNew.old h) newsNil) hs0 (.nw (.nil)) ?_ (fun i h => by cases h) ?_
  refine .o2 (step_allocN (cs := [iv 0, iv 0, iv 0, .bool false, sv none ([]) 0, sv none ([]) 0, iv 0]) (t := 32) rfl (noG rfl) (fun _ w hn k => rfl) (fun q _ hq hb => ⟨q, rfl, hq, hb⟩)) ?_
  exact .nil
  intro a2 w3 hn4 ha5
  obtain ⟨hs6, hd7, hN14⟩ := aft ha5 hs0 hd0 hN0 hn4
  have h8 := ha5.fx 0 hp0
  obtain ⟨q10, h9, hq11, hb12⟩ : IsNew _ _ _ _ _ := ha5.got 0 2 rfl (by kernel_rfl)
  have hq13 := Nat.le_trans hN0.size hq11
  refine st_nil (hK1 _ _ ?_)
  refine wp_seq_k fun K15 hK15 => ?_
  refine wp_seq_k fun K16 hK16 => ?_
  refine wp_g0 [true] [] 6
    [ve (.bool t)] hs6 (.eq (.nil)) ?_ ?_
  refine .o1 (tk rfl rfl fun _ w hn k => ⟨_, v_move rfl (k.fx 0 h8), rfl⟩) ?_
  exact .nil
  intro a17 w18 hn19 ha20
  obtain ⟨hs21, hd22, hN26⟩ := aft ha20 hs6 hd7 hN14 hn19
  have h23 := ha20.fx 2 h9
  have h24 := ha20.ge 0 3 rfl
  have hb25 := hb12.new_ hn19
  refine st_nil (hK16 _ _ ?_)
  rcases Bool.eq_false_or_eq_true (t) with ht27 | ht27
  have hv28 := hB h24 ht27
  refine wp_cond_true hv28 ?_
  refine wp_seq_k fun K29 hK29 => ?_
  refine wp_g0 [true, false] [(1, false)] 6
    [ve (vv (Vl.mk 2 0 0 false [] [] 1) none 0 none 0),
     vt] hs21 (.eq (.tt (.nil))) ?_ ?_
  refine .o1 (tk rfl rfl fun _ w hn k => ⟨_, v_build (ps := [(0, iv 2), (4, iv 1)]) rfl (parts2 rfl rfl) (by kernel_rfl), rfl⟩) ?_
  refine .off ?_
  exact .nil
  intro a30 w31 hn32 ha33
  obtain ⟨hs34, hd35, hN39⟩ := aft ha33 hs21 hd22 hN26 hn32
  have h36 := ha33.fx 2 h23
  have h37 := ha33.ge 0 4 rfl
  have hb38 := hb25.new_ hn32
  obtain ⟨w40, hst41, hb420, hu43, hf44⟩ := s_many (P := Try.prog) (t := 32) (i := 0) [iv 2, iv 0, iv 0, .bool false, sv none ([]) 0, sv none ([]) 0, iv 1] Try.sizeOf32 rfl rfl rfl hb38 (Nat.le_of_ble_eq_true rfl)
  have hb42 : Blk w40 q10 32 [iv 2, iv 0, iv 0, .bool false, sv none ([]) 0, sv none ([]) 0, iv 1] := hb420
  refine st_act rfl rfl fun K45 hL46 => a_store' rfl h36 h37 hst41 (hL46 _ _ trivial ?_)
  have hN47 := hN39.trans hu43 (fun k hk hkb => by subst hkb; omega)
  refine st_nil (hK29 _ _ ?_)
  refine wp_ret (ret_k hd35 (v := vv (Vl.mk 2 0 0 false [] [] 1) none 0 none 0) (res_c rfl h36 (l_agg Try.isAgg32 Try.sizeOf32 hb42 rfl)) ?_)
  have hx0 : (truthV t).mag = [] := by first | rfl | (simp only [truthV, ht27, bsm] <;> rfl) | (simp [truthV, ht27]; done) | (exfalso; omega)
  have hx1 : (truthV t).s = [] := by first | rfl | (simp only [truthV, ht27, bsm] <;> rfl) | (simp [truthV, ht27]; done) | (exfalso; omega)
  exact ⟨none, 0, none, 0, (by show Ending.returned (vv (Vl.mk 2 0 0 false [] [] 1) none 0 none 0) = Ending.returned (vv (truthV t) none 0 none 0); (first | rfl | (simp only [truthV, ht27, hx0, hx1, bsm] <;> rfl) | (simp [truthV, ht27, hx0, hx1]; done) | (exfalso; omega))), (by rw [hx0]; exact (SRow.nil _ _)), (by rw [hx1]; exact (SRow.nil _ _)), hN47⟩
  have hv48 := hB h24 ht27
  refine wp_cond_false hv48 ?_
  refine wp_skip ?_
  refine hK15 _ _ ?_
  refine wp_seq_k fun K49 hK49 => ?_
  refine wp_g0 [true, false] [(1, false)] 6
    [ve (vv (Vl.mk 2 0 0 false [] [] 0) none 0 none 0),
     vt] hs21 (.eq (.tt (.nil))) ?_ ?_
  refine .o1 (tk rfl rfl fun _ w hn k => ⟨_, v_build (ps := [(0, iv 2)]) rfl (parts1 rfl) (by kernel_rfl), rfl⟩) ?_
  refine .off ?_
  exact .nil
  intro a50 w51 hn52 ha53
  obtain ⟨hs54, hd55, hN59⟩ := aft ha53 hs21 hd22 hN26 hn52
  have h56 := ha53.fx 2 h23
  have h57 := ha53.ge 0 5 rfl
  have hb58 := hb25.new_ hn52
  obtain ⟨w60, hst61, hb620, hu63, hf64⟩ := s_many (P := Try.prog) (t := 32) (i := 0) [iv 2, iv 0, iv 0, .bool false, sv none ([]) 0, sv none ([]) 0, iv 0] Try.sizeOf32 rfl rfl rfl hb58 (Nat.le_of_ble_eq_true rfl)
  have hb62 : Blk w60 q10 32 [iv 2, iv 0, iv 0, .bool false, sv none ([]) 0, sv none ([]) 0, iv 0] := hb620
  refine st_act rfl rfl fun K65 hL66 => a_store' rfl h56 h57 hst61 (hL66 _ _ trivial ?_)
  have hN67 := hN59.trans hu63 (fun k hk hkb => by subst hkb; omega)
  refine st_nil (hK49 _ _ ?_)
  refine wp_ret (ret_k hd55 (v := vv (Vl.mk 2 0 0 false [] [] 0) none 0 none 0) (res_c rfl h56 (l_agg Try.isAgg32 Try.sizeOf32 hb62 rfl)) ?_)
  have hx0 : (truthV t).mag = [] := by first | rfl | (simp only [truthV, ht27, bsm] <;> rfl) | (simp [truthV, ht27]; done) | (exfalso; omega)
  have hx1 : (truthV t).s = [] := by first | rfl | (simp only [truthV, ht27, bsm] <;> rfl) | (simp [truthV, ht27]; done) | (exfalso; omega)
  exact ⟨none, 0, none, 0, (by show Ending.returned (vv (Vl.mk 2 0 0 false [] [] 0) none 0 none 0) = Ending.returned (vv (truthV t) none 0 none 0); (first | rfl | (simp only [truthV, ht27, hx0, hx1, bsm] <;> rfl) | (simp [truthV, ht27, hx0, hx1]; done) | (exfalso; omega))), (by rw [hx0]; exact (SRow.nil _ _)), (by rw [hx1]; exact (SRow.nil _ _)), hN67⟩
set_option maxHeartbeats 4000000 in
set_option maxRecDepth 100000 in
theorem qnum_c (a : Nm) (w : World) : Calls Try.prog 22 #[nv a] w (IsRet (vv (Vl.mk 3 a.k a.n false [] [] 0) none 0 none 0) w) := by
  refine enter_abs Try.func22 rfl fun a0 hs0 hd0 hp => ?_
  have hs0 : a0.tmps.size = 5 := hs0
  have hN0 : New w w := Upd.refl _ _
  have hp0 : a0.eval (.tmp 0) = nv a := hp 0 _ rfl
  refine wp_seq_k fun K1 hK1 => ?_
  refine wp_g [true, true] [] [] 5
    [IsNew w 23 [iv a.k, iv a.n],
     IsNew w 32 [iv 0, iv 0, iv 0, .bool false, sv none ([]) 0, sv none ([]) 0, iv 0]]
    [0, 1] (newsCons (fun v w h => IsNew.old h) (newsCons (fun v w h => IsNew.old h) newsNil)) hs0 (.nw (.nw (.nil))) ?_ (fun i h => by cases h) ?_
  refine .o2 (step_allocN (cs := [iv a.k, iv a.n]) (t := 23) rfl (noG rfl) (fun _ w hn k => v_box rfl (k.fx 0 hp0) (fun w => rfl)) (fun q _ hq hb => ⟨q, rfl, hq, hb⟩)) ?_
  refine .o2 (step_allocN (cs := [iv 0, iv 0, iv 0, .bool false, sv none ([]) 0, sv none ([]) 0, iv 0]) (t := 32) rfl (noG rfl) (fun _ w hn k => rfl) (fun q _ hq hb => ⟨q, rfl, hq, hb⟩)) ?_
  exact .nil
  intro a2 w3 hn4 ha5
  obtain ⟨hs6, hd7, hN19⟩ := aft ha5 hs0 hd0 hN0 hn4
  obtain ⟨q9, h8, hq10, hb11⟩ : IsNew _ _ _ _ _ := ha5.got 0 1 rfl (by kernel_rfl)
  obtain ⟨q13, h12, hq14, hb15⟩ : IsNew _ _ _ _ _ := ha5.got 1 2 rfl (by kernel_rfl)
  have hne16 : q9 ≠ q13 := ha5.ne 0 1 1 2 h8 h12
  have hq17 := Nat.le_trans hN0.size hq10
  have hq18 := Nat.le_trans hN0.size hq14
  refine st_nil (hK1 _ _ ?_)
  refine wp_seq_k fun K20 hK20 => ?_
  refine wp_g0 [true, true, false] [(2, false)] 5
    [ve (nv a),
     ve (vv (Vl.mk 3 a.k a.n false [] [] 0) none 0 none 0),
     vt] hs6 (.eq (.eq (.tt (.nil)))) ?_ ?_
  refine .o1 (tk rfl rfl fun _ w hn k => ⟨_, v_load rfl (k.fx 1 h8) (l_two Try.isAgg23 Try.sizeOf23 (hb11.new_ hn)), rfl⟩) ?_
  refine .o1 (tk rfl rfl fun _ w hn k => ⟨_, v_build (ps := [(0, iv 3), (1, nv a)]) rfl (parts2 rfl (k.eq1 0 3 rfl)) (by kernel_rfl), rfl⟩) ?_
  refine .off ?_
  exact .nil
  intro a21 w22 hn23 ha24
  obtain ⟨hs25, hd26, hN30⟩ := aft ha24 hs6 hd7 hN19 hn23
  have h27 := ha24.fx 2 h12
  have h28 := ha24.ge 1 4 rfl
  have hb29 := hb15.new_ hn23
  obtain ⟨w31, hst32, hb330, hu34, hf35⟩ := s_many (P := Try.prog) (t := 32) (i := 0) [iv 3, iv a.k, iv a.n, .bool false, sv none ([]) 0, sv none ([]) 0, iv 0] Try.sizeOf32 rfl rfl rfl hb29 (Nat.le_of_ble_eq_true rfl)
  have hb33 : Blk w31 q13 32 [iv 3, iv a.k, iv a.n, .bool false, sv none ([]) 0, sv none ([]) 0, iv 0] := hb330
  refine st_act rfl rfl fun K36 hL37 => a_store' rfl h27 h28 hst32 (hL37 _ _ trivial ?_)
  have hN38 := hN30.trans hu34 (fun k hk hkb => by subst hkb; omega)
  refine st_nil (hK20 _ _ ?_)
  refine wp_ret (ret_k hd26 (v := vv (Vl.mk 3 a.k a.n false [] [] 0) none 0 none 0) (res_c rfl h27 (l_agg Try.isAgg32 Try.sizeOf32 hb33 rfl)) ?_)
  exact ⟨rfl, hN38⟩
def qstr_c_P (Au : Option Addr) (u : List Nat) (cu : Nat) (w : World) (en : Ending) (w' : World) : Prop := ∃ (Ar0 : Option Addr) (cr0 : Nat) (Ar1 : Option Addr) (cr1 : Nat), en = .returned (vv (strV u) Ar0 cr0 Ar1 cr1) ∧ SRow w' .u32 Ar0 ((strV u).mag) cr0 ∧ SRow w' .u16 Ar1 ((strV u).s) cr1 ∧ New w w'
set_option maxHeartbeats 4000000 in
set_option maxRecDepth 100000 in
theorem qstr_c (Au : Option Addr) (u : List Nat) (cu : Nat) (w : World) (hru : SRow w .u16 Au u cu) (hs : u.length ≤ 20000) : Calls Try.prog 23 #[sv Au u cu] w (qstr_c_P Au u cu w) := by
  refine enter_abs Try.func23 rfl fun a0 hs0 hd0 hp => ?_
  have hs0 : a0.tmps.size = 10 := hs0
  have hN0 : New w w := Upd.refl _ _
  have hp0 : a0.eval (.tmp 0) = sv Au u cu := hp 0 _ rfl
  refine wp_seq_k fun K1 hK1 => ?_
  refine wp_g [true] [] [] 10
    [IsNew w 32 [iv 0, iv 0, iv 0, .bool false, sv none ([]) 0, sv none ([]) 0, iv 0]]
    [0] (newsCons (fun v w h => IsNew.old h) newsNil) hs0 (.nw (.nil)) ?_ (fun i h => by cases h) ?_
  refine .o2 (step_allocN (cs := [iv 0, iv 0, iv 0, .bool false, sv none ([]) 0, sv none ([]) 0, iv 0]) (t := 32) rfl (noG rfl) (fun _ w hn k => rfl) (fun q _ hq hb => ⟨q, rfl, hq, hb⟩)) ?_
  exact .nil
  intro a2 w3 hn4 ha5
  obtain ⟨hs6, hd7, hN14⟩ := aft ha5 hs0 hd0 hN0 hn4
  have h8 := ha5.fx 0 hp0
  obtain ⟨q10, h9, hq11, hb12⟩ : IsNew _ _ _ _ _ := ha5.got 0 2 rfl (by kernel_rfl)
  have hq13 := Nat.le_trans hN0.size hq11
  refine st_nil (hK1 _ _ ?_)
  refine wp_seq_k fun K15 hK15 => ?_
  refine wp_g0 [true, true, true, true, true, true, true, false] [(7, false)] 10
    [ve (sv Au u cu),
     ve (sv Au u cu),
     ve (iv (u.length : Int)),
     ve (iv (min (u.length : Int) 4096)),
     (fun (v_ : Value) (W : World) => ∃ (A3 : Option Addr) (c4 : Nat), v_ = sv A3 (u.take ((min (u.length : Int) 4096 : Int).toNat)) c4 ∧ SRow W .u16 A3 (u.take ((min (u.length : Int) 4096 : Int).toNat)) c4),
     (fun (v_ : Value) (W : World) => ∃ (A11 : Option Addr) (c12 : Nat), v_ = sv A11 (u.take ((min (u.length : Int) 4096 : Int).toNat)) c12 ∧ SOwn W w3.heap.size 66 .u16 A11 (u.take ((min (u.length : Int) 4096 : Int).toNat)) c12),
     (fun (v_ : Value) (W : World) => ∃ (A17 : Option Addr) (c18 : Nat), v_ = vv (Vl.mk 5 0 0 false [] (u.take ((min (u.length : Int) 4096 : Int).toNat)) 0) none 0 A17 c18 ∧ SOwn W w3.heap.size 66 .u16 A17 (u.take ((min (u.length : Int) 4096 : Int).toNat)) c18),
     vt] hs6 (.eq (.eq (.eq (.eq (.cons (fun v W W' hn ⟨A3, c4, he, h0⟩ => ⟨A3, c4, he, h0.new_ hn⟩) (.cons (fun v W W' hn ⟨A11, c12, he, h0⟩ => ⟨A11, c12, he, h0.new_ hn⟩) (.cons (fun v W W' hn ⟨A17, c18, he, h0⟩ => ⟨A17, c18, he, h0.new_ hn⟩) (.tt (.nil))))))))) ?_ ?_
  refine .o1 (tk rfl rfl fun _ w hn k => ⟨_, v_move rfl (k.fx 0 h8), rfl⟩) ?_
  refine .o1 (tk rfl rfl fun _ w hn k => ⟨_, v_move rfl (k.fx 0 h8), rfl⟩) ?_
  refine .o1 (tk rfl rfl fun _ w hn k => ⟨_, v_lenR rfl elU (k.eq1 1 4 rfl), rfl⟩) ?_
  refine .o1 (tk rfl rfl fun _ w hn k => ⟨_, v_min rfl (k.eq1 2 5 rfl) rfl, rfl⟩) ?_
  refine .o1 (tk rfl rfl fun _ w hn k => (by
        exact x_cutH (k := .u16) rfl elU (k.eq1 0 3 rfl) (k.eq1 3 6 rfl) (hru.new_ (hN14.transNew hn)) (by omega) fun A1 c2 hmr => ⟨A1, c2, rfl, hmr⟩)) ?_
  refine .o1 (tkC rfl (noG rfl) rfl fun _ w hn k => (by
        obtain ⟨A5, c6, e7, hx8⟩ : (fun (v_ : Value) (W : World) => ∃ (A3 : Option Addr) (c4 : Nat), v_ = sv A3 (u.take ((min (u.length : Int) 4096 : Int).toNat)) c4 ∧ SRow W .u16 A3 (u.take ((min (u.length : Int) 4096 : Int).toNat)) c4) _ _ := k.dep 4 7 (by kernel_rfl) (by kernel_rfl)
        refine ⟨#[sv A5 (u.take ((min (u.length : Int) 4096 : Int).toNat)) c6], _, args1 e7, fun w => by kernel_rfl, cunits_c _ (u.take ((min (u.length : Int) 4096 : Int).toNat)) _ _ hx8 (by first | omega | (simp only [List.length_nil, List.length_take, List.length_drop]; omega) | (simp only [List.length_cons, List.length_nil]; omega)), ?_⟩
        rintro e w' ⟨A9, c10, rfl, hmo0, hm⟩
        exact ⟨_, rfl, hm, ⟨A9, c10, rfl, (hmo0.more hn.size)⟩⟩)) ?_
  refine .o1 (tk rfl rfl fun _ w hn k => (by
        obtain ⟨A13, c14, e15, hx16⟩ : (fun (v_ : Value) (W : World) => ∃ (A11 : Option Addr) (c12 : Nat), v_ = sv A11 (u.take ((min (u.length : Int) 4096 : Int).toNat)) c12 ∧ SOwn W w3.heap.size 66 .u16 A11 (u.take ((min (u.length : Int) 4096 : Int).toNat)) c12) _ _ := k.dep 5 8 (by kernel_rfl) (by kernel_rfl)
        exact ⟨_, v_build (ps := [(0, iv 5), (3, sv A13 (u.take ((min (u.length : Int) 4096 : Int).toNat)) c14)]) rfl (parts2 rfl e15) (by kernel_rfl), ⟨A13, c14, rfl, hx16⟩⟩)) ?_
  refine .off ?_
  exact .nil
  intro a16 w17 hn18 ha19
  obtain ⟨hs20, hd21, hN29⟩ := aft ha19 hs6 hd7 hN14 hn18
  have h22 := ha19.fx 2 h9
  obtain ⟨A24, cc25, h23, hr26⟩ : (fun (v_ : Value) (W : World) => ∃ (A17 : Option Addr) (c18 : Nat), v_ = vv (Vl.mk 5 0 0 false [] (u.take ((min (u.length : Int) 4096 : Int).toNat)) 0) none 0 A17 c18 ∧ SOwn W w3.heap.size 66 .u16 A17 (u.take ((min (u.length : Int) 4096 : Int).toNat)) c18) _ _ := ha19.got 6 9 rfl (by kernel_rfl)
  have h23 : a16.eval (.tmp 9) = vv (Vl.mk 5 0 0 false [] (u.take ((min (u.length : Int) 4096 : Int).toNat)) 0) none 0 A24 cc25 := h23
  have hb27 := hb12.new_ hn18
  have hr28 := hr26.more hN14.size
  obtain ⟨w30, hst31, hb320, hu33, hf34⟩ := s_many (P := Try.prog) (t := 32) (i := 0) [iv 5, iv 0, iv 0, .bool false, sv none ([]) 0, sv A24 (u.take ((min (u.length : Int) 4096 : Int).toNat)) cc25, iv 0] Try.sizeOf32 rfl rfl rfl hb27 (Nat.le_of_ble_eq_true rfl)
  have hb32 : Blk w30 q10 32 [iv 5, iv 0, iv 0, .bool false, sv none ([]) 0, sv A24 (u.take ((min (u.length : Int) 4096 : Int).toNat)) cc25, iv 0] := hb320
  refine st_act rfl rfl fun K35 hL36 => a_store' rfl h22 h23 hst31 (hL36 _ _ trivial ?_)
  have hr37 := hr28.far hb27 hu33 (by decide)
  have hN38 := hN29.trans hu33 (fun k hk hkb => by subst hkb; omega)
  refine st_nil (hK15 _ _ ?_)
  refine wp_ret (ret_k hd21 (v := vv (Vl.mk 5 0 0 false [] (u.take ((min (u.length : Int) 4096 : Int).toNat)) 0) none 0 A24 cc25) (res_c rfl h22 (l_agg Try.isAgg32 Try.sizeOf32 hb32 rfl)) ?_)
  have hx0 : (strV u).mag = [] := by first | rfl | (simp only [strV, tk_min, bsm] <;> rfl) | (simp [strV, tk_min]; done) | (exfalso; omega)
  have hx1 : (strV u).s = (u.take ((min (u.length : Int) 4096 : Int).toNat)) := by first | rfl | (simp only [strV, tk_min, bsm] <;> rfl) | (simp [strV, tk_min]; done) | (exfalso; omega)
  exact ⟨none, 0, A24, cc25, (by show Ending.returned (vv (Vl.mk 5 0 0 false [] (u.take ((min (u.length : Int) 4096 : Int).toNat)) 0) none 0 A24 cc25) = Ending.returned (vv (strV u) none 0 A24 cc25); (first | rfl | (simp only [strV, hx0, hx1, tk_min, bsm] <;> rfl) | (simp [strV, hx0, hx1, tk_min]; done) | (exfalso; omega))), (by rw [hx0]; exact (SRow.nil _ _)), (by rw [hx1]; exact hr37.row), hN38⟩
set_option maxHeartbeats 4000000 in
set_option maxRecDepth 100000 in
theorem plain_c (v : Vl) (Av : Option Addr) (cv : Nat) (Bv : Option Addr) (dv : Nat) (w : World) (hmv : SRow w .u32 Av v.mag cv) (hsv : SRow w .u16 Bv v.s dv) : Calls Try.prog 8 #[vv v Av cv Bv dv] w (IsRet (vv v Av cv Bv dv) w) := by
  refine enter_abs Try.func8 rfl fun a0 hs0 hd0 hp => ?_
  have hs0 : a0.tmps.size = 14 := hs0
  have hN0 : New w w := Upd.refl _ _
  have hp0 : a0.eval (.tmp 0) = vv v Av cv Bv dv := hp 0 _ rfl
  refine wp_seq_k fun K1 hK1 => ?_
  refine wp_g [true, true] [] [] 14
    [IsNew w 29 [iv v.k, iv v.nk, iv v.nn, .bool v.neg, sv Av v.mag cv, sv Bv v.s dv, iv v.ref],
     IsNew w 32 [iv 0, iv 0, iv 0, .bool false, sv none ([]) 0, sv none ([]) 0, iv 0]]
    [0, 1] (newsCons (fun v w h => IsNew.old h) (newsCons (fun v w h => IsNew.old h) newsNil)) hs0 (.nw (.nw (.nil))) ?_ (fun i h => by cases h) ?_
  refine .o2 (step_allocN (cs := [iv v.k, iv v.nk, iv v.nn, .bool v.neg, sv Av v.mag cv, sv Bv v.s dv, iv v.ref]) (t := 29) rfl (noG rfl) (fun _ w hn k => v_box rfl (k.fx 0 hp0) (fun w => rfl)) (fun q _ hq hb => ⟨q, rfl, hq, hb⟩)) ?_
  refine .o2 (step_allocN (cs := [iv 0, iv 0, iv 0, .bool false, sv none ([]) 0, sv none ([]) 0, iv 0]) (t := 32) rfl (noG rfl) (fun _ w hn k => rfl) (fun q _ hq hb => ⟨q, rfl, hq, hb⟩)) ?_
  exact .nil
  intro a2 w3 hn4 ha5
  obtain ⟨hs6, hd7, hN19⟩ := aft ha5 hs0 hd0 hN0 hn4
  obtain ⟨q9, h8, hq10, hb11⟩ : IsNew _ _ _ _ _ := ha5.got 0 1 rfl (by kernel_rfl)
  obtain ⟨q13, h12, hq14, hb15⟩ : IsNew _ _ _ _ _ := ha5.got 1 2 rfl (by kernel_rfl)
  have hne16 : q9 ≠ q13 := ha5.ne 0 1 1 2 h8 h12
  have hq17 := Nat.le_trans hN0.size hq10
  have hq18 := Nat.le_trans hN0.size hq14
  refine st_nil (hK1 _ _ ?_)
  refine wp_seq_k fun K20 hK20 => ?_
  refine wp_g0 [true, true, true, true, true, true, true, true, true, true, true, false] [(11, false)] 14
    [ve (pv q9),
     ve (iv v.k),
     ve (.pointer (some ⟨q9, 1, none⟩)),
     ve (nv (Nm.mk v.nk v.nn)),
     ve (.pointer (some ⟨q9, 3, none⟩)),
     ve (.agg #[.bool v.neg, sv Av v.mag cv]),
     ve (.pointer (some ⟨q9, 5, none⟩)),
     ve (sv Bv v.s dv),
     ve (.pointer (some ⟨q9, 6, none⟩)),
     ve (iv v.ref),
     ve (vv v Av cv Bv dv),
     vt] hs6 (.eq (.eq (.eq (.eq (.eq (.eq (.eq (.eq (.eq (.eq (.eq (.tt (.nil))))))))))))) ?_ ?_
  refine .o1 (tk rfl rfl fun _ w hn k => ⟨_, v_field rfl (k.fx 1 h8) (fun w => rfl), rfl⟩) ?_
  refine .o1 (tk rfl rfl fun _ w hn k => ⟨_, v_load rfl (k.eq1 0 3 rfl) (l_one Try.isAgg3 ((hb11.new_ hn).cell 0)), rfl⟩) ?_
  refine .o1 (tk rfl rfl fun _ w hn k => ⟨_, v_field rfl (k.fx 1 h8) (fun w => rfl), rfl⟩) ?_
  refine .o1 (tk rfl rfl fun _ w hn k => ⟨_, v_load rfl (k.eq1 2 5 rfl) (l_part Try.isAgg23 Try.sizeOf23 (hb11.new_ hn) (Nat.le_of_ble_eq_true rfl)), rfl⟩) ?_
  refine .o1 (tk rfl rfl fun _ w hn k => ⟨_, v_field rfl (k.fx 1 h8) (fun w => rfl), rfl⟩) ?_
  refine .o1 (tk rfl rfl fun _ w hn k => ⟨_, v_load rfl (k.eq1 4 7 rfl) (l_part Try.isAgg26 Try.sizeOf26 (hb11.new_ hn) (Nat.le_of_ble_eq_true rfl)), rfl⟩) ?_
  refine .o1 (tk rfl rfl fun _ w hn k => ⟨_, v_field rfl (k.fx 1 h8) (fun w => rfl), rfl⟩) ?_
  refine .o1 (tk rfl rfl fun _ w hn k => ⟨_, v_load rfl (k.eq1 6 9 rfl) (l_one Try.isAgg27 ((hb11.new_ hn).cell 5)), rfl⟩) ?_
  refine .o1 (tk rfl rfl fun _ w hn k => ⟨_, v_field rfl (k.fx 1 h8) (fun w => rfl), rfl⟩) ?_
  refine .o1 (tk rfl rfl fun _ w hn k => ⟨_, v_load rfl (k.eq1 8 11 rfl) (l_one Try.isAgg3 ((hb11.new_ hn).cell 6)), rfl⟩) ?_
  refine .o1 (tk rfl rfl fun _ w hn k => ⟨_, v_build (ps := [(0, iv v.k), (1, nv (Nm.mk v.nk v.nn)), (2, .agg #[.bool v.neg, sv Av v.mag cv]), (3, sv Bv v.s dv), (4, iv v.ref)]) rfl (parts5 (k.eq1 1 4 rfl) (k.eq1 3 6 rfl) (k.eq1 5 8 rfl) (k.eq1 7 10 rfl) (k.eq1 9 12 rfl)) (by kernel_rfl), rfl⟩) ?_
  refine .off ?_
  exact .nil
  intro a21 w22 hn23 ha24
  obtain ⟨hs25, hd26, hN30⟩ := aft ha24 hs6 hd7 hN19 hn23
  have h27 := ha24.fx 2 h12
  have h28 := ha24.ge 10 13 rfl
  have hb29 := hb15.new_ hn23
  obtain ⟨w31, hst32, hb330, hu34, hf35⟩ := s_many (P := Try.prog) (t := 32) (i := 0) [iv v.k, iv v.nk, iv v.nn, .bool v.neg, sv Av v.mag cv, sv Bv v.s dv, iv v.ref] Try.sizeOf32 rfl rfl rfl hb29 (Nat.le_of_ble_eq_true rfl)
  have hb33 : Blk w31 q13 32 [iv v.k, iv v.nk, iv v.nn, .bool v.neg, sv Av v.mag cv, sv Bv v.s dv, iv v.ref] := hb330
  refine st_act rfl rfl fun K36 hL37 => a_store' rfl h27 h28 hst32 (hL37 _ _ trivial ?_)
  have hN38 := hN30.trans hu34 (fun k hk hkb => by subst hkb; omega)
  refine st_nil (hK20 _ _ ?_)
  refine wp_ret (ret_k hd26 (v := vv v Av cv Bv dv) (res_c rfl h27 (l_agg Try.isAgg32 Try.sizeOf32 hb33 rfl)) ?_)
  exact ⟨rfl, hN38⟩
set_option maxHeartbeats 4000000 in
set_option maxRecDepth 100000 in
theorem is_c (v : Vl) (Av : Option Addr) (cv : Nat) (Bv : Option Addr) (dv : Nat) (u : Vl) (Au : Option Addr) (cu : Nat) (Bu : Option Addr) (du : Nat) (w : World) (hmv : SRow w .u32 Av v.mag cv) (hsv : SRow w .u16 Bv v.s dv) (hmu : SRow w .u32 Au u.mag cu) (hsu : SRow w .u16 Bu u.s du) : Calls Try.prog 19 #[vv v Av cv Bv dv, vv u Au cu Bu du] w (IsRet (.bool (sameV v u)) w) := by
  refine enter_abs Try.func19 rfl fun a0 hs0 hd0 hp => ?_
  have hs0 : a0.tmps.size = 9 := hs0
  have hN0 : New w w := Upd.refl _ _
  have hp0 : a0.eval (.tmp 0) = vv v Av cv Bv dv := hp 0 _ rfl
  have hp1 : a0.eval (.tmp 1) = vv u Au cu Bu du := hp 1 _ rfl
  refine wp_seq_k fun K1 hK1 => ?_
  refine wp_g [true, true, true] [] [] 9
    [IsNew w 29 [iv v.k, iv v.nk, iv v.nn, .bool v.neg, sv Av v.mag cv, sv Bv v.s dv, iv v.ref],
     IsNew w 32 [iv u.k, iv u.nk, iv u.nn, .bool u.neg, sv Au u.mag cu, sv Bu u.s du, iv u.ref],
     ve (.bool false)]
    [0, 1] (newsCons (fun v w h => IsNew.old h) (newsCons (fun v w h => IsNew.old h) newsNil)) hs0 (.nw (.nw (.eq (.nil)))) ?_ (fun i h => by cases h) ?_
  refine .o2 (step_allocN (cs := [iv v.k, iv v.nk, iv v.nn, .bool v.neg, sv Av v.mag cv, sv Bv v.s dv, iv v.ref]) (t := 29) rfl (noG rfl) (fun _ w hn k => v_box rfl (k.fx 0 hp0) (fun w => rfl)) (fun q _ hq hb => ⟨q, rfl, hq, hb⟩)) ?_
  refine .o2 (step_allocN (cs := [iv u.k, iv u.nk, iv u.nn, .bool u.neg, sv Au u.mag cu, sv Bu u.s du, iv u.ref]) (t := 32) rfl (noG rfl) (fun _ w hn k => v_box rfl (k.fx 1 hp1) (fun w => rfl)) (fun q _ hq hb => ⟨q, rfl, hq, hb⟩)) ?_
  refine .o1 (tk rfl rfl fun _ w hn k => ⟨_, v_assign rfl rfl, rfl⟩) ?_
  exact .nil
  intro a2 w3 hn4 ha5
  obtain ⟨hs6, hd7, hN18⟩ := aft ha5 hs0 hd0 hN0 hn4
  obtain ⟨q9, h8, hq10, hb11⟩ : IsNew _ _ _ _ _ := ha5.got 0 2 rfl (by kernel_rfl)
  obtain ⟨q13, h12, hq14, hb15⟩ : IsNew _ _ _ _ _ := ha5.got 1 3 rfl (by kernel_rfl)
  have hq16 := Nat.le_trans hN0.size hq10
  have hq17 := Nat.le_trans hN0.size hq14
  refine st_nil (hK1 _ _ ?_)
  refine wp_seq_k fun K19 hK19 => ?_
  refine wp_g0 [true, true, true, true, true] [] 9
    [ve (vv v Av cv Bv dv),
     ve (vv v Av cv Bv dv),
     ve (vv u Au cu Bu du),
     ve (.bool (sameV v u)),
     ve (.bool (sameV v u))] hs6 (.eq (.eq (.eq (.eq (.eq (.nil)))))) ?_ ?_
  refine .o1 (tk rfl rfl fun _ w hn k => ⟨_, v_load rfl (k.fx 2 h8) (l_agg Try.isAgg29 Try.sizeOf29 (hb11.new_ hn) rfl), rfl⟩) ?_
  refine .o1 (ck rfl rfl rfl (fun _ w hn k => ⟨#[vv v Av cv Bv dv], args1 (k.eq1 0 5 rfl), fun _ => by kernel_rfl, plain_c v _ _ _ _ _ (hmv.new_ (hN18.transNew hn)) (hsv.new_ (hN18.transNew hn))⟩) fun _ => rfl) ?_
  refine .o1 (tk rfl rfl fun _ w hn k => ⟨_, v_load rfl (k.fx 3 h12) (l_agg Try.isAgg32 Try.sizeOf32 (hb15.new_ hn) rfl), rfl⟩) ?_
  refine .o1 (ck rfl rfl rfl (fun _ w hn k => ⟨#[vv v Av cv Bv dv, vv u Au cu Bu du], args2 (k.eq1 1 6 rfl) (k.eq1 2 7 rfl), fun _ => by kernel_rfl, qsame_c v _ _ _ _ u _ _ _ _ _ (hmv.new_ (hN18.transNew hn)) (hsv.new_ (hN18.transNew hn)) (hmu.new_ (hN18.transNew hn)) (hsu.new_ (hN18.transNew hn))⟩) fun _ => rfl) ?_
  refine .o1 (tk rfl rfl fun _ w hn k => ⟨_, v_assign rfl (k.eq1 3 8 rfl), rfl⟩) ?_
  exact .nil
  intro a20 w21 hn22 ha23
  obtain ⟨hs24, hd25, hN27⟩ := aft ha23 hs6 hd7 hN18 hn22
  have h26 := ha23.ge 4 4 rfl
  refine st_nil (hK19 _ _ ?_)
  refine wp_ret (ret_k hd25 (v := .bool (sameV v u)) (res_t rfl h26 _) ?_)
  exact ⟨rfl, hN27⟩
def lstr_c_P (s : ByteArray) (w : World) (en : Ending) (w' : World) : Prop := ∃ (Ar0 : Option Addr) (cr0 : Nat), en = .returned (vv (Vl.mk 5 0 0 false [] (asc s) 0) none 0 Ar0 cr0) ∧ SRow w' .u16 Ar0 (asc s) cr0 ∧ New w w'
set_option maxHeartbeats 4000000 in
set_option maxRecDepth 100000 in
theorem lstr_c (s : ByteArray) (w : World) (hs : s.size ≤ 1000000) : Calls Try.prog 15 #[.string s] w (lstr_c_P s w) := by
  refine enter_abs Try.func15 rfl fun a0 hs0 hd0 hp => ?_
  have hs0 : a0.tmps.size = 6 := hs0
  have hN0 : New w w := Upd.refl _ _
  have hp0 : a0.eval (.tmp 0) = .string s := hp 0 _ rfl
  refine wp_seq_k fun K1 hK1 => ?_
  refine wp_g [true] [] [] 6
    [IsNew w 29 [iv 0, iv 0, iv 0, .bool false, sv none ([]) 0, sv none ([]) 0, iv 0]]
    [0] (newsCons (fun v w h => IsNew.old h) newsNil) hs0 (.nw (.nil)) ?_ (fun i h => by cases h) ?_
  refine .o2 (step_allocN (cs := [iv 0, iv 0, iv 0, .bool false, sv none ([]) 0, sv none ([]) 0, iv 0]) (t := 29) rfl (noG rfl) (fun _ w hn k => rfl) (fun q _ hq hb => ⟨q, rfl, hq, hb⟩)) ?_
  exact .nil
  intro a2 w3 hn4 ha5
  obtain ⟨hs6, hd7, hN14⟩ := aft ha5 hs0 hd0 hN0 hn4
  have h8 := ha5.fx 0 hp0
  obtain ⟨q10, h9, hq11, hb12⟩ : IsNew _ _ _ _ _ := ha5.got 0 2 rfl (by kernel_rfl)
  have hq13 := Nat.le_trans hN0.size hq11
  refine st_nil (hK1 _ _ ?_)
  refine wp_seq_k fun K15 hK15 => ?_
  refine wp_g0 [true, true, true, false] [(3, false)] 6
    [ve (.string s),
     (fun (v_ : Value) (W : World) => ∃ (A3 : Option Addr) (c4 : Nat), v_ = sv A3 (asc s) c4 ∧ SOwn W w3.heap.size 66 .u16 A3 (asc s) c4),
     (fun (v_ : Value) (W : World) => ∃ (A9 : Option Addr) (c10 : Nat), v_ = vv (Vl.mk 5 0 0 false [] (asc s) 0) none 0 A9 c10 ∧ SOwn W w3.heap.size 66 .u16 A9 (asc s) c10),
     vt] hs6 (.eq (.cons (fun v W W' hn ⟨A3, c4, he, h0⟩ => ⟨A3, c4, he, h0.new_ hn⟩) (.cons (fun v W W' hn ⟨A9, c10, he, h0⟩ => ⟨A9, c10, he, h0.new_ hn⟩) (.tt (.nil))))) ?_ ?_
  refine .o1 (tk rfl rfl fun _ w hn k => ⟨_, v_move rfl (k.fx 0 h8), rfl⟩) ?_
  refine .o1 (tkC rfl (noG rfl) rfl fun _ w hn k => (by
        refine ⟨#[.string s], _, args1 (k.eq1 0 3 rfl), fun w => by kernel_rfl, rascii_c s _ (by first | omega | (show (_ : Nat) ≤ _; decide)), ?_⟩
        rintro e w' ⟨A1, c2, rfl, hmo0, hm⟩
        exact ⟨_, rfl, hm, ⟨A1, c2, rfl, (hmo0.more hn.size)⟩⟩)) ?_
  refine .o1 (tk rfl rfl fun _ w hn k => (by
        obtain ⟨A5, c6, e7, hx8⟩ : (fun (v_ : Value) (W : World) => ∃ (A3 : Option Addr) (c4 : Nat), v_ = sv A3 (asc s) c4 ∧ SOwn W w3.heap.size 66 .u16 A3 (asc s) c4) _ _ := k.dep 1 4 (by kernel_rfl) (by kernel_rfl)
        exact ⟨_, v_build (ps := [(0, iv 5), (3, sv A5 (asc s) c6)]) rfl (parts2 rfl e7) (by kernel_rfl), ⟨A5, c6, rfl, hx8⟩⟩)) ?_
  refine .off ?_
  exact .nil
  intro a16 w17 hn18 ha19
  obtain ⟨hs20, hd21, hN29⟩ := aft ha19 hs6 hd7 hN14 hn18
  have h22 := ha19.fx 2 h9
  obtain ⟨A24, cc25, h23, hr26⟩ : (fun (v_ : Value) (W : World) => ∃ (A9 : Option Addr) (c10 : Nat), v_ = vv (Vl.mk 5 0 0 false [] (asc s) 0) none 0 A9 c10 ∧ SOwn W w3.heap.size 66 .u16 A9 (asc s) c10) _ _ := ha19.got 2 5 rfl (by kernel_rfl)
  have h23 : a16.eval (.tmp 5) = vv (Vl.mk 5 0 0 false [] (asc s) 0) none 0 A24 cc25 := h23
  have hb27 := hb12.new_ hn18
  have hr28 := hr26.more hN14.size
  obtain ⟨w30, hst31, hb320, hu33, hf34⟩ := s_many (P := Try.prog) (t := 29) (i := 0) [iv 5, iv 0, iv 0, .bool false, sv none ([]) 0, sv A24 (asc s) cc25, iv 0] Try.sizeOf29 rfl rfl rfl hb27 (Nat.le_of_ble_eq_true rfl)
  have hb32 : Blk w30 q10 29 [iv 5, iv 0, iv 0, .bool false, sv none ([]) 0, sv A24 (asc s) cc25, iv 0] := hb320
  refine st_act rfl rfl fun K35 hL36 => a_store' rfl h22 h23 hst31 (hL36 _ _ trivial ?_)
  have hr37 := hr28.far hb27 hu33 (by decide)
  have hN38 := hN29.trans hu33 (fun k hk hkb => by subst hkb; omega)
  refine st_nil (hK15 _ _ ?_)
  refine wp_ret (ret_k hd21 (v := vv (Vl.mk 5 0 0 false [] (asc s) 0) none 0 A24 cc25) (res_c rfl h22 (l_agg Try.isAgg29 Try.sizeOf29 hb32 rfl)) ?_)
  exact ⟨A24, cc25, rfl, hr37.row, hN38⟩
set_option maxHeartbeats 4000000 in
set_option maxRecDepth 100000 in
theorem lwhole_c (n : Int) (w : World) : Calls Try.prog 14 #[iv n] w (IsRet (vv (Vl.mk 3 0 n false [] [] 0) none 0 none 0) w) := by
  refine enter_abs Try.func14 rfl fun a0 hs0 hd0 hp => ?_
  have hs0 : a0.tmps.size = 6 := hs0
  have hN0 : New w w := Upd.refl _ _
  have hp0 : a0.eval (.tmp 0) = iv n := hp 0 _ rfl
  refine wp_seq_k fun K1 hK1 => ?_
  refine wp_g [true] [] [] 6
    [IsNew w 29 [iv 0, iv 0, iv 0, .bool false, sv none ([]) 0, sv none ([]) 0, iv 0]]
    [0] (newsCons (fun v w h => IsNew.old h) newsNil) hs0 (.nw (.nil)) ?_ (fun i h => by cases h) ?_
  refine .o2 (step_allocN (cs := [iv 0, iv 0, iv 0, .bool false, sv none ([]) 0, sv none ([]) 0, iv 0]) (t := 29) rfl (noG rfl) (fun _ w hn k => rfl) (fun q _ hq hb => ⟨q, rfl, hq, hb⟩)) ?_
  exact .nil
  intro a2 w3 hn4 ha5
  obtain ⟨hs6, hd7, hN14⟩ := aft ha5 hs0 hd0 hN0 hn4
  have h8 := ha5.fx 0 hp0
  obtain ⟨q10, h9, hq11, hb12⟩ : IsNew _ _ _ _ _ := ha5.got 0 2 rfl (by kernel_rfl)
  have hq13 := Nat.le_trans hN0.size hq11
  refine st_nil (hK1 _ _ ?_)
  refine wp_seq_k fun K15 hK15 => ?_
  refine wp_g0 [true, true, true, false] [(3, false)] 6
    [ve (iv n),
     ve (nv (Nm.mk 0 n)),
     ve (vv (Vl.mk 3 0 n false [] [] 0) none 0 none 0),
     vt] hs6 (.eq (.eq (.eq (.tt (.nil))))) ?_ ?_
  refine .o1 (tk rfl rfl fun _ w hn k => ⟨_, v_move rfl (k.fx 0 h8), rfl⟩) ?_
  refine .o1 (tk rfl rfl fun _ w hn k => ⟨_, v_build (ps := [(1, iv n)]) rfl (parts1 (k.eq1 0 3 rfl)) (by kernel_rfl), rfl⟩) ?_
  refine .o1 (tk rfl rfl fun _ w hn k => ⟨_, v_build (ps := [(0, iv 3), (1, nv (Nm.mk 0 n))]) rfl (parts2 rfl (k.eq1 1 4 rfl)) (by kernel_rfl), rfl⟩) ?_
  refine .off ?_
  exact .nil
  intro a16 w17 hn18 ha19
  obtain ⟨hs20, hd21, hN25⟩ := aft ha19 hs6 hd7 hN14 hn18
  have h22 := ha19.fx 2 h9
  have h23 := ha19.ge 2 5 rfl
  have hb24 := hb12.new_ hn18
  obtain ⟨w26, hst27, hb280, hu29, hf30⟩ := s_many (P := Try.prog) (t := 29) (i := 0) [iv 3, iv 0, iv n, .bool false, sv none ([]) 0, sv none ([]) 0, iv 0] Try.sizeOf29 rfl rfl rfl hb24 (Nat.le_of_ble_eq_true rfl)
  have hb28 : Blk w26 q10 29 [iv 3, iv 0, iv n, .bool false, sv none ([]) 0, sv none ([]) 0, iv 0] := hb280
  refine st_act rfl rfl fun K31 hL32 => a_store' rfl h22 h23 hst27 (hL32 _ _ trivial ?_)
  have hN33 := hN25.trans hu29 (fun k hk hkb => by subst hkb; omega)
  refine st_nil (hK15 _ _ ?_)
  refine wp_ret (ret_k hd21 (v := vv (Vl.mk 3 0 n false [] [] 0) none 0 none 0) (res_c rfl h22 (l_agg Try.isAgg29 Try.sizeOf29 hb28 rfl)) ?_)
  exact ⟨rfl, hN33⟩
def lbig_c_P (x : Nat) (w : World) (en : Ending) (w' : World) : Prop := ∃ (Ar0 : Option Addr) (cr0 : Nat), en = .returned (vv (Vl.mk 4 0 0 false [x] [] 0) Ar0 cr0 none 0) ∧ SRow w' .u32 Ar0 ([x]) cr0 ∧ New w w'
set_option maxHeartbeats 4000000 in
set_option maxRecDepth 100000 in
theorem lbig_c (x : Nat) (w : World) (hx : x < 4294967296) : Calls Try.prog 27 #[.int .u32 (x : Int)] w (lbig_c_P x w) := by
  refine enter_abs Try.func27 rfl fun a0 hs0 hd0 hp => ?_
  have hs0 : a0.tmps.size = 7 := hs0
  have hN0 : New w w := Upd.refl _ _
  have hp0 : a0.eval (.tmp 0) = .int .u32 (x : Int) := hp 0 _ rfl
  refine wp_seq_k fun K1 hK1 => ?_
  refine wp_g [true] [] [] 7
    [IsNew w 29 [iv 0, iv 0, iv 0, .bool false, sv none ([]) 0, sv none ([]) 0, iv 0]]
    [0] (newsCons (fun v w h => IsNew.old h) newsNil) hs0 (.nw (.nil)) ?_ (fun i h => by cases h) ?_
  refine .o2 (step_allocN (cs := [iv 0, iv 0, iv 0, .bool false, sv none ([]) 0, sv none ([]) 0, iv 0]) (t := 29) rfl (noG rfl) (fun _ w hn k => rfl) (fun q _ hq hb => ⟨q, rfl, hq, hb⟩)) ?_
  exact .nil
  intro a2 w3 hn4 ha5
  obtain ⟨hs6, hd7, hN14⟩ := aft ha5 hs0 hd0 hN0 hn4
  have h8 := ha5.fx 0 hp0
  obtain ⟨q10, h9, hq11, hb12⟩ : IsNew _ _ _ _ _ := ha5.got 0 2 rfl (by kernel_rfl)
  have hq13 := Nat.le_trans hN0.size hq11
  refine st_nil (hK1 _ _ ?_)
  refine wp_seq_k fun K15 hK15 => ?_
  refine wp_g0 [true, true, true, true, false] [(4, false)] 7
    [ve (.int .u32 (x : Int)),
     (fun (v_ : Value) (W : World) => ∃ (A3 : Option Addr) (c4 : Nat), v_ = sv A3 ([x]) c4 ∧ SOwn W w3.heap.size 56 .u32 A3 ([x]) c4),
     (fun (v_ : Value) (W : World) => ∃ (A9 : Option Addr) (c10 : Nat), v_ = .agg #[.bool false, sv A9 ([x]) c10] ∧ SOwn W w3.heap.size 56 .u32 A9 ([x]) c10),
     (fun (v_ : Value) (W : World) => ∃ (A15 : Option Addr) (c16 : Nat), v_ = vv (Vl.mk 4 0 0 false [x] [] 0) A15 c16 none 0 ∧ SOwn W w3.heap.size 56 .u32 A15 ([x]) c16),
     vt] hs6 (.eq (.cons (fun v W W' hn ⟨A3, c4, he, h0⟩ => ⟨A3, c4, he, h0.new_ hn⟩) (.cons (fun v W W' hn ⟨A9, c10, he, h0⟩ => ⟨A9, c10, he, h0.new_ hn⟩) (.cons (fun v W W' hn ⟨A15, c16, he, h0⟩ => ⟨A15, c16, he, h0.new_ hn⟩) (.tt (.nil)))))) ?_ ?_
  refine .o1 (tk rfl rfl fun _ w hn k => ⟨_, v_move rfl (k.fx 0 h8), rfl⟩) ?_
  refine .o1 (tkA rfl (noG rfl) fun _ w hn k => (by
        exact x_bslice (k := .u32) (ps := [(0, .int .u32 (x : Int))]) [x] rfl (parts1 (k.eq1 0 3 rfl)) elW rfl (by omega) (by omega) (by first | kernel_rfl | (simp only [enc, List.map_cons, List.map_nil, Int.toNat_natCast, Int.toNat_of_nonneg (by omega : (0 : Int) ≤ _)]; kernel_rfl)) fun A1 c2 W' hmo => ⟨A1, c2, rfl, (hmo.more hn.size)⟩)) ?_
  refine .o1 (tk rfl rfl fun _ w hn k => (by
        obtain ⟨A5, c6, e7, hx8⟩ : (fun (v_ : Value) (W : World) => ∃ (A3 : Option Addr) (c4 : Nat), v_ = sv A3 ([x]) c4 ∧ SOwn W w3.heap.size 56 .u32 A3 ([x]) c4) _ _ := k.dep 1 4 (by kernel_rfl) (by kernel_rfl)
        exact ⟨_, v_build (ps := [(1, sv A5 ([x]) c6)]) rfl (parts1 e7) (by kernel_rfl), ⟨A5, c6, rfl, hx8⟩⟩)) ?_
  refine .o1 (tk rfl rfl fun _ w hn k => (by
        obtain ⟨A11, c12, e13, hx14⟩ : (fun (v_ : Value) (W : World) => ∃ (A9 : Option Addr) (c10 : Nat), v_ = .agg #[.bool false, sv A9 ([x]) c10] ∧ SOwn W w3.heap.size 56 .u32 A9 ([x]) c10) _ _ := k.dep 2 5 (by kernel_rfl) (by kernel_rfl)
        exact ⟨_, v_build (ps := [(0, iv 4), (2, .agg #[.bool false, sv A11 ([x]) c12])]) rfl (parts2 rfl e13) (by kernel_rfl), ⟨A11, c12, rfl, hx14⟩⟩)) ?_
  refine .off ?_
  exact .nil
  intro a16 w17 hn18 ha19
  obtain ⟨hs20, hd21, hN29⟩ := aft ha19 hs6 hd7 hN14 hn18
  have h22 := ha19.fx 2 h9
  obtain ⟨A24, cc25, h23, hr26⟩ : (fun (v_ : Value) (W : World) => ∃ (A15 : Option Addr) (c16 : Nat), v_ = vv (Vl.mk 4 0 0 false [x] [] 0) A15 c16 none 0 ∧ SOwn W w3.heap.size 56 .u32 A15 ([x]) c16) _ _ := ha19.got 3 6 rfl (by kernel_rfl)
  have h23 : a16.eval (.tmp 6) = vv (Vl.mk 4 0 0 false [x] [] 0) A24 cc25 none 0 := h23
  have hb27 := hb12.new_ hn18
  have hr28 := hr26.more hN14.size
  obtain ⟨w30, hst31, hb320, hu33, hf34⟩ := s_many (P := Try.prog) (t := 29) (i := 0) [iv 4, iv 0, iv 0, .bool false, sv A24 ([x]) cc25, sv none ([]) 0, iv 0] Try.sizeOf29 rfl rfl rfl hb27 (Nat.le_of_ble_eq_true rfl)
  have hb32 : Blk w30 q10 29 [iv 4, iv 0, iv 0, .bool false, sv A24 ([x]) cc25, sv none ([]) 0, iv 0] := hb320
  refine st_act rfl rfl fun K35 hL36 => a_store' rfl h22 h23 hst31 (hL36 _ _ trivial ?_)
  have hr37 := hr28.far hb27 hu33 (by decide)
  have hN38 := hN29.trans hu33 (fun k hk hkb => by subst hkb; omega)
  refine st_nil (hK15 _ _ ?_)
  refine wp_ret (ret_k hd21 (v := vv (Vl.mk 4 0 0 false [x] [] 0) A24 cc25 none 0) (res_c rfl h22 (l_agg Try.isAgg29 Try.sizeOf29 hb32 rfl)) ?_)
  exact ⟨A24, cc25, rfl, hr37.row, hN38⟩
theorem VOk.str (s : ByteArray) (h : s.size ≤ 20000) : VOk ⟨5, 0, 0, false, [], asc s, 0⟩ := ⟨Limbs.nil, U16s.asc s, Nat.zero_le _, by rw [asc_len]; exact h, (show (-9223372036854775808 : Int) ≤ 0 by decide), (show (0 : Int) ≤ 9223372036854775807 by decide), (show (-9223372036854775808 : Int) ≤ 0 by decide), (show (0 : Int) ≤ 9223372036854775807 by decide)⟩
theorem VOk.whole {n : Int} (h1 : -9223372036854775808 ≤ n) (h2 : n ≤ 9223372036854775807) : VOk ⟨3, 0, n, false, [], [], 0⟩ := ⟨Limbs.nil, U16s.nil, Nat.zero_le _, Nat.zero_le _, h1, h2, (show (-9223372036854775808 : Int) ≤ 0 by decide), (show (0 : Int) ≤ 9223372036854775807 by decide)⟩
theorem VOk.big {x : Nat} (h : x < 4294967296) : VOk ⟨4, 0, 0, false, [x], [], 0⟩ := ⟨Limbs.cons h Limbs.nil, U16s.nil, (show (1 : Nat) ≤ 40 by decide), Nat.zero_le _, (show (-9223372036854775808 : Int) ≤ 0 by decide), (show (0 : Int) ≤ 9223372036854775807 by decide), (show (-9223372036854775808 : Int) ≤ 0 by decide), (show (0 : Int) ≤ 9223372036854775807 by decide)⟩
theorem VOk.null : VOk ⟨1, 0, 0, false, [], [], 0⟩ := ⟨Limbs.nil, U16s.nil, by decide, by decide, by decide, by decide, by decide, by decide⟩
theorem VOk.truth (t : Bool) : VOk (truthV t) := by cases t <;> exact ⟨Limbs.nil, U16s.nil, by decide, by decide, by decide, by decide, by decide, by decide⟩
theorem sameV_self (v : Vl) : sameV v v = true := by simp [sameV]
theorem strV_may (u : List Nat) : mayV (strV u) = true := by
  have h : (u.take 4096).length ≤ 4096 := by rw [List.length_take]; omega
  unfold mayV
  simp [strV, zeroV]
  omega
theorem boolV_truth (t : Bool) : boolV (truthV t) = t := by cases t <;> decide
set_option maxRecDepth 100000 in
theorem first_n1 (A0 : Option Addr) (c0 : Nat) (B0 : Option Addr) (d0 : Nat) (w : World) (hm0 : SRow w .u32 A0 [] c0) (hs0 : SRow w .u16 B0 (asc ⟨#[49, 50]⟩) d0) : Calls Try.prog 26 #[vv (Vl.mk 5 0 0 false [] (asc ⟨#[49, 50]⟩) 0) A0 c0 B0 d0] w (IsRet (.tuple #[nv (Nm.mk 0 12), iv 0]) w) := by
  have h := cnumber_c (Vl.mk 5 0 0 false [] (asc ⟨#[49, 50]⟩) 0) A0 c0 B0 d0 w hm0 hs0 (VOk.str ⟨#[49, 50]⟩ (by first | omega | decide))
  rw [show numberV (Vl.mk 5 0 0 false [] (asc ⟨#[49, 50]⟩) 0) = (⟨0, 12⟩, 0) from by decide +kernel] at h
  exact h
set_option maxRecDepth 100000 in
theorem first_n2 (A0 : Option Addr) (c0 : Nat) (B0 : Option Addr) (d0 : Nat) (w : World) (hm0 : SRow w .u32 A0 [] c0) (hs0 : SRow w .u16 B0 (asc ⟨#[49, 46, 53]⟩) d0) : Calls Try.prog 26 #[vv (Vl.mk 5 0 0 false [] (asc ⟨#[49, 46, 53]⟩) 0) A0 c0 B0 d0] w (IsRet (.tuple #[nv (Nm.mk 0 0), iv 3]) w) := by
  have h := cnumber_c (Vl.mk 5 0 0 false [] (asc ⟨#[49, 46, 53]⟩) 0) A0 c0 B0 d0 w hm0 hs0 (VOk.str ⟨#[49, 46, 53]⟩ (by first | omega | decide))
  rw [show numberV (Vl.mk 5 0 0 false [] (asc ⟨#[49, 46, 53]⟩) 0) = (⟨0, 0⟩, 3) from by decide +kernel] at h
  exact h
set_option maxRecDepth 100000 in
theorem first_n3 (A0 : Option Addr) (c0 : Nat) (B0 : Option Addr) (d0 : Nat) (w : World) (hm0 : SRow w .u32 A0 [5] c0) (hs0 : SRow w .u16 B0 [] d0) : Calls Try.prog 26 #[vv (Vl.mk 4 0 0 false [5] [] 0) A0 c0 B0 d0] w (IsRet (.tuple #[nv (Nm.mk 0 0), iv 1]) w) := by
  have h := cnumber_c (Vl.mk 4 0 0 false [5] [] 0) A0 c0 B0 d0 w hm0 hs0 (VOk.big (by omega))
  rw [show numberV (Vl.mk 4 0 0 false [5] [] 0) = (⟨0, 0⟩, 1) from by decide +kernel] at h
  exact h
set_option maxRecDepth 100000 in
theorem first_l2 (A0 : Option Addr) (c0 : Nat) (B0 : Option Addr) (d0 : Nat) (A1 : Option Addr) (c1 : Nat) (B1 : Option Addr) (d1 : Nat) (w : World) (hm0 : SRow w .u32 A0 [2] c0) (hs0 : SRow w .u16 B0 [] d0) (hm1 : SRow w .u32 A1 [] c1) (hs1 : SRow w .u16 B1 [] d1) : Calls Try.prog 9 #[vv (Vl.mk 4 0 0 false [2] [] 0) A0 c0 B0 d0, vv (Vl.mk 3 0 2 false [] [] 0) A1 c1 B1 d1] w (IsRet (.tuple #[.bool true, iv 0]) w) := by
  have h := cloose_c (Vl.mk 4 0 0 false [2] [] 0) A0 c0 B0 d0 (Vl.mk 3 0 2 false [] [] 0) A1 c1 B1 d1 w hm0 hs0 hm1 hs1 (VOk.big (by omega)) (VOk.whole (by omega) (by omega))
  rw [show looseV (Vl.mk 4 0 0 false [2] [] 0) (Vl.mk 3 0 2 false [] [] 0) = (true, 0) from by decide +kernel] at h
  exact h
set_option maxRecDepth 100000 in
theorem first_l3 (A0 : Option Addr) (c0 : Nat) (B0 : Option Addr) (d0 : Nat) (A1 : Option Addr) (c1 : Nat) (B1 : Option Addr) (d1 : Nat) (w : World) (hm0 : SRow w .u32 A0 [] c0) (hs0 : SRow w .u16 B0 [] d0) (hm1 : SRow w .u32 A1 [] c1) (hs1 : SRow w .u16 B1 [] d1) : Calls Try.prog 9 #[vv (Vl.mk 1 0 0 false [] [] 0) A0 c0 B0 d0, vv (Vl.mk 3 0 0 false [] [] 0) A1 c1 B1 d1] w (IsRet (.tuple #[.bool false, iv 0]) w) := by
  have h := cloose_c (Vl.mk 1 0 0 false [] [] 0) A0 c0 B0 d0 (Vl.mk 3 0 0 false [] [] 0) A1 c1 B1 d1 w hm0 hs0 hm1 hs1 VOk.null (VOk.whole (by omega) (by omega))
  rw [show looseV (Vl.mk 1 0 0 false [] [] 0) (Vl.mk 3 0 0 false [] [] 0) = (false, 0) from by decide +kernel] at h
  exact h
set_option maxRecDepth 100000 in
theorem first_l1 (A0 : Option Addr) (c0 : Nat) (B0 : Option Addr) (d0 : Nat) (A1 : Option Addr) (c1 : Nat) (B1 : Option Addr) (d1 : Nat) (w : World) (hm0 : SRow w .u32 A0 [] c0) (hs0 : SRow w .u16 B0 (asc ⟨#[49]⟩) d0) (hm1 : SRow w .u32 A1 (truthV true).mag c1) (hs1 : SRow w .u16 B1 (truthV true).s d1) : Calls Try.prog 9 #[vv (Vl.mk 5 0 0 false [] (asc ⟨#[49]⟩) 0) A0 c0 B0 d0, vv (truthV true) A1 c1 B1 d1] w (IsRet (.tuple #[.bool true, iv 0]) w) := by
  have h := cloose_c (Vl.mk 5 0 0 false [] (asc ⟨#[49]⟩) 0) A0 c0 B0 d0 (truthV true) A1 c1 B1 d1 w hm0 hs0 hm1 hs1 (VOk.str ⟨#[49]⟩ (by first | omega | decide)) (VOk.truth _)
  rw [show looseV (Vl.mk 5 0 0 false [] (asc ⟨#[49]⟩) 0) (truthV true) = (true, 0) from by decide +kernel] at h
  exact h
set_option maxRecDepth 100000 in
theorem first_i1 (A0 : Option Addr) (c0 : Nat) (B0 : Option Addr) (d0 : Nat) (w : World) (hm0 : SRow w .u32 A0 [] c0) (hs0 : SRow w .u16 B0 [] d0) : Calls Try.prog 13 #[vv (Vl.mk 3 0 (-1) false [] [] 0) A0 c0 B0 d0] w (IsRet (.tuple #[iv 0, iv 2]) w) := by
  have h := cindex_c (Vl.mk 3 0 (-1) false [] [] 0) A0 c0 B0 d0 w hm0 hs0 (VOk.whole (by omega) (by omega))
  rw [show indexV (Vl.mk 3 0 (-1) false [] [] 0) = (0, 2) from by decide +kernel] at h
  exact h
end Go.Proofs.Ytecgdgjlmlpcnaa
