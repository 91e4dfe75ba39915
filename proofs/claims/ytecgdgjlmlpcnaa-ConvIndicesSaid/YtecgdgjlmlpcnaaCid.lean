import Derived.Test.YtecgdgjlmlpcnaaCic
namespace Go.Proofs.Ytecgdgjlmlpcnaa
open Go.RowKit
set_option linter.unusedSimpArgs false
set_option linter.unusedVariables false
set_option maxHeartbeats 16000000 in
set_option maxRecDepth 100000 in
theorem cloose_c (v : Vl) (Av : Option Addr) (cv : Nat) (Bv : Option Addr) (dv : Nat) (u : Vl) (Au : Option Addr) (cu : Nat) (Bu : Option Addr) (du : Nat) (w : World) (hmv : SRow w .u32 Av v.mag cv) (hsv : SRow w .u16 Bv v.s dv) (hmu : SRow w .u32 Au u.mag cu) (hsu : SRow w .u16 Bu u.s du) (hvv : VOk v) (hvu : VOk u) : Calls Try.prog 9 #[vv v Av cv Bv dv, vv u Au cu Bu du] w (IsRet (.tuple #[.bool ((looseV v u).1), iv ((looseV v u).2)]) w) := by
  refine enter_abs Try.func9 rfl fun a0 hs0 hd0 hp => ?_
  have hs0 : a0.tmps.size = 91 := hs0
  have hN0 : New w w := Upd.refl _ _
  have hp0 : a0.eval (.tmp 0) = vv v Av cv Bv dv := hp 0 _ rfl
  have hp1 : a0.eval (.tmp 1) = vv u Au cu Bu du := hp 1 _ rfl
  have hlv1 := hvv.clean.mlen
  have hlu1 := hvu.clean.mlen
  have hlv2 := hvv.clean.counted.mlen
  have hlu2 := hvu.clean.counted.mlen
  have hx1 := hvv.clean.counted.nlo
  have hx2 := hvv.clean.counted.nhi
  have hx3 := hvu.clean.counted.nlo
  have hx4 := hvu.clean.counted.nhi
  refine wp_seq_k fun K1 hK1 => ?_
  refine wp_g [true, true, true, true] [] [] 91
    [IsNew w 29 [iv v.k, iv v.nk, iv v.nn, .bool v.neg, sv Av v.mag cv, sv Bv v.s dv, iv v.ref],
     IsNew w 29 [iv u.k, iv u.nk, iv u.nn, .bool u.neg, sv Au u.mag cu, sv Bu u.s du, iv u.ref],
     ve (.bool false),
     ve (iv 0)]
    [0, 1] (newsCons (fun v w h => IsNew.old h) (newsCons (fun v w h => IsNew.old h) newsNil)) hs0 (.nw (.nw (.eq (.eq (.nil))))) ?_ (fun i h => by cases h) ?_
  refine .o2 (step_allocN (cs := [iv v.k, iv v.nk, iv v.nn, .bool v.neg, sv Av v.mag cv, sv Bv v.s dv, iv v.ref]) (t := 29) rfl (noG rfl) (fun _ w hn k => v_box rfl (k.fx 0 hp0) (fun w => rfl)) (fun q _ hq hb => ⟨q, rfl, hq, hb⟩)) ?_
  refine .o2 (step_allocN (cs := [iv u.k, iv u.nk, iv u.nn, .bool u.neg, sv Au u.mag cu, sv Bu u.s du, iv u.ref]) (t := 29) rfl (noG rfl) (fun _ w hn k => v_box rfl (k.fx 1 hp1) (fun w => rfl)) (fun q _ hq hb => ⟨q, rfl, hq, hb⟩)) ?_
  refine .o1 (tk rfl rfl fun _ w hn k => ⟨_, v_assign rfl rfl, rfl⟩) ?_
  refine .o1 (tk rfl rfl fun _ w hn k => ⟨_, v_assign rfl rfl, rfl⟩) ?_
  exact .nil
  intro a2 w3 hn4 ha5
  obtain ⟨hs6, hd7, hN19⟩ := aft ha5 hs0 hd0 hN0 hn4
  obtain ⟨q9, h8, hq10, hb11⟩ : IsNew _ _ _ _ _ := ha5.got 0 2 rfl (by kernel_rfl)
  obtain ⟨q13, h12, hq14, hb15⟩ : IsNew _ _ _ _ _ := ha5.got 1 3 rfl (by kernel_rfl)
  have hne16 : q9 ≠ q13 := ha5.ne 0 1 2 3 h8 h12
  have hq17 := Nat.le_trans hN0.size hq10
  have hq18 := Nat.le_trans hN0.size hq14
  refine st_nil (hK1 _ _ ?_)
  refine wp_seq_k fun K20 hK20 => ?_
  refine wp_g0 [true, true, true, true, false, false] [(4, false), (5, false)] 91
    [ve (vv v Av cv Bv dv),
     (fun (v_ : Value) (W : World) => ∃ (A5 : Option Addr) (c6 : Nat) (A7 : Option Addr) (c8 : Nat), v_ = vv (cleanV v) A5 c6 A7 c8 ∧ SRow W .u32 A5 ((cleanV v).mag) c6 ∧ SRow W .u16 A7 ((cleanV v).s) c8),
     ve (vv u Au cu Bu du),
     (fun (v_ : Value) (W : World) => ∃ (A13 : Option Addr) (c14 : Nat) (A15 : Option Addr) (c16 : Nat), v_ = vv (cleanV u) A13 c14 A15 c16 ∧ SRow W .u32 A13 ((cleanV u).mag) c14 ∧ SRow W .u16 A15 ((cleanV u).s) c16),
     vt,
     vt] hs6 (.eq (.cons (fun v W W' hn ⟨A5, c6, A7, c8, he, h0, h1⟩ => ⟨A5, c6, A7, c8, he, h0.new_ hn, h1.new_ hn⟩) (.eq (.cons (fun v W W' hn ⟨A13, c14, A15, c16, he, h0, h1⟩ => ⟨A13, c14, A15, c16, he, h0.new_ hn, h1.new_ hn⟩) (.tt (.tt (.nil))))))) ?_ ?_
  refine .o1 (tk rfl rfl fun _ w hn k => ⟨_, v_load rfl (k.fx 2 h8) (l_agg Try.isAgg29 Try.sizeOf29 (hb11.new_ hn) rfl), rfl⟩) ?_
  refine .o1 (tkC rfl (noG rfl) rfl fun _ w hn k => (by
        refine ⟨#[vv v Av cv Bv dv], _, args1 (k.eq1 0 8 rfl), fun w => by kernel_rfl, clean_c v _ _ _ _ _ (hmv.new_ (hN19.transNew hn)) (hsv.new_ (hN19.transNew hn)), ?_⟩
        rintro e w' ⟨A1, c2, A3, c4, rfl, hmo0, hmo1, hm⟩
        exact ⟨_, rfl, hm, ⟨A1, c2, A3, c4, rfl, hmo0, hmo1⟩⟩)) ?_
  refine .o1 (tk rfl rfl fun _ w hn k => ⟨_, v_load rfl (k.fx 3 h12) (l_agg Try.isAgg29 Try.sizeOf29 (hb15.new_ hn) rfl), rfl⟩) ?_
  refine .o1 (tkC rfl (noG rfl) rfl fun _ w hn k => (by
        refine ⟨#[vv u Au cu Bu du], _, args1 (k.eq1 2 10 rfl), fun w => by kernel_rfl, clean_c u _ _ _ _ _ (hmu.new_ (hN19.transNew hn)) (hsu.new_ (hN19.transNew hn)), ?_⟩
        rintro e w' ⟨A9, c10, A11, c12, rfl, hmo0, hmo1, hm⟩
        exact ⟨_, rfl, hm, ⟨A9, c10, A11, c12, rfl, hmo0, hmo1⟩⟩)) ?_
  refine .off ?_
  refine .off ?_
  exact .nil
  intro a21 w22 hn23 ha24
  obtain ⟨hs25, hd26, hN45⟩ := aft ha24 hs6 hd7 hN19 hn23
  have h27 := ha24.fx 2 h8
  have h28 := ha24.fx 3 h12
  obtain ⟨A30, cc31, A33, cc34, h29, hr32, hr35⟩ : (fun (v_ : Value) (W : World) => ∃ (A5 : Option Addr) (c6 : Nat) (A7 : Option Addr) (c8 : Nat), v_ = vv (cleanV v) A5 c6 A7 c8 ∧ SRow W .u32 A5 ((cleanV v).mag) c6 ∧ SRow W .u16 A7 ((cleanV v).s) c8) _ _ := ha24.got 1 9 rfl (by kernel_rfl)
  have h29 : a21.eval (.tmp 9) = vv (cleanV v) A30 cc31 A33 cc34 := h29
  obtain ⟨A37, cc38, A40, cc41, h36, hr39, hr42⟩ : (fun (v_ : Value) (W : World) => ∃ (A13 : Option Addr) (c14 : Nat) (A15 : Option Addr) (c16 : Nat), v_ = vv (cleanV u) A13 c14 A15 c16 ∧ SRow W .u32 A13 ((cleanV u).mag) c14 ∧ SRow W .u16 A15 ((cleanV u).s) c16) _ _ := ha24.got 3 11 rfl (by kernel_rfl)
  have h36 : a21.eval (.tmp 11) = vv (cleanV u) A37 cc38 A40 cc41 := h36
  have hb43 := hb11.new_ hn23
  have hb44 := hb15.new_ hn23
  obtain ⟨w46, hst47, hb480, hu49, hf50⟩ := s_many (P := Try.prog) (t := 29) (i := 0) [iv ((cleanV v).k), iv ((cleanV v).nk), iv ((cleanV v).nn), .bool ((cleanV v).neg), sv A30 ((cleanV v).mag) cc31, sv A33 ((cleanV v).s) cc34, iv ((cleanV v).ref)] Try.sizeOf29 rfl rfl rfl hb43 (Nat.le_of_ble_eq_true rfl)
  have hb48 : Blk w46 q9 29 [iv ((cleanV v).k), iv ((cleanV v).nk), iv ((cleanV v).nn), .bool ((cleanV v).neg), sv A30 ((cleanV v).mag) cc31, sv A33 ((cleanV v).s) cc34, iv ((cleanV v).ref)] := hb480
  refine st_act rfl rfl fun K51 hL52 => a_store' rfl h27 h29 hst47 (hL52 _ _ trivial ?_)
  have hr53 := hr32.far hb43 hu49 (by first | rfl | decide | simp [notK])
  have hr54 := hr35.far hb43 hu49 (by first | rfl | decide | simp [notK])
  have hr55 := hr39.far hb43 hu49 (by first | rfl | decide | simp [notK])
  have hr56 := hr42.far hb43 hu49 (by first | rfl | decide | simp [notK])
  have hb57 := hf50 _ _ _ (fun h => hne16 h.symm) hb44
  have hN58 := hN45.trans hu49 (fun k hk hkb => by subst hkb; omega)
  obtain ⟨w59, hst60, hb610, hu62, hf63⟩ := s_many (P := Try.prog) (t := 29) (i := 0) [iv ((cleanV u).k), iv ((cleanV u).nk), iv ((cleanV u).nn), .bool ((cleanV u).neg), sv A37 ((cleanV u).mag) cc38, sv A40 ((cleanV u).s) cc41, iv ((cleanV u).ref)] Try.sizeOf29 rfl rfl rfl hb57 (Nat.le_of_ble_eq_true rfl)
  have hb61 : Blk w59 q13 29 [iv ((cleanV u).k), iv ((cleanV u).nk), iv ((cleanV u).nn), .bool ((cleanV u).neg), sv A37 ((cleanV u).mag) cc38, sv A40 ((cleanV u).s) cc41, iv ((cleanV u).ref)] := hb610
  refine st_act rfl rfl fun K64 hL65 => a_store' rfl h28 h36 hst60 (hL65 _ _ trivial ?_)
  have hr66 := hr53.far hb57 hu62 (by first | rfl | decide | simp [notK])
  have hr67 := hr54.far hb57 hu62 (by first | rfl | decide | simp [notK])
  have hr68 := hr55.far hb57 hu62 (by first | rfl | decide | simp [notK])
  have hr69 := hr56.far hb57 hu62 (by first | rfl | decide | simp [notK])
  have hb70 := hf63 _ _ _ (hne16) hb48
  have hN71 := hN58.trans hu62 (fun k hk hkb => by subst hkb; omega)
  refine st_nil (hK20 _ _ ?_)
  refine wp_seq_k fun K72 hK72 => ?_
  refine wp_block ?_
  refine wp_seq_k fun K73 hK73 => ?_
  refine wp_g0 [true, true, true, true, true, true] [] 91
    [ve (pv q9),
     ve (iv ((cleanV v).k)),
     ve (pv q13),
     ve (iv ((cleanV u).k)),
     ve (.bool (decide (((cleanV v).k) = ((cleanV u).k)))),
     ve (.bool (decide (((cleanV v).k) = ((cleanV u).k))))] hs25 (.eq (.eq (.eq (.eq (.eq (.eq (.nil))))))) ?_ ?_
  refine .o1 (tk rfl rfl fun _ w hn k => ⟨_, v_field rfl (k.fx 2 h27) (fun w => rfl), rfl⟩) ?_
  refine .o1 (tk rfl rfl fun _ w hn k => ⟨_, v_load rfl (k.eq1 0 13 rfl) (l_one Try.isAgg3 ((hb70.new_ hn).cell 0)), rfl⟩) ?_
  refine .o1 (tk rfl rfl fun _ w hn k => ⟨_, v_field rfl (k.fx 3 h28) (fun w => rfl), rfl⟩) ?_
  refine .o1 (tk rfl rfl fun _ w hn k => ⟨_, v_load rfl (k.eq1 2 15 rfl) (l_one Try.isAgg3 ((hb61.new_ hn).cell 0)), rfl⟩) ?_
  refine .o1 (tk rfl rfl fun _ w hn k => ⟨_, v_bin rfl (k.eq1 1 14 rfl) (k.eq1 3 16 rfl) (fun _ => rfl) (r_eql rfl), rfl⟩) ?_
  refine .o1 (tk rfl rfl fun _ w hn k => ⟨_, v_assign rfl (k.eq1 4 17 rfl), rfl⟩) ?_
  exact .nil
  intro a74 w75 hn76 ha77
  obtain ⟨hs78, hd79, hN89⟩ := aft ha77 hs25 hd26 hN71 hn76
  have h80 := ha77.fx 2 h27
  have h81 := ha77.fx 3 h28
  have h82 := ha77.ge 5 12 rfl
  have hb83 := hb70.new_ hn76
  have hb84 := hb61.new_ hn76
  have hr85 := hr66.new_ hn76
  have hr86 := hr67.new_ hn76
  have hr87 := hr68.new_ hn76
  have hr88 := hr69.new_ hn76
  refine st_nil (hK73 _ _ ?_)
  rcases Bool.eq_false_or_eq_true (decide (((cleanV v).k) = ((cleanV u).k))) with ht90 | ht90
  have ht90d := of_decide_eq_true ht90
  have hv91 := hB h82 ht90
  refine wp_cond_true hv91 ?_
  refine wp_seq_k fun K92 hK92 => ?_
  refine wp_g0 [true, true, true, true, true] [] 91
    [ve (vv (cleanV v) A30 cc31 A33 cc34),
     ve (vv (cleanV u) A37 cc38 A40 cc41),
     ve (.bool (strictV (cleanV v) (cleanV u))),
     ve (.bool (strictV (cleanV v) (cleanV u))),
     ve (iv 0)] hs78 (.eq (.eq (.eq (.eq (.eq (.nil)))))) ?_ ?_
  refine .o1 (tk rfl rfl fun _ w hn k => ⟨_, v_load rfl (k.fx 2 h80) (l_agg Try.isAgg29 Try.sizeOf29 (hb83.new_ hn) rfl), rfl⟩) ?_
  refine .o1 (tk rfl rfl fun _ w hn k => ⟨_, v_load rfl (k.fx 3 h81) (l_agg Try.isAgg29 Try.sizeOf29 (hb84.new_ hn) rfl), rfl⟩) ?_
  refine .o1 (ck rfl rfl rfl (fun _ w hn k => ⟨#[vv (cleanV v) A30 cc31 A33 cc34, vv (cleanV u) A37 cc38 A40 cc41], args2 (k.eq1 0 18 rfl) (k.eq1 1 19 rfl), fun _ => by kernel_rfl, cstrict_c (cleanV v) _ _ _ _ (cleanV u) _ _ _ _ _ (hr85.new_ hn) (hr86.new_ hn) (hr87.new_ hn) (hr88.new_ hn)⟩) fun _ => rfl) ?_
  refine .o1 (tk rfl rfl fun _ w hn k => ⟨_, v_assign rfl (k.eq1 2 20 rfl), rfl⟩) ?_
  refine .o1 (tk rfl rfl fun _ w hn k => ⟨_, v_assign rfl rfl, rfl⟩) ?_
  exact .nil
  intro a93 w94 hn95 ha96
  obtain ⟨hs97, hd98, hN101⟩ := aft ha96 hs78 hd79 hN89 hn95
  have h99 := ha96.ge 3 4 rfl
  have h100 := ha96.ge 4 5 rfl
  refine st_nil (hK92 _ _ ?_)
  refine wp_ret (ret_k hd98 (v := .tuple #[.bool (strictV (cleanV v) (cleanV u)), iv 0]) (res_tt rfl h99 h100 _) ?_)
  refine ⟨?_, hN101⟩
  show Ending.returned (.tuple #[.bool (strictV (cleanV v) (cleanV u)), iv 0]) = Ending.returned (.tuple #[.bool ((looseV v u).1), iv ((looseV v u).2)])
  first | rfl | (simp only [looseV, loose1, loose2, loose3, noneV, ht90, bsm] <;> rfl) | (simp [looseV, loose1, loose2, loose3, noneV, ht90]; done) | (exfalso; omega)
  have ht90d := of_decide_eq_false ht90
  have hv102 := hB h82 ht90
  refine wp_cond_false hv102 ?_
  refine wp_seq_k fun K103 hK103 => ?_
  rcases Bool.eq_false_or_eq_true ((decide ((cleanV v).k = 0) || decide ((cleanV v).k = 1))) with ht104 | ht104
  refine wp_g0 [true, true, true, true, true, true, true] [] 91
    [ve (vv (cleanV v) A30 cc31 A33 cc34),
     ve (.bool true),
     ve (.bool true),
     ve undef,
     ve undef,
     ve (.bool true),
     ve (.bool true)] hs78 (.eq (.eq (.eq (.eq (.eq (.eq (.eq (.nil)))))))) ?_ ?_
  refine .o1 (tk rfl rfl fun _ w hn k => ⟨_, v_load rfl (k.fx 2 h80) (l_agg Try.isAgg29 Try.sizeOf29 (hb83.new_ hn) rfl), rfl⟩) ?_
  refine .o1 (ck rfl rfl rfl (fun _ w hn k => ⟨#[vv (cleanV v) A30 cc31 A33 cc34], args1 (k.eq1 0 22 rfl), fun _ => by kernel_rfl, none_c (cleanV v) _ _ _ _ _ (hr85.new_ hn) (hr86.new_ hn)⟩) fun _ => congrArg Value.bool ht104) ?_
  refine .o1 (tk rfl rfl fun _ w hn k => ⟨_, v_move rfl (k.eq1 1 23 rfl), rfl⟩) ?_
  refine .o1 (sk rfl rfl rfl (fun _ _ _ k => k.eq1 2 24 rfl) (fun _ => rfl)) ?_
  refine .o1 (sk rfl rfl rfl (fun _ _ _ k => k.eq1 2 24 rfl) (fun _ => rfl)) ?_
  refine .o1 (tk rfl rfl fun _ w hn k => ⟨_, v_pickT rfl (k.eq1 2 24 rfl) rfl, rfl⟩) ?_
  refine .o1 (tk rfl rfl fun _ w hn k => ⟨_, v_assign rfl (k.eq1 5 27 rfl), rfl⟩) ?_
  exact .nil
  intro a105 w106 hn107 ha108
  obtain ⟨hs109, hd110, hN120⟩ := aft ha108 hs78 hd79 hN89 hn107
  have h111 := ha108.fx 2 h80
  have h112 := ha108.fx 3 h81
  have h113 := ha108.ge 6 21 rfl
  have hb114 := hb83.new_ hn107
  have hb115 := hb84.new_ hn107
  have hr116 := hr85.new_ hn107
  have hr117 := hr86.new_ hn107
  have hr118 := hr87.new_ hn107
  have hr119 := hr88.new_ hn107
  refine st_nil (hK103 _ _ ?_)
  refine wp_cond_true h113 ?_
  refine wp_seq_k fun K121 hK121 => ?_
  refine wp_g0 [true, true, true, true, true, true, true, true] [] 91
    [ve (vv (cleanV v) A30 cc31 A33 cc34),
     ve (.bool true),
     ve (.bool true),
     ve (vv (cleanV u) A37 cc38 A40 cc41),
     ve (.bool (decide ((cleanV u).k = 0) || decide ((cleanV u).k = 1))),
     ve (.bool (decide ((cleanV u).k = 0) || decide ((cleanV u).k = 1))),
     ve (.bool (decide ((cleanV u).k = 0) || decide ((cleanV u).k = 1))),
     ve (iv 0)] hs109 (.eq (.eq (.eq (.eq (.eq (.eq (.eq (.eq (.nil))))))))) ?_ ?_
  refine .o1 (tk rfl rfl fun _ w hn k => ⟨_, v_load rfl (k.fx 2 h111) (l_agg Try.isAgg29 Try.sizeOf29 (hb114.new_ hn) rfl), rfl⟩) ?_
  refine .o1 (ck rfl rfl rfl (fun _ w hn k => ⟨#[vv (cleanV v) A30 cc31 A33 cc34], args1 (k.eq1 0 28 rfl), fun _ => by kernel_rfl, none_c (cleanV v) _ _ _ _ _ (hr116.new_ hn) (hr117.new_ hn)⟩) fun _ => congrArg Value.bool ht104) ?_
  refine .o1 (tk rfl rfl fun _ w hn k => ⟨_, v_move rfl (k.eq1 1 29 rfl), rfl⟩) ?_
  refine .o1 (tg rfl rfl rfl (fun _ _ k => k.eq1 2 30 rfl) fun _ w hn k => ⟨_, v_load rfl (k.fx 3 h112) (l_agg Try.isAgg29 Try.sizeOf29 (hb115.new_ hn) rfl), rfl⟩) ?_
  refine .o1 (cg rfl rfl rfl (fun _ _ k => k.eq1 2 30 rfl) rfl (fun _ w hn k => ⟨#[vv (cleanV u) A37 cc38 A40 cc41], args1 (k.eq1 3 31 rfl), fun _ => by kernel_rfl, none_c (cleanV u) _ _ _ _ _ (hr118.new_ hn) (hr119.new_ hn)⟩) fun _ => rfl) ?_
  refine .o1 (tk rfl rfl fun _ w hn k => ⟨_, v_pickT rfl (k.eq1 2 30 rfl) (k.eq1 4 32 rfl), rfl⟩) ?_
  refine .o1 (tk rfl rfl fun _ w hn k => ⟨_, v_assign rfl (k.eq1 5 33 rfl), rfl⟩) ?_
  refine .o1 (tk rfl rfl fun _ w hn k => ⟨_, v_assign rfl rfl, rfl⟩) ?_
  exact .nil
  intro a122 w123 hn124 ha125
  obtain ⟨hs126, hd127, hN130⟩ := aft ha125 hs109 hd110 hN120 hn124
  have h128 := ha125.ge 6 4 rfl
  have h129 := ha125.ge 7 5 rfl
  refine st_nil (hK121 _ _ ?_)
  refine wp_ret (ret_k hd127 (v := .tuple #[.bool (decide ((cleanV u).k = 0) || decide ((cleanV u).k = 1)), iv 0]) (res_tt rfl h128 h129 _) ?_)
  refine ⟨?_, hN130⟩
  show Ending.returned (.tuple #[.bool (decide ((cleanV u).k = 0) || decide ((cleanV u).k = 1)), iv 0]) = Ending.returned (.tuple #[.bool ((looseV v u).1), iv ((looseV v u).2)])
  first | rfl | (simp only [looseV, loose1, loose2, loose3, noneV, ht90, ht104, bsm] <;> rfl) | (simp [looseV, loose1, loose2, loose3, noneV, ht90, ht104]; done) | (exfalso; omega)
  refine wp_g0 [true, true, true, true, true, true, true] [] 91
    [ve (vv (cleanV v) A30 cc31 A33 cc34),
     ve (.bool false),
     ve (.bool false),
     ve (vv (cleanV u) A37 cc38 A40 cc41),
     ve (.bool (decide ((cleanV u).k = 0) || decide ((cleanV u).k = 1))),
     ve (.bool (decide ((cleanV u).k = 0) || decide ((cleanV u).k = 1))),
     ve (.bool (decide ((cleanV u).k = 0) || decide ((cleanV u).k = 1)))] hs78 (.eq (.eq (.eq (.eq (.eq (.eq (.eq (.nil)))))))) ?_ ?_
  refine .o1 (tk rfl rfl fun _ w hn k => ⟨_, v_load rfl (k.fx 2 h80) (l_agg Try.isAgg29 Try.sizeOf29 (hb83.new_ hn) rfl), rfl⟩) ?_
  refine .o1 (ck rfl rfl rfl (fun _ w hn k => ⟨#[vv (cleanV v) A30 cc31 A33 cc34], args1 (k.eq1 0 22 rfl), fun _ => by kernel_rfl, none_c (cleanV v) _ _ _ _ _ (hr85.new_ hn) (hr86.new_ hn)⟩) fun _ => congrArg Value.bool ht104) ?_
  refine .o1 (tk rfl rfl fun _ w hn k => ⟨_, v_move rfl (k.eq1 1 23 rfl), rfl⟩) ?_
  refine .o1 (tg rfl rfl rfl (fun _ _ k => k.eq1 2 24 rfl) fun _ w hn k => ⟨_, v_load rfl (k.fx 3 h81) (l_agg Try.isAgg29 Try.sizeOf29 (hb84.new_ hn) rfl), rfl⟩) ?_
  refine .o1 (cg rfl rfl rfl (fun _ _ k => k.eq1 2 24 rfl) rfl (fun _ w hn k => ⟨#[vv (cleanV u) A37 cc38 A40 cc41], args1 (k.eq1 3 25 rfl), fun _ => by kernel_rfl, none_c (cleanV u) _ _ _ _ _ (hr87.new_ hn) (hr88.new_ hn)⟩) fun _ => rfl) ?_
  refine .o1 (tk rfl rfl fun _ w hn k => ⟨_, v_pickF rfl (k.eq1 2 24 rfl) (k.eq1 4 26 rfl), rfl⟩) ?_
  refine .o1 (tk rfl rfl fun _ w hn k => ⟨_, v_assign rfl (k.eq1 5 27 rfl), rfl⟩) ?_
  exact .nil
  intro a131 w132 hn133 ha134
  obtain ⟨hs135, hd136, hN146⟩ := aft ha134 hs78 hd79 hN89 hn133
  have h137 := ha134.fx 2 h80
  have h138 := ha134.fx 3 h81
  have h139 := ha134.ge 6 21 rfl
  have hb140 := hb83.new_ hn133
  have hb141 := hb84.new_ hn133
  have hr142 := hr85.new_ hn133
  have hr143 := hr86.new_ hn133
  have hr144 := hr87.new_ hn133
  have hr145 := hr88.new_ hn133
  refine st_nil (hK103 _ _ ?_)
  rcases Bool.eq_false_or_eq_true ((decide ((cleanV u).k = 0) || decide ((cleanV u).k = 1))) with ht147 | ht147
  have hv148 := hB h139 ht147
  refine wp_cond_true hv148 ?_
  refine wp_seq_k fun K149 hK149 => ?_
  refine wp_g0 [true, true, true, true, true, true, true, true] [] 91
    [ve (vv (cleanV v) A30 cc31 A33 cc34),
     ve (.bool false),
     ve (.bool false),
     ve undef,
     ve undef,
     ve (.bool false),
     ve (.bool false),
     ve (iv 0)] hs135 (.eq (.eq (.eq (.eq (.eq (.eq (.eq (.eq (.nil))))))))) ?_ ?_
  refine .o1 (tk rfl rfl fun _ w hn k => ⟨_, v_load rfl (k.fx 2 h137) (l_agg Try.isAgg29 Try.sizeOf29 (hb140.new_ hn) rfl), rfl⟩) ?_
  refine .o1 (ck rfl rfl rfl (fun _ w hn k => ⟨#[vv (cleanV v) A30 cc31 A33 cc34], args1 (k.eq1 0 28 rfl), fun _ => by kernel_rfl, none_c (cleanV v) _ _ _ _ _ (hr142.new_ hn) (hr143.new_ hn)⟩) fun _ => congrArg Value.bool ht104) ?_
  refine .o1 (tk rfl rfl fun _ w hn k => ⟨_, v_move rfl (k.eq1 1 29 rfl), rfl⟩) ?_
  refine .o1 (sk rfl rfl rfl (fun _ _ _ k => k.eq1 2 30 rfl) (fun _ => rfl)) ?_
  refine .o1 (sk rfl rfl rfl (fun _ _ _ k => k.eq1 2 30 rfl) (fun _ => rfl)) ?_
  refine .o1 (tk rfl rfl fun _ w hn k => ⟨_, v_pickF rfl (k.eq1 2 30 rfl) rfl, rfl⟩) ?_
  refine .o1 (tk rfl rfl fun _ w hn k => ⟨_, v_assign rfl (k.eq1 5 33 rfl), rfl⟩) ?_
  refine .o1 (tk rfl rfl fun _ w hn k => ⟨_, v_assign rfl rfl, rfl⟩) ?_
  exact .nil
  intro a150 w151 hn152 ha153
  obtain ⟨hs154, hd155, hN158⟩ := aft ha153 hs135 hd136 hN146 hn152
  have h156 := ha153.ge 6 4 rfl
  have h157 := ha153.ge 7 5 rfl
  refine st_nil (hK149 _ _ ?_)
  refine wp_ret (ret_k hd155 (v := .tuple #[.bool false, iv 0]) (res_tt rfl h156 h157 _) ?_)
  refine ⟨?_, hN158⟩
  show Ending.returned (.tuple #[.bool false, iv 0]) = Ending.returned (.tuple #[.bool ((looseV v u).1), iv ((looseV v u).2)])
  first | rfl | (simp only [looseV, loose1, loose2, loose3, noneV, ht90, ht104, ht147, bsm] <;> rfl) | (simp [looseV, loose1, loose2, loose3, noneV, ht90, ht104, ht147]; done) | (exfalso; omega)
  have hv159 := hB h139 ht147
  refine wp_cond_false hv159 ?_
  refine wp_skip ?_
  refine hK72 _ _ ?_
  refine wp_seq_k fun K160 hK160 => ?_
  refine wp_g0 [true, true, true, true, false, false] [(4, false), (5, false)] 91
    [ve (vv (cleanV v) A30 cc31 A33 cc34),
     (fun (v_ : Value) (W : World) => ∃ (A35 : Option Addr) (c36 : Nat) (A37 : Option Addr) (c38 : Nat), v_ = vv (countedV (cleanV v)) A35 c36 A37 c38 ∧ SRow W .u32 A35 ((countedV (cleanV v)).mag) c36 ∧ SRow W .u16 A37 ((countedV (cleanV v)).s) c38),
     ve (vv (cleanV u) A37 cc38 A40 cc41),
     (fun (v_ : Value) (W : World) => ∃ (A43 : Option Addr) (c44 : Nat) (A45 : Option Addr) (c46 : Nat), v_ = vv (countedV (cleanV u)) A43 c44 A45 c46 ∧ SRow W .u32 A43 ((countedV (cleanV u)).mag) c44 ∧ SRow W .u16 A45 ((countedV (cleanV u)).s) c46),
     vt,
     vt] hs135 (.eq (.cons (fun v W W' hn ⟨A35, c36, A37, c38, he, h0, h1⟩ => ⟨A35, c36, A37, c38, he, h0.new_ hn, h1.new_ hn⟩) (.eq (.cons (fun v W W' hn ⟨A43, c44, A45, c46, he, h0, h1⟩ => ⟨A43, c44, A45, c46, he, h0.new_ hn, h1.new_ hn⟩) (.tt (.tt (.nil))))))) ?_ ?_
  refine .o1 (tk rfl rfl fun _ w hn k => ⟨_, v_load rfl (k.fx 2 h137) (l_agg Try.isAgg29 Try.sizeOf29 (hb140.new_ hn) rfl), rfl⟩) ?_
  refine .o1 (tkC rfl (noG rfl) rfl fun _ w hn k => (by
        refine ⟨#[vv (cleanV v) A30 cc31 A33 cc34], _, args1 (k.eq1 0 34 rfl), fun w => by kernel_rfl, counted_c (cleanV v) _ _ _ _ _ (hr142.new_ hn) (hr143.new_ hn), ?_⟩
        rintro e w' ⟨A31, c32, A33, c34, rfl, hmo0, hmo1, hm⟩
        exact ⟨_, rfl, hm, ⟨A31, c32, A33, c34, rfl, hmo0, hmo1⟩⟩)) ?_
  refine .o1 (tk rfl rfl fun _ w hn k => ⟨_, v_load rfl (k.fx 3 h138) (l_agg Try.isAgg29 Try.sizeOf29 (hb141.new_ hn) rfl), rfl⟩) ?_
  refine .o1 (tkC rfl (noG rfl) rfl fun _ w hn k => (by
        refine ⟨#[vv (cleanV u) A37 cc38 A40 cc41], _, args1 (k.eq1 2 36 rfl), fun w => by kernel_rfl, counted_c (cleanV u) _ _ _ _ _ (hr144.new_ hn) (hr145.new_ hn), ?_⟩
        rintro e w' ⟨A39, c40, A41, c42, rfl, hmo0, hmo1, hm⟩
        exact ⟨_, rfl, hm, ⟨A39, c40, A41, c42, rfl, hmo0, hmo1⟩⟩)) ?_
  refine .off ?_
  refine .off ?_
  exact .nil
  intro a161 w162 hn163 ha164
  obtain ⟨hs165, hd166, hN189⟩ := aft ha164 hs135 hd136 hN146 hn163
  have h167 := ha164.fx 2 h137
  have h168 := ha164.fx 3 h138
  obtain ⟨A170, cc171, A173, cc174, h169, hr172, hr175⟩ : (fun (v_ : Value) (W : World) => ∃ (A35 : Option Addr) (c36 : Nat) (A37 : Option Addr) (c38 : Nat), v_ = vv (countedV (cleanV v)) A35 c36 A37 c38 ∧ SRow W .u32 A35 ((countedV (cleanV v)).mag) c36 ∧ SRow W .u16 A37 ((countedV (cleanV v)).s) c38) _ _ := ha164.got 1 35 rfl (by kernel_rfl)
  have h169 : a161.eval (.tmp 35) = vv (countedV (cleanV v)) A170 cc171 A173 cc174 := h169
  obtain ⟨A177, cc178, A180, cc181, h176, hr179, hr182⟩ : (fun (v_ : Value) (W : World) => ∃ (A43 : Option Addr) (c44 : Nat) (A45 : Option Addr) (c46 : Nat), v_ = vv (countedV (cleanV u)) A43 c44 A45 c46 ∧ SRow W .u32 A43 ((countedV (cleanV u)).mag) c44 ∧ SRow W .u16 A45 ((countedV (cleanV u)).s) c46) _ _ := ha164.got 3 37 rfl (by kernel_rfl)
  have h176 : a161.eval (.tmp 37) = vv (countedV (cleanV u)) A177 cc178 A180 cc181 := h176
  have hb183 := hb140.new_ hn163
  have hb184 := hb141.new_ hn163
  have hr185 := hr142.new_ hn163
  have hr186 := hr143.new_ hn163
  have hr187 := hr144.new_ hn163
  have hr188 := hr145.new_ hn163
  obtain ⟨w190, hst191, hb1920, hu193, hf194⟩ := s_many (P := Try.prog) (t := 29) (i := 0) [iv ((countedV (cleanV v)).k), iv ((countedV (cleanV v)).nk), iv ((countedV (cleanV v)).nn), .bool ((countedV (cleanV v)).neg), sv A170 ((countedV (cleanV v)).mag) cc171, sv A173 ((countedV (cleanV v)).s) cc174, iv ((countedV (cleanV v)).ref)] Try.sizeOf29 rfl rfl rfl hb183 (Nat.le_of_ble_eq_true rfl)
  have hb192 : Blk w190 q9 29 [iv ((countedV (cleanV v)).k), iv ((countedV (cleanV v)).nk), iv ((countedV (cleanV v)).nn), .bool ((countedV (cleanV v)).neg), sv A170 ((countedV (cleanV v)).mag) cc171, sv A173 ((countedV (cleanV v)).s) cc174, iv ((countedV (cleanV v)).ref)] := hb1920
  refine st_act rfl rfl fun K195 hL196 => a_store' rfl h167 h169 hst191 (hL196 _ _ trivial ?_)
  have hr197 := hr185.far hb183 hu193 (by first | rfl | decide | simp [notK])
  have hr198 := hr186.far hb183 hu193 (by first | rfl | decide | simp [notK])
  have hr199 := hr187.far hb183 hu193 (by first | rfl | decide | simp [notK])
  have hr200 := hr188.far hb183 hu193 (by first | rfl | decide | simp [notK])
  have hr201 := hr172.far hb183 hu193 (by first | rfl | decide | simp [notK])
  have hr202 := hr175.far hb183 hu193 (by first | rfl | decide | simp [notK])
  have hr203 := hr179.far hb183 hu193 (by first | rfl | decide | simp [notK])
  have hr204 := hr182.far hb183 hu193 (by first | rfl | decide | simp [notK])
  have hb205 := hf194 _ _ _ (fun h => hne16 h.symm) hb184
  have hN206 := hN189.trans hu193 (fun k hk hkb => by subst hkb; omega)
  obtain ⟨w207, hst208, hb2090, hu210, hf211⟩ := s_many (P := Try.prog) (t := 29) (i := 0) [iv ((countedV (cleanV u)).k), iv ((countedV (cleanV u)).nk), iv ((countedV (cleanV u)).nn), .bool ((countedV (cleanV u)).neg), sv A177 ((countedV (cleanV u)).mag) cc178, sv A180 ((countedV (cleanV u)).s) cc181, iv ((countedV (cleanV u)).ref)] Try.sizeOf29 rfl rfl rfl hb205 (Nat.le_of_ble_eq_true rfl)
  have hb209 : Blk w207 q13 29 [iv ((countedV (cleanV u)).k), iv ((countedV (cleanV u)).nk), iv ((countedV (cleanV u)).nn), .bool ((countedV (cleanV u)).neg), sv A177 ((countedV (cleanV u)).mag) cc178, sv A180 ((countedV (cleanV u)).s) cc181, iv ((countedV (cleanV u)).ref)] := hb2090
  refine st_act rfl rfl fun K212 hL213 => a_store' rfl h168 h176 hst208 (hL213 _ _ trivial ?_)
  have hr214 := hr197.far hb205 hu210 (by first | rfl | decide | simp [notK])
  have hr215 := hr198.far hb205 hu210 (by first | rfl | decide | simp [notK])
  have hr216 := hr199.far hb205 hu210 (by first | rfl | decide | simp [notK])
  have hr217 := hr200.far hb205 hu210 (by first | rfl | decide | simp [notK])
  have hr218 := hr201.far hb205 hu210 (by first | rfl | decide | simp [notK])
  have hr219 := hr202.far hb205 hu210 (by first | rfl | decide | simp [notK])
  have hr220 := hr203.far hb205 hu210 (by first | rfl | decide | simp [notK])
  have hr221 := hr204.far hb205 hu210 (by first | rfl | decide | simp [notK])
  have hb222 := hf211 _ _ _ (hne16) hb192
  have hN223 := hN206.trans hu210 (fun k hk hkb => by subst hkb; omega)
  refine st_nil (hK160 _ _ ?_)
  refine wp_seq_k fun K224 hK224 => ?_
  refine wp_seq_k fun K225 hK225 => ?_
  rcases Bool.eq_false_or_eq_true (decide (((countedV (cleanV v)).k) ≤ ((countedV (cleanV u)).k))) with ht226 | ht226
  have ht226d := of_decide_eq_true ht226
  refine wp_g0 [true, true, true, true, true] [] 91
    [ve (pv q9),
     ve (iv ((countedV (cleanV v)).k)),
     ve (pv q13),
     ve (iv ((countedV (cleanV u)).k)),
     ve (.bool false)] hs165 (.eq (.eq (.eq (.eq (.eq (.nil)))))) ?_ ?_
  refine .o1 (tk rfl rfl fun _ w hn k => ⟨_, v_field rfl (k.fx 2 h167) (fun w => rfl), rfl⟩) ?_
  refine .o1 (tk rfl rfl fun _ w hn k => ⟨_, v_load rfl (k.eq1 0 38 rfl) (l_one Try.isAgg3 ((hb222.new_ hn).cell 0)), rfl⟩) ?_
  refine .o1 (tk rfl rfl fun _ w hn k => ⟨_, v_field rfl (k.fx 3 h168) (fun w => rfl), rfl⟩) ?_
  refine .o1 (tk rfl rfl fun _ w hn k => ⟨_, v_load rfl (k.eq1 2 40 rfl) (l_one Try.isAgg3 ((hb209.new_ hn).cell 0)), rfl⟩) ?_
  refine .o1 (tk rfl rfl fun _ w hn k => ⟨_, v_bin rfl (k.eq1 1 39 rfl) (k.eq1 3 41 rfl) (fun _ => rfl) (r_gtrK ht226), rfl⟩) ?_
  exact .nil
  intro a227 w228 hn229 ha230
  obtain ⟨hs231, hd232, hN242⟩ := aft ha230 hs165 hd166 hN223 hn229
  have h233 := ha230.fx 2 h167
  have h234 := ha230.fx 3 h168
  have h235 := ha230.ge 4 42 rfl
  have hb236 := hb222.new_ hn229
  have hb237 := hb209.new_ hn229
  have hr238 := hr218.new_ hn229
  have hr239 := hr219.new_ hn229
  have hr240 := hr220.new_ hn229
  have hr241 := hr221.new_ hn229
  refine st_nil (hK225 _ _ ?_)
  refine wp_cond_false h235 ?_
  refine wp_skip ?_
  refine hK224 _ _ ?_
  refine wp_seq_k fun K243 hK243 => ?_
  refine wp_block ?_
  refine wp_seq_k fun K244 hK244 => ?_
  refine wp_g0 [true, true, true, true, true, true] [] 91
    [ve (pv q9),
     ve (iv ((countedV (cleanV v)).k)),
     ve (pv q13),
     ve (iv ((countedV (cleanV u)).k)),
     ve (.bool (decide (((countedV (cleanV v)).k) = ((countedV (cleanV u)).k)))),
     ve (.bool (decide (((countedV (cleanV v)).k) = ((countedV (cleanV u)).k))))] hs231 (.eq (.eq (.eq (.eq (.eq (.eq (.nil))))))) ?_ ?_
  refine .o1 (tk rfl rfl fun _ w hn k => ⟨_, v_field rfl (k.fx 2 h233) (fun w => rfl), rfl⟩) ?_
  refine .o1 (tk rfl rfl fun _ w hn k => ⟨_, v_load rfl (k.eq1 0 46 rfl) (l_one Try.isAgg3 ((hb236.new_ hn).cell 0)), rfl⟩) ?_
  refine .o1 (tk rfl rfl fun _ w hn k => ⟨_, v_field rfl (k.fx 3 h234) (fun w => rfl), rfl⟩) ?_
  refine .o1 (tk rfl rfl fun _ w hn k => ⟨_, v_load rfl (k.eq1 2 48 rfl) (l_one Try.isAgg3 ((hb237.new_ hn).cell 0)), rfl⟩) ?_
  refine .o1 (tk rfl rfl fun _ w hn k => ⟨_, v_bin rfl (k.eq1 1 47 rfl) (k.eq1 3 49 rfl) (fun _ => rfl) (r_eql rfl), rfl⟩) ?_
  refine .o1 (tk rfl rfl fun _ w hn k => ⟨_, v_assign rfl (k.eq1 4 50 rfl), rfl⟩) ?_
  exact .nil
  intro a245 w246 hn247 ha248
  obtain ⟨hs249, hd250, hN260⟩ := aft ha248 hs231 hd232 hN242 hn247
  have h251 := ha248.fx 2 h233
  have h252 := ha248.fx 3 h234
  have h253 := ha248.ge 5 45 rfl
  have hb254 := hb236.new_ hn247
  have hb255 := hb237.new_ hn247
  have hr256 := hr238.new_ hn247
  have hr257 := hr239.new_ hn247
  have hr258 := hr240.new_ hn247
  have hr259 := hr241.new_ hn247
  refine st_nil (hK244 _ _ ?_)
  rcases Bool.eq_false_or_eq_true (decide (((countedV (cleanV v)).k) = ((countedV (cleanV u)).k))) with ht261 | ht261
  have ht261d := of_decide_eq_true ht261
  have hv262 := hB h253 ht261
  refine wp_cond_true hv262 ?_
  refine wp_seq_k fun K263 hK263 => ?_
  refine wp_g0 [true, true, true, true, true] [] 91
    [ve (vv (countedV (cleanV v)) A170 cc171 A173 cc174),
     ve (vv (countedV (cleanV u)) A177 cc178 A180 cc181),
     ve (.bool (strictV (countedV (cleanV v)) (countedV (cleanV u)))),
     ve (.bool (strictV (countedV (cleanV v)) (countedV (cleanV u)))),
     ve (iv 0)] hs249 (.eq (.eq (.eq (.eq (.eq (.nil)))))) ?_ ?_
  refine .o1 (tk rfl rfl fun _ w hn k => ⟨_, v_load rfl (k.fx 2 h251) (l_agg Try.isAgg29 Try.sizeOf29 (hb254.new_ hn) rfl), rfl⟩) ?_
  refine .o1 (tk rfl rfl fun _ w hn k => ⟨_, v_load rfl (k.fx 3 h252) (l_agg Try.isAgg29 Try.sizeOf29 (hb255.new_ hn) rfl), rfl⟩) ?_
  refine .o1 (ck rfl rfl rfl (fun _ w hn k => ⟨#[vv (countedV (cleanV v)) A170 cc171 A173 cc174, vv (countedV (cleanV u)) A177 cc178 A180 cc181], args2 (k.eq1 0 51 rfl) (k.eq1 1 52 rfl), fun _ => by kernel_rfl, cstrict_c (countedV (cleanV v)) _ _ _ _ (countedV (cleanV u)) _ _ _ _ _ (hr256.new_ hn) (hr257.new_ hn) (hr258.new_ hn) (hr259.new_ hn)⟩) fun _ => rfl) ?_
  refine .o1 (tk rfl rfl fun _ w hn k => ⟨_, v_assign rfl (k.eq1 2 53 rfl), rfl⟩) ?_
  refine .o1 (tk rfl rfl fun _ w hn k => ⟨_, v_assign rfl rfl, rfl⟩) ?_
  exact .nil
  intro a264 w265 hn266 ha267
  obtain ⟨hs268, hd269, hN272⟩ := aft ha267 hs249 hd250 hN260 hn266
  have h270 := ha267.ge 3 4 rfl
  have h271 := ha267.ge 4 5 rfl
  refine st_nil (hK263 _ _ ?_)
  refine wp_ret (ret_k hd269 (v := .tuple #[.bool (strictV (countedV (cleanV v)) (countedV (cleanV u))), iv 0]) (res_tt rfl h270 h271 _) ?_)
  refine ⟨?_, hN272⟩
  show Ending.returned (.tuple #[.bool (strictV (countedV (cleanV v)) (countedV (cleanV u))), iv 0]) = Ending.returned (.tuple #[.bool ((looseV v u).1), iv ((looseV v u).2)])
  first | rfl | (simp only [looseV, loose1, loose2, loose3, noneV, ht90, ht104, ht147, ht226, ht261, bsm] <;> rfl) | (simp [looseV, loose1, loose2, loose3, noneV, ht90, ht104, ht147, ht226, ht261]; done) | (exfalso; omega)
  have ht261d := of_decide_eq_false ht261
  have hv273 := hB h253 ht261
  refine wp_cond_false hv273 ?_
  refine wp_seq_k fun K274 hK274 => ?_
  rcases Bool.eq_false_or_eq_true (decide (((countedV (cleanV v)).k) = 3)) with ht275 | ht275
  have ht275d := of_decide_eq_true ht275
  refine wp_g0 [true, true, true, true, true, true, true, true, true] [] 91
    [ve (pv q9),
     ve (iv ((countedV (cleanV v)).k)),
     ve (.bool true),
     ve (.bool true),
     ve (pv q13),
     ve (iv ((countedV (cleanV u)).k)),
     ve (.bool (decide (((countedV (cleanV u)).k) = 4))),
     ve (.bool (decide (((countedV (cleanV u)).k) = 4))),
     ve (.bool (decide (((countedV (cleanV u)).k) = 4)))] hs249 (.eq (.eq (.eq (.eq (.eq (.eq (.eq (.eq (.eq (.nil)))))))))) ?_ ?_
  refine .o1 (tk rfl rfl fun _ w hn k => ⟨_, v_field rfl (k.fx 2 h251) (fun w => rfl), rfl⟩) ?_
  refine .o1 (tk rfl rfl fun _ w hn k => ⟨_, v_load rfl (k.eq1 0 55 rfl) (l_one Try.isAgg3 ((hb254.new_ hn).cell 0)), rfl⟩) ?_
  refine .o1 (tk rfl rfl fun _ w hn k => ⟨_, v_bin rfl (k.eq1 1 56 rfl) rfl (fun _ => rfl) (r_eql ht275), rfl⟩) ?_
  refine .o1 (tk rfl rfl fun _ w hn k => ⟨_, v_move rfl (k.eq1 2 57 rfl), rfl⟩) ?_
  refine .o1 (tg rfl rfl rfl (fun _ _ k => k.eq1 3 58 rfl) fun _ w hn k => ⟨_, v_field rfl (k.fx 3 h252) (fun w => rfl), rfl⟩) ?_
  refine .o1 (tg rfl rfl rfl (fun _ _ k => k.eq1 3 58 rfl) fun _ w hn k => ⟨_, v_load rfl (k.eq1 4 59 rfl) (l_one Try.isAgg3 ((hb255.new_ hn).cell 0)), rfl⟩) ?_
  refine .o1 (tg rfl rfl rfl (fun _ _ k => k.eq1 3 58 rfl) fun _ w hn k => ⟨_, v_bin rfl (k.eq1 5 60 rfl) rfl (fun _ => rfl) (r_eql rfl), rfl⟩) ?_
  refine .o1 (tk rfl rfl fun _ w hn k => ⟨_, v_pickT rfl (k.eq1 3 58 rfl) (k.eq1 6 61 rfl), rfl⟩) ?_
  refine .o1 (tk rfl rfl fun _ w hn k => ⟨_, v_assign rfl (k.eq1 7 62 rfl), rfl⟩) ?_
  exact .nil
  intro a276 w277 hn278 ha279
  obtain ⟨hs280, hd281, hN291⟩ := aft ha279 hs249 hd250 hN260 hn278
  have h282 := ha279.fx 2 h251
  have h283 := ha279.fx 3 h252
  have h284 := ha279.ge 8 54 rfl
  have hb285 := hb254.new_ hn278
  have hb286 := hb255.new_ hn278
  have hr287 := hr256.new_ hn278
  have hr288 := hr257.new_ hn278
  have hr289 := hr258.new_ hn278
  have hr290 := hr259.new_ hn278
  refine st_nil (hK274 _ _ ?_)
  rcases Bool.eq_false_or_eq_true (decide (((countedV (cleanV u)).k) = 4)) with ht292 | ht292
  have ht292d := of_decide_eq_true ht292
  have hv293 := hB h284 ht292
  refine wp_cond_true hv293 ?_
  refine wp_seq_k fun K294 hK294 => ?_
  refine wp_g0 [true, true, true, true, true, true, true] [] 91
    [ve (.pointer (some ⟨q13, 3, none⟩)),
     ve (.agg #[.bool ((countedV (cleanV u)).neg), sv A177 ((countedV (cleanV u)).mag) cc178]),
     ve (.pointer (some ⟨q9, 1, none⟩)),
     ve (nv (Nm.mk ((countedV (cleanV v)).nk) ((countedV (cleanV v)).nn))),
     ve (.bool (alikeB ((countedV (cleanV u)).neg) ((countedV (cleanV u)).mag) (Nm.mk ((countedV (cleanV v)).nk) ((countedV (cleanV v)).nn)))),
     ve (.bool (alikeB ((countedV (cleanV u)).neg) ((countedV (cleanV u)).mag) (Nm.mk ((countedV (cleanV v)).nk) ((countedV (cleanV v)).nn)))),
     ve (iv 0)] hs280 (.eq (.eq (.eq (.eq (.eq (.eq (.eq (.nil)))))))) ?_ ?_
  refine .o1 (tk rfl rfl fun _ w hn k => ⟨_, v_field rfl (k.fx 3 h283) (fun w => rfl), rfl⟩) ?_
  refine .o1 (tk rfl rfl fun _ w hn k => ⟨_, v_load rfl (k.eq1 0 63 rfl) (l_part Try.isAgg26 Try.sizeOf26 (hb286.new_ hn) (Nat.le_of_ble_eq_true rfl)), rfl⟩) ?_
  refine .o1 (tk rfl rfl fun _ w hn k => ⟨_, v_field rfl (k.fx 2 h282) (fun w => rfl), rfl⟩) ?_
  refine .o1 (tk rfl rfl fun _ w hn k => ⟨_, v_load rfl (k.eq1 2 65 rfl) (l_part Try.isAgg23 Try.sizeOf23 (hb285.new_ hn) (Nat.le_of_ble_eq_true rfl)), rfl⟩) ?_
  refine .o1 (ck rfl rfl rfl (fun _ w hn k => ⟨#[.agg #[.bool ((countedV (cleanV u)).neg), sv A177 ((countedV (cleanV u)).mag) cc178], nv (Nm.mk ((countedV (cleanV v)).nk) ((countedV (cleanV v)).nn))], args2 (k.eq1 1 64 rfl) (k.eq1 3 66 rfl), fun _ => by kernel_rfl, alike_c ((countedV (cleanV u)).neg) _ ((countedV (cleanV u)).mag) _ (Nm.mk ((countedV (cleanV v)).nk) ((countedV (cleanV v)).nn)) _ (hr289.new_ hn) hvu.clean.counted.limbs (by first | omega | (simp only [List.length_nil, List.length_take, List.length_drop]; omega) | (simp only [List.length_cons, List.length_nil]; omega)) (by omega) (by omega)⟩) fun _ => rfl) ?_
  refine .o1 (tk rfl rfl fun _ w hn k => ⟨_, v_assign rfl (k.eq1 4 67 rfl), rfl⟩) ?_
  refine .o1 (tk rfl rfl fun _ w hn k => ⟨_, v_assign rfl rfl, rfl⟩) ?_
  exact .nil
  intro a295 w296 hn297 ha298
  obtain ⟨hs299, hd300, hN303⟩ := aft ha298 hs280 hd281 hN291 hn297
  have h301 := ha298.ge 5 4 rfl
  have h302 := ha298.ge 6 5 rfl
  refine st_nil (hK294 _ _ ?_)
  refine wp_ret (ret_k hd300 (v := .tuple #[.bool (alikeB ((countedV (cleanV u)).neg) ((countedV (cleanV u)).mag) (Nm.mk ((countedV (cleanV v)).nk) ((countedV (cleanV v)).nn))), iv 0]) (res_tt rfl h301 h302 _) ?_)
  refine ⟨?_, hN303⟩
  show Ending.returned (.tuple #[.bool (alikeB ((countedV (cleanV u)).neg) ((countedV (cleanV u)).mag) (Nm.mk ((countedV (cleanV v)).nk) ((countedV (cleanV v)).nn))), iv 0]) = Ending.returned (.tuple #[.bool ((looseV v u).1), iv ((looseV v u).2)])
  first | rfl | (simp only [looseV, loose1, loose2, loose3, noneV, ht90, ht104, ht147, ht226, ht261, ht275, ht292, bsm] <;> rfl) | (simp [looseV, loose1, loose2, loose3, noneV, ht90, ht104, ht147, ht226, ht261, ht275, ht292]; done) | (exfalso; omega)
  have ht292d := of_decide_eq_false ht292
  have hv304 := hB h284 ht292
  refine wp_cond_false hv304 ?_
  refine wp_seq_k fun K305 hK305 => ?_
  refine wp_g0 [true, true, true, true, true, true, true, true, true] [] 91
    [ve (pv q9),
     ve (iv ((countedV (cleanV v)).k)),
     ve (.bool true),
     ve (.bool true),
     ve (pv q13),
     ve (iv ((countedV (cleanV u)).k)),
     ve (.bool (decide (((countedV (cleanV u)).k) = 5))),
     ve (.bool (decide (((countedV (cleanV u)).k) = 5))),
     ve (.bool (decide (((countedV (cleanV u)).k) = 5)))] hs280 (.eq (.eq (.eq (.eq (.eq (.eq (.eq (.eq (.eq (.nil)))))))))) ?_ ?_
  refine .o1 (tk rfl rfl fun _ w hn k => ⟨_, v_field rfl (k.fx 2 h282) (fun w => rfl), rfl⟩) ?_
  refine .o1 (tk rfl rfl fun _ w hn k => ⟨_, v_load rfl (k.eq1 0 69 rfl) (l_one Try.isAgg3 ((hb285.new_ hn).cell 0)), rfl⟩) ?_
  refine .o1 (tk rfl rfl fun _ w hn k => ⟨_, v_bin rfl (k.eq1 1 70 rfl) rfl (fun _ => rfl) (r_eql ht275), rfl⟩) ?_
  refine .o1 (tk rfl rfl fun _ w hn k => ⟨_, v_move rfl (k.eq1 2 71 rfl), rfl⟩) ?_
  refine .o1 (tg rfl rfl rfl (fun _ _ k => k.eq1 3 72 rfl) fun _ w hn k => ⟨_, v_field rfl (k.fx 3 h283) (fun w => rfl), rfl⟩) ?_
  refine .o1 (tg rfl rfl rfl (fun _ _ k => k.eq1 3 72 rfl) fun _ w hn k => ⟨_, v_load rfl (k.eq1 4 73 rfl) (l_one Try.isAgg3 ((hb286.new_ hn).cell 0)), rfl⟩) ?_
  refine .o1 (tg rfl rfl rfl (fun _ _ k => k.eq1 3 72 rfl) fun _ w hn k => ⟨_, v_bin rfl (k.eq1 5 74 rfl) rfl (fun _ => rfl) (r_eql rfl), rfl⟩) ?_
  refine .o1 (tk rfl rfl fun _ w hn k => ⟨_, v_pickT rfl (k.eq1 3 72 rfl) (k.eq1 6 75 rfl), rfl⟩) ?_
  refine .o1 (tk rfl rfl fun _ w hn k => ⟨_, v_assign rfl (k.eq1 7 76 rfl), rfl⟩) ?_
  exact .nil
  intro a306 w307 hn308 ha309
  obtain ⟨hs310, hd311, hN321⟩ := aft ha309 hs280 hd281 hN291 hn308
  have h312 := ha309.fx 2 h282
  have h313 := ha309.fx 3 h283
  have h314 := ha309.ge 8 68 rfl
  have hb315 := hb285.new_ hn308
  have hb316 := hb286.new_ hn308
  have hr317 := hr287.new_ hn308
  have hr318 := hr288.new_ hn308
  have hr319 := hr289.new_ hn308
  have hr320 := hr290.new_ hn308
  refine st_nil (hK305 _ _ ?_)
  rcases Bool.eq_false_or_eq_true (decide (((countedV (cleanV u)).k) = 5)) with ht322 | ht322
  have ht322d := of_decide_eq_true ht322
  have hv323 := hB h314 ht322
  refine wp_cond_true hv323 ?_
  refine wp_seq_k fun K324 hK324 => ?_
  refine wp_g [true, true, true, true, true, true, false, false] [4] [(6, false), (7, true)] 91
    [ve (vv (countedV (cleanV u)) A177 cc178 A180 cc181),
     ve (.tuple #[nv ((numberV (countedV (cleanV u))).1), iv ((numberV (countedV (cleanV u))).2)]),
     ve (.tuple #[nv ((numberV (countedV (cleanV u))).1), iv ((numberV (countedV (cleanV u))).2)]),
     ve (nv ((numberV (countedV (cleanV u))).1)),
     ve (iv ((numberV (countedV (cleanV u))).2)),
     IsNew w307 23 [iv 0, iv 0],
     vt,
     vt]
    [5] (newsCons (fun v w h => IsNew.old h) newsNil) hs310 (.eq (.eq (.eq (.eq (.eq (.nw (.tt (.tt (.nil))))))))) ?_ ?_ ?_
  refine .o1 (tk rfl rfl fun _ w hn k => ⟨_, v_load rfl (k.fx 3 h313) (l_agg Try.isAgg29 Try.sizeOf29 (hb316.new_ hn) rfl), rfl⟩) ?_
  refine .o1 (ck rfl rfl rfl (fun _ w hn k => ⟨#[vv (countedV (cleanV u)) A177 cc178 A180 cc181], args1 (k.eq1 0 78 rfl), fun _ => by kernel_rfl, cnumber_c (countedV (cleanV u)) _ _ _ _ _ (hr319.new_ hn) (hr320.new_ hn) hvu.clean.counted⟩) fun _ => rfl) ?_
  refine .o1 (tk rfl rfl fun _ w hn k => ⟨_, v_move rfl (k.eq1 1 79 rfl), rfl⟩) ?_
  refine .o1 (tk rfl rfl fun _ w hn k => ⟨_, v_extract rfl (k.eq1 2 77 rfl) rfl, rfl⟩) ?_
  refine .o3 ?_
  refine .o2 (step_allocN (cs := [iv 0, iv 0]) (t := 23) rfl (noG rfl) (fun _ w hn k => rfl) (fun q _ hq hb => ⟨q, rfl, hq, hb⟩)) ?_
  refine .off ?_
  refine .off ?_
  exact .nil
  intro i h
  simp only [List.contains_eq_mem, List.mem_cons, List.not_mem_nil, or_false, decide_eq_true_eq] at h
  subst h
  exact eager_take rfl rfl fun _ w hn k => ⟨iv ((numberV (countedV (cleanV u))).2), fun w => v_extract rfl (k.eq1 2 77 rfl) rfl, rfl⟩
  intro a325 w326 hn327 ha328
  obtain ⟨hs329, hd330, hN343⟩ := aft ha328 hs310 hd311 hN321 hn327
  have h331 := ha328.fx 2 h312
  have h332 := ha328.ge 3 80 rfl
  have h333 := ha328.ge 4 81 rfl
  obtain ⟨q335, h334, hq336, hb337⟩ : IsNew _ _ _ _ _ := ha328.got 5 6 rfl (by kernel_rfl)
  have hb338 := hb315.new_ hn327
  have hne339 : q9 ≠ q335 := by have h1 := hb315.lt; have h2 := hq336; omega
  have hq340 := Nat.le_trans hN321.size hq336
  have hr341 := hr317.new_ hn327
  have hr342 := hr318.new_ hn327
  obtain ⟨w344, -, hst345, hb346, hu347, hf348⟩ := s_two (v0 := iv ((numberV (countedV (cleanV u))).1.k)) (v1 := iv ((numberV (countedV (cleanV u))).1.n)) Try.sizeOf23 rfl rfl rfl hb337
  refine st_act rfl rfl fun K349 hL350 => a_store' rfl h334 h332 hst345 (hL350 _ _ trivial ?_)
  have hr351 := hr341.far hb337 hu347 (by first | rfl | decide | simp [notK])
  have hr352 := hr342.far hb337 hu347 (by first | rfl | decide | simp [notK])
  have hb353 := hf348 _ _ _ (hne339) hb338
  have hN354 := hN343.trans hu347 (fun k hk hkb => by subst hkb; omega)
  refine st_take rfl rfl (y_assign (v := iv ((numberV (countedV (cleanV u))).2)) rfl h333) rfl ?_
  obtain ⟨a355, ha356⟩ : ∃ a', a' = a325.put (some 7) (iv ((numberV (countedV (cleanV u))).2)) := ⟨_, rfl⟩
  have hs357 : a355.tmps.size = 91 := by rw [ha356, put_size]; exact hs329
  have hd358 : a355.defers = [] := by rw [ha356, put_defers]; exact hd330
  have h359 := pn ha356 h331 (by decide)
  have h360 := pn ha356 h332 (by decide)
  have h361 := pn ha356 h333 (by decide)
  have h362 := pn ha356 h334 (by decide)
  have h363 : a355.eval (.tmp 7) = iv ((numberV (countedV (cleanV u))).2) := by rw [ha356]; exact put_same _ _ _ (by rw [hs329]; decide)
  show stepsTo _ _ _ _ _ (a325.put (some 7) (iv ((numberV (countedV (cleanV u))).2))) _
  rw [← ha356]
  refine st_nil (hK324 _ _ ?_)
  refine wp_seq_k fun K364 hK364 => ?_
  rcases Bool.eq_false_or_eq_true (decide (((numberV (countedV (cleanV u))).2) = 0)) with ht365 | ht365
  have ht365d := of_decide_eq_true ht365
  refine wp_g0 [true, true, true, true, true, true, true, true, true, true, true] [] 91
    [ve (iv ((numberV (countedV (cleanV u))).2)),
     ve (.bool true),
     ve (.bool true),
     ve (.pointer (some ⟨q9, 1, none⟩)),
     ve (nv (Nm.mk ((countedV (cleanV v)).nk) ((countedV (cleanV v)).nn))),
     ve (nv ((numberV (countedV (cleanV u))).1)),
     ve (.bool (equalM (Nm.mk ((countedV (cleanV v)).nk) ((countedV (cleanV v)).nn)) ((numberV (countedV (cleanV u))).1))),
     ve (.bool (equalM (Nm.mk ((countedV (cleanV v)).nk) ((countedV (cleanV v)).nn)) ((numberV (countedV (cleanV u))).1))),
     ve (iv ((numberV (countedV (cleanV u))).2)),
     ve (.bool (equalM (Nm.mk ((countedV (cleanV v)).nk) ((countedV (cleanV v)).nn)) ((numberV (countedV (cleanV u))).1))),
     ve (iv ((numberV (countedV (cleanV u))).2))] hs357 (.eq (.eq (.eq (.eq (.eq (.eq (.eq (.eq (.eq (.eq (.eq (.nil)))))))))))) ?_ ?_
  refine .o1 (tk rfl rfl fun _ w hn k => ⟨_, v_move rfl (k.fx 7 h363), rfl⟩) ?_
  refine .o1 (tk rfl rfl fun _ w hn k => ⟨_, v_bin rfl (k.eq1 0 82 rfl) rfl (fun _ => rfl) (r_eql ht365), rfl⟩) ?_
  refine .o1 (tk rfl rfl fun _ w hn k => ⟨_, v_move rfl (k.eq1 1 83 rfl), rfl⟩) ?_
  refine .o1 (tg rfl rfl rfl (fun _ _ k => k.eq1 2 84 rfl) fun _ w hn k => ⟨_, v_field rfl (k.fx 2 h359) (fun w => rfl), rfl⟩) ?_
  refine .o1 (tg rfl rfl rfl (fun _ _ k => k.eq1 2 84 rfl) fun _ w hn k => ⟨_, v_load rfl (k.eq1 3 85 rfl) (l_part Try.isAgg23 Try.sizeOf23 (hb353.new_ hn) (Nat.le_of_ble_eq_true rfl)), rfl⟩) ?_
  refine .o1 (tg rfl rfl rfl (fun _ _ k => k.eq1 2 84 rfl) fun _ w hn k => ⟨_, v_load rfl (k.fx 6 h362) (l_two Try.isAgg23 Try.sizeOf23 (hb346.new_ hn)), rfl⟩) ?_
  refine .o1 (cg rfl rfl rfl (fun _ _ k => k.eq1 2 84 rfl) rfl (fun _ w hn k => ⟨#[nv (Nm.mk ((countedV (cleanV v)).nk) ((countedV (cleanV v)).nn)), nv ((numberV (countedV (cleanV u))).1)], args2 (k.eq1 4 86 rfl) (k.eq1 5 87 rfl), fun _ => by kernel_rfl, equal_c (Nm.mk ((countedV (cleanV v)).nk) ((countedV (cleanV v)).nn)) ((numberV (countedV (cleanV u))).1) _ ⟩) fun _ => rfl) ?_
  refine .o1 (tk rfl rfl fun _ w hn k => ⟨_, v_pickT rfl (k.eq1 2 84 rfl) (k.eq1 6 88 rfl), rfl⟩) ?_
  refine .o1 (tk rfl rfl fun _ w hn k => ⟨_, v_move rfl (k.fx 7 h363), rfl⟩) ?_
  refine .o1 (tk rfl rfl fun _ w hn k => ⟨_, v_assign rfl (k.eq1 7 89 rfl), rfl⟩) ?_
  refine .o1 (tk rfl rfl fun _ w hn k => ⟨_, v_assign rfl (k.eq1 8 90 rfl), rfl⟩) ?_
  exact .nil
  intro a366 w367 hn368 ha369
  obtain ⟨hs370, hd371, hN374⟩ := aft ha369 hs357 hd358 hN354 hn368
  have h372 := ha369.ge 9 4 rfl
  have h373 := ha369.ge 10 5 rfl
  refine st_nil (hK364 _ _ ?_)
  refine wp_ret (ret_k hd371 (v := .tuple #[.bool (equalM (Nm.mk ((countedV (cleanV v)).nk) ((countedV (cleanV v)).nn)) ((numberV (countedV (cleanV u))).1)), iv ((numberV (countedV (cleanV u))).2)]) (res_tt rfl h372 h373 _) ?_)
  refine ⟨?_, hN374⟩
  show Ending.returned (.tuple #[.bool (equalM (Nm.mk ((countedV (cleanV v)).nk) ((countedV (cleanV v)).nn)) ((numberV (countedV (cleanV u))).1)), iv ((numberV (countedV (cleanV u))).2)]) = Ending.returned (.tuple #[.bool ((looseV v u).1), iv ((looseV v u).2)])
  first | rfl | (simp only [looseV, loose1, loose2, loose3, noneV, ht90, ht104, ht147, ht226, ht261, ht275, ht292, ht322, ht365, bsm] <;> rfl) | (simp [looseV, loose1, loose2, loose3, noneV, ht90, ht104, ht147, ht226, ht261, ht275, ht292, ht322, ht365]; done) | (exfalso; omega)
  have ht365d := of_decide_eq_false ht365
  refine wp_g0 [true, true, true, true, true, true, true, true, true, true, true] [] 91
    [ve (iv ((numberV (countedV (cleanV u))).2)),
     ve (.bool false),
     ve (.bool false),
     ve undef,
     ve undef,
     ve undef,
     ve undef,
     ve (.bool false),
     ve (iv ((numberV (countedV (cleanV u))).2)),
     ve (.bool false),
     ve (iv ((numberV (countedV (cleanV u))).2))] hs357 (.eq (.eq (.eq (.eq (.eq (.eq (.eq (.eq (.eq (.eq (.eq (.nil)))))))))))) ?_ ?_
  refine .o1 (tk rfl rfl fun _ w hn k => ⟨_, v_move rfl (k.fx 7 h363), rfl⟩) ?_
  refine .o1 (tk rfl rfl fun _ w hn k => ⟨_, v_bin rfl (k.eq1 0 82 rfl) rfl (fun _ => rfl) (r_eql ht365), rfl⟩) ?_
  refine .o1 (tk rfl rfl fun _ w hn k => ⟨_, v_move rfl (k.eq1 1 83 rfl), rfl⟩) ?_
  refine .o1 (sk rfl rfl rfl (fun _ _ _ k => k.eq1 2 84 rfl) (fun _ => rfl)) ?_
  refine .o1 (sk rfl rfl rfl (fun _ _ _ k => k.eq1 2 84 rfl) (fun _ => rfl)) ?_
  refine .o1 (sk rfl rfl rfl (fun _ _ _ k => k.eq1 2 84 rfl) (fun _ => rfl)) ?_
  refine .o1 (sk rfl rfl rfl (fun _ _ _ k => k.eq1 2 84 rfl) (fun _ => rfl)) ?_
  refine .o1 (tk rfl rfl fun _ w hn k => ⟨_, v_pickF rfl (k.eq1 2 84 rfl) rfl, rfl⟩) ?_
  refine .o1 (tk rfl rfl fun _ w hn k => ⟨_, v_move rfl (k.fx 7 h363), rfl⟩) ?_
  refine .o1 (tk rfl rfl fun _ w hn k => ⟨_, v_assign rfl (k.eq1 7 89 rfl), rfl⟩) ?_
  refine .o1 (tk rfl rfl fun _ w hn k => ⟨_, v_assign rfl (k.eq1 8 90 rfl), rfl⟩) ?_
  exact .nil
  intro a375 w376 hn377 ha378
  obtain ⟨hs379, hd380, hN383⟩ := aft ha378 hs357 hd358 hN354 hn377
  have h381 := ha378.ge 9 4 rfl
  have h382 := ha378.ge 10 5 rfl
  refine st_nil (hK364 _ _ ?_)
  refine wp_ret (ret_k hd380 (v := .tuple #[.bool false, iv ((numberV (countedV (cleanV u))).2)]) (res_tt rfl h381 h382 _) ?_)
  refine ⟨?_, hN383⟩
  show Ending.returned (.tuple #[.bool false, iv ((numberV (countedV (cleanV u))).2)]) = Ending.returned (.tuple #[.bool ((looseV v u).1), iv ((looseV v u).2)])
  first | rfl | (simp only [looseV, loose1, loose2, loose3, noneV, ht90, ht104, ht147, ht226, ht261, ht275, ht292, ht322, ht365, bsm] <;> rfl) | (simp [looseV, loose1, loose2, loose3, noneV, ht90, ht104, ht147, ht226, ht261, ht275, ht292, ht322, ht365]; done) | (exfalso; omega)
  have ht322d := of_decide_eq_false ht322
  have hv384 := hB h314 ht322
  refine wp_cond_false hv384 ?_
  refine wp_skip ?_
  refine hK243 _ _ ?_
  refine wp_seq_k fun K385 hK385 => ?_
  refine wp_g0 [true, true] [] 91
    [ve (.bool false),
     ve (iv 3)] hs310 (.eq (.eq (.nil))) ?_ ?_
  refine .o1 (tk rfl rfl fun _ w hn k => ⟨_, v_assign rfl rfl, rfl⟩) ?_
  refine .o1 (tk rfl rfl fun _ w hn k => ⟨_, v_assign rfl rfl, rfl⟩) ?_
  exact .nil
  intro a386 w387 hn388 ha389
  obtain ⟨hs390, hd391, hN394⟩ := aft ha389 hs310 hd311 hN321 hn388
  have h392 := ha389.ge 0 4 rfl
  have h393 := ha389.ge 1 5 rfl
  refine st_nil (hK385 _ _ ?_)
  refine wp_ret (ret_k hd391 (v := .tuple #[.bool false, iv 3]) (res_tt rfl h392 h393 _) ?_)
  refine ⟨?_, hN394⟩
  show Ending.returned (.tuple #[.bool false, iv 3]) = Ending.returned (.tuple #[.bool ((looseV v u).1), iv ((looseV v u).2)])
  first | rfl | (simp only [looseV, loose1, loose2, loose3, noneV, ht90, ht104, ht147, ht226, ht261, ht275, ht292, ht322, bsm] <;> rfl) | (simp [looseV, loose1, loose2, loose3, noneV, ht90, ht104, ht147, ht226, ht261, ht275, ht292, ht322]; done) | (exfalso; omega)
  have ht275d := of_decide_eq_false ht275
  refine wp_g0 [true, true, true, true, true, true, true, true, true] [] 91
    [ve (pv q9),
     ve (iv ((countedV (cleanV v)).k)),
     ve (.bool false),
     ve (.bool false),
     ve undef,
     ve undef,
     ve undef,
     ve (.bool false),
     ve (.bool false)] hs249 (.eq (.eq (.eq (.eq (.eq (.eq (.eq (.eq (.eq (.nil)))))))))) ?_ ?_
  refine .o1 (tk rfl rfl fun _ w hn k => ⟨_, v_field rfl (k.fx 2 h251) (fun w => rfl), rfl⟩) ?_
  refine .o1 (tk rfl rfl fun _ w hn k => ⟨_, v_load rfl (k.eq1 0 55 rfl) (l_one Try.isAgg3 ((hb254.new_ hn).cell 0)), rfl⟩) ?_
  refine .o1 (tk rfl rfl fun _ w hn k => ⟨_, v_bin rfl (k.eq1 1 56 rfl) rfl (fun _ => rfl) (r_eql ht275), rfl⟩) ?_
  refine .o1 (tk rfl rfl fun _ w hn k => ⟨_, v_move rfl (k.eq1 2 57 rfl), rfl⟩) ?_
  refine .o1 (sk rfl rfl rfl (fun _ _ _ k => k.eq1 3 58 rfl) (fun _ => rfl)) ?_
  refine .o1 (sk rfl rfl rfl (fun _ _ _ k => k.eq1 3 58 rfl) (fun _ => rfl)) ?_
  refine .o1 (sk rfl rfl rfl (fun _ _ _ k => k.eq1 3 58 rfl) (fun _ => rfl)) ?_
  refine .o1 (tk rfl rfl fun _ w hn k => ⟨_, v_pickF rfl (k.eq1 3 58 rfl) rfl, rfl⟩) ?_
  refine .o1 (tk rfl rfl fun _ w hn k => ⟨_, v_assign rfl (k.eq1 7 62 rfl), rfl⟩) ?_
  exact .nil
  intro a395 w396 hn397 ha398
  obtain ⟨hs399, hd400, hN410⟩ := aft ha398 hs249 hd250 hN260 hn397
  have h401 := ha398.fx 2 h251
  have h402 := ha398.fx 3 h252
  have h403 := ha398.ge 8 54 rfl
  have hb404 := hb254.new_ hn397
  have hb405 := hb255.new_ hn397
  have hr406 := hr256.new_ hn397
  have hr407 := hr257.new_ hn397
  have hr408 := hr258.new_ hn397
  have hr409 := hr259.new_ hn397
  refine st_nil (hK274 _ _ ?_)
  refine wp_cond_false h403 ?_
  refine wp_seq_k fun K411 hK411 => ?_
  refine wp_g0 [true, true, true, true, true, true, true, true, true] [] 91
    [ve (pv q9),
     ve (iv ((countedV (cleanV v)).k)),
     ve (.bool false),
     ve (.bool false),
     ve undef,
     ve undef,
     ve undef,
     ve (.bool false),
     ve (.bool false)] hs399 (.eq (.eq (.eq (.eq (.eq (.eq (.eq (.eq (.eq (.nil)))))))))) ?_ ?_
  refine .o1 (tk rfl rfl fun _ w hn k => ⟨_, v_field rfl (k.fx 2 h401) (fun w => rfl), rfl⟩) ?_
  refine .o1 (tk rfl rfl fun _ w hn k => ⟨_, v_load rfl (k.eq1 0 69 rfl) (l_one Try.isAgg3 ((hb404.new_ hn).cell 0)), rfl⟩) ?_
  refine .o1 (tk rfl rfl fun _ w hn k => ⟨_, v_bin rfl (k.eq1 1 70 rfl) rfl (fun _ => rfl) (r_eql ht275), rfl⟩) ?_
  refine .o1 (tk rfl rfl fun _ w hn k => ⟨_, v_move rfl (k.eq1 2 71 rfl), rfl⟩) ?_
  refine .o1 (sk rfl rfl rfl (fun _ _ _ k => k.eq1 3 72 rfl) (fun _ => rfl)) ?_
  refine .o1 (sk rfl rfl rfl (fun _ _ _ k => k.eq1 3 72 rfl) (fun _ => rfl)) ?_
  refine .o1 (sk rfl rfl rfl (fun _ _ _ k => k.eq1 3 72 rfl) (fun _ => rfl)) ?_
  refine .o1 (tk rfl rfl fun _ w hn k => ⟨_, v_pickF rfl (k.eq1 3 72 rfl) rfl, rfl⟩) ?_
  refine .o1 (tk rfl rfl fun _ w hn k => ⟨_, v_assign rfl (k.eq1 7 76 rfl), rfl⟩) ?_
  exact .nil
  intro a412 w413 hn414 ha415
  obtain ⟨hs416, hd417, hN427⟩ := aft ha415 hs399 hd400 hN410 hn414
  have h418 := ha415.fx 2 h401
  have h419 := ha415.fx 3 h402
  have h420 := ha415.ge 8 68 rfl
  have hb421 := hb404.new_ hn414
  have hb422 := hb405.new_ hn414
  have hr423 := hr406.new_ hn414
  have hr424 := hr407.new_ hn414
  have hr425 := hr408.new_ hn414
  have hr426 := hr409.new_ hn414
  refine st_nil (hK411 _ _ ?_)
  refine wp_cond_false h420 ?_
  refine wp_skip ?_
  refine hK243 _ _ ?_
  refine wp_seq_k fun K428 hK428 => ?_
  refine wp_g0 [true, true] [] 91
    [ve (.bool false),
     ve (iv 3)] hs416 (.eq (.eq (.nil))) ?_ ?_
  refine .o1 (tk rfl rfl fun _ w hn k => ⟨_, v_assign rfl rfl, rfl⟩) ?_
  refine .o1 (tk rfl rfl fun _ w hn k => ⟨_, v_assign rfl rfl, rfl⟩) ?_
  exact .nil
  intro a429 w430 hn431 ha432
  obtain ⟨hs433, hd434, hN437⟩ := aft ha432 hs416 hd417 hN427 hn431
  have h435 := ha432.ge 0 4 rfl
  have h436 := ha432.ge 1 5 rfl
  refine st_nil (hK428 _ _ ?_)
  refine wp_ret (ret_k hd434 (v := .tuple #[.bool false, iv 3]) (res_tt rfl h435 h436 _) ?_)
  refine ⟨?_, hN437⟩
  show Ending.returned (.tuple #[.bool false, iv 3]) = Ending.returned (.tuple #[.bool ((looseV v u).1), iv ((looseV v u).2)])
  first | rfl | (simp only [looseV, loose1, loose2, loose3, noneV, ht90, ht104, ht147, ht226, ht261, ht275, bsm] <;> rfl) | (simp [looseV, loose1, loose2, loose3, noneV, ht90, ht104, ht147, ht226, ht261, ht275]; done) | (exfalso; omega)
  have ht226d := of_decide_eq_false ht226
  refine wp_g0 [true, true, true, true, true] [] 91
    [ve (pv q9),
     ve (iv ((countedV (cleanV v)).k)),
     ve (pv q13),
     ve (iv ((countedV (cleanV u)).k)),
     ve (.bool true)] hs165 (.eq (.eq (.eq (.eq (.eq (.nil)))))) ?_ ?_
  refine .o1 (tk rfl rfl fun _ w hn k => ⟨_, v_field rfl (k.fx 2 h167) (fun w => rfl), rfl⟩) ?_
  refine .o1 (tk rfl rfl fun _ w hn k => ⟨_, v_load rfl (k.eq1 0 38 rfl) (l_one Try.isAgg3 ((hb222.new_ hn).cell 0)), rfl⟩) ?_
  refine .o1 (tk rfl rfl fun _ w hn k => ⟨_, v_field rfl (k.fx 3 h168) (fun w => rfl), rfl⟩) ?_
  refine .o1 (tk rfl rfl fun _ w hn k => ⟨_, v_load rfl (k.eq1 2 40 rfl) (l_one Try.isAgg3 ((hb209.new_ hn).cell 0)), rfl⟩) ?_
  refine .o1 (tk rfl rfl fun _ w hn k => ⟨_, v_bin rfl (k.eq1 1 39 rfl) (k.eq1 3 41 rfl) (fun _ => rfl) (r_gtrK ht226), rfl⟩) ?_
  exact .nil
  intro a438 w439 hn440 ha441
  obtain ⟨hs442, hd443, hN453⟩ := aft ha441 hs165 hd166 hN223 hn440
  have h444 := ha441.fx 2 h167
  have h445 := ha441.fx 3 h168
  have h446 := ha441.ge 4 42 rfl
  have hb447 := hb222.new_ hn440
  have hb448 := hb209.new_ hn440
  have hr449 := hr218.new_ hn440
  have hr450 := hr219.new_ hn440
  have hr451 := hr220.new_ hn440
  have hr452 := hr221.new_ hn440
  refine st_nil (hK225 _ _ ?_)
  refine wp_cond_true h446 ?_
  refine wp_g0 [true, true, false, false] [(2, false), (3, false)] 91
    [ve (vv (countedV (cleanV u)) A177 cc178 A180 cc181),
     ve (vv (countedV (cleanV v)) A170 cc171 A173 cc174),
     vt,
     vt] hs442 (.eq (.eq (.tt (.tt (.nil))))) ?_ ?_
  refine .o1 (tk rfl rfl fun _ w hn k => ⟨_, v_load rfl (k.fx 3 h445) (l_agg Try.isAgg29 Try.sizeOf29 (hb448.new_ hn) rfl), rfl⟩) ?_
  refine .o1 (tk rfl rfl fun _ w hn k => ⟨_, v_load rfl (k.fx 2 h444) (l_agg Try.isAgg29 Try.sizeOf29 (hb447.new_ hn) rfl), rfl⟩) ?_
  refine .off ?_
  refine .off ?_
  exact .nil
  intro a454 w455 hn456 ha457
  obtain ⟨hs458, hd459, hN470⟩ := aft ha457 hs442 hd443 hN453 hn456
  have h460 := ha457.fx 2 h444
  have h461 := ha457.fx 3 h445
  have h462 := ha457.ge 0 43 rfl
  have h463 := ha457.ge 1 44 rfl
  have hb464 := hb447.new_ hn456
  have hb465 := hb448.new_ hn456
  have hr466 := hr449.new_ hn456
  have hr467 := hr450.new_ hn456
  have hr468 := hr451.new_ hn456
  have hr469 := hr452.new_ hn456
  obtain ⟨w471, hst472, hb4730, hu474, hf475⟩ := s_many (P := Try.prog) (t := 29) (i := 0) [iv ((countedV (cleanV u)).k), iv ((countedV (cleanV u)).nk), iv ((countedV (cleanV u)).nn), .bool ((countedV (cleanV u)).neg), sv A177 ((countedV (cleanV u)).mag) cc178, sv A180 ((countedV (cleanV u)).s) cc181, iv ((countedV (cleanV u)).ref)] Try.sizeOf29 rfl rfl rfl hb464 (Nat.le_of_ble_eq_true rfl)
  have hb473 : Blk w471 q9 29 [iv ((countedV (cleanV u)).k), iv ((countedV (cleanV u)).nk), iv ((countedV (cleanV u)).nn), .bool ((countedV (cleanV u)).neg), sv A177 ((countedV (cleanV u)).mag) cc178, sv A180 ((countedV (cleanV u)).s) cc181, iv ((countedV (cleanV u)).ref)] := hb4730
  refine st_act rfl rfl fun K476 hL477 => a_store' rfl h460 h462 hst472 (hL477 _ _ trivial ?_)
  have hr478 := hr466.far hb464 hu474 (by first | rfl | decide | simp [notK])
  have hr479 := hr467.far hb464 hu474 (by first | rfl | decide | simp [notK])
  have hr480 := hr468.far hb464 hu474 (by first | rfl | decide | simp [notK])
  have hr481 := hr469.far hb464 hu474 (by first | rfl | decide | simp [notK])
  have hb482 := hf475 _ _ _ (fun h => hne16 h.symm) hb465
  have hN483 := hN470.trans hu474 (fun k hk hkb => by subst hkb; omega)
  obtain ⟨w484, hst485, hb4860, hu487, hf488⟩ := s_many (P := Try.prog) (t := 29) (i := 0) [iv ((countedV (cleanV v)).k), iv ((countedV (cleanV v)).nk), iv ((countedV (cleanV v)).nn), .bool ((countedV (cleanV v)).neg), sv A170 ((countedV (cleanV v)).mag) cc171, sv A173 ((countedV (cleanV v)).s) cc174, iv ((countedV (cleanV v)).ref)] Try.sizeOf29 rfl rfl rfl hb482 (Nat.le_of_ble_eq_true rfl)
  have hb486 : Blk w484 q13 29 [iv ((countedV (cleanV v)).k), iv ((countedV (cleanV v)).nk), iv ((countedV (cleanV v)).nn), .bool ((countedV (cleanV v)).neg), sv A170 ((countedV (cleanV v)).mag) cc171, sv A173 ((countedV (cleanV v)).s) cc174, iv ((countedV (cleanV v)).ref)] := hb4860
  refine st_act rfl rfl fun K489 hL490 => a_store' rfl h461 h463 hst485 (hL490 _ _ trivial ?_)
  have hr491 := hr478.far hb482 hu487 (by first | rfl | decide | simp [notK])
  have hr492 := hr479.far hb482 hu487 (by first | rfl | decide | simp [notK])
  have hr493 := hr480.far hb482 hu487 (by first | rfl | decide | simp [notK])
  have hr494 := hr481.far hb482 hu487 (by first | rfl | decide | simp [notK])
  have hb495 := hf488 _ _ _ (hne16) hb473
  have hN496 := hN483.trans hu487 (fun k hk hkb => by subst hkb; omega)
  refine st_nil (hK224 _ _ ?_)
  refine wp_seq_k fun K497 hK497 => ?_
  refine wp_block ?_
  refine wp_seq_k fun K498 hK498 => ?_
  refine wp_g0 [true, true, true, true, true, true] [] 91
    [ve (pv q9),
     ve (iv ((countedV (cleanV u)).k)),
     ve (pv q13),
     ve (iv ((countedV (cleanV v)).k)),
     ve (.bool (decide (((countedV (cleanV u)).k) = ((countedV (cleanV v)).k)))),
     ve (.bool (decide (((countedV (cleanV u)).k) = ((countedV (cleanV v)).k))))] hs458 (.eq (.eq (.eq (.eq (.eq (.eq (.nil))))))) ?_ ?_
  refine .o1 (tk rfl rfl fun _ w hn k => ⟨_, v_field rfl (k.fx 2 h460) (fun w => rfl), rfl⟩) ?_
  refine .o1 (tk rfl rfl fun _ w hn k => ⟨_, v_load rfl (k.eq1 0 46 rfl) (l_one Try.isAgg3 ((hb495.new_ hn).cell 0)), rfl⟩) ?_
  refine .o1 (tk rfl rfl fun _ w hn k => ⟨_, v_field rfl (k.fx 3 h461) (fun w => rfl), rfl⟩) ?_
  refine .o1 (tk rfl rfl fun _ w hn k => ⟨_, v_load rfl (k.eq1 2 48 rfl) (l_one Try.isAgg3 ((hb486.new_ hn).cell 0)), rfl⟩) ?_
  refine .o1 (tk rfl rfl fun _ w hn k => ⟨_, v_bin rfl (k.eq1 1 47 rfl) (k.eq1 3 49 rfl) (fun _ => rfl) (r_eql rfl), rfl⟩) ?_
  refine .o1 (tk rfl rfl fun _ w hn k => ⟨_, v_assign rfl (k.eq1 4 50 rfl), rfl⟩) ?_
  exact .nil
  intro a499 w500 hn501 ha502
  obtain ⟨hs503, hd504, hN514⟩ := aft ha502 hs458 hd459 hN496 hn501
  have h505 := ha502.fx 2 h460
  have h506 := ha502.fx 3 h461
  have h507 := ha502.ge 5 45 rfl
  have hb508 := hb495.new_ hn501
  have hb509 := hb486.new_ hn501
  have hr510 := hr491.new_ hn501
  have hr511 := hr492.new_ hn501
  have hr512 := hr493.new_ hn501
  have hr513 := hr494.new_ hn501
  refine st_nil (hK498 _ _ ?_)
  rcases Bool.eq_false_or_eq_true (decide (((countedV (cleanV u)).k) = ((countedV (cleanV v)).k))) with ht515 | ht515
  have ht515d := of_decide_eq_true ht515
  have hv516 := hB h507 ht515
  refine wp_cond_true hv516 ?_
  refine wp_seq_k fun K517 hK517 => ?_
  refine wp_g0 [true, true, true, true, true] [] 91
    [ve (vv (countedV (cleanV u)) A177 cc178 A180 cc181),
     ve (vv (countedV (cleanV v)) A170 cc171 A173 cc174),
     ve (.bool (strictV (countedV (cleanV u)) (countedV (cleanV v)))),
     ve (.bool (strictV (countedV (cleanV u)) (countedV (cleanV v)))),
     ve (iv 0)] hs503 (.eq (.eq (.eq (.eq (.eq (.nil)))))) ?_ ?_
  refine .o1 (tk rfl rfl fun _ w hn k => ⟨_, v_load rfl (k.fx 2 h505) (l_agg Try.isAgg29 Try.sizeOf29 (hb508.new_ hn) rfl), rfl⟩) ?_
  refine .o1 (tk rfl rfl fun _ w hn k => ⟨_, v_load rfl (k.fx 3 h506) (l_agg Try.isAgg29 Try.sizeOf29 (hb509.new_ hn) rfl), rfl⟩) ?_
  refine .o1 (ck rfl rfl rfl (fun _ w hn k => ⟨#[vv (countedV (cleanV u)) A177 cc178 A180 cc181, vv (countedV (cleanV v)) A170 cc171 A173 cc174], args2 (k.eq1 0 51 rfl) (k.eq1 1 52 rfl), fun _ => by kernel_rfl, cstrict_c (countedV (cleanV u)) _ _ _ _ (countedV (cleanV v)) _ _ _ _ _ (hr512.new_ hn) (hr513.new_ hn) (hr510.new_ hn) (hr511.new_ hn)⟩) fun _ => rfl) ?_
  refine .o1 (tk rfl rfl fun _ w hn k => ⟨_, v_assign rfl (k.eq1 2 53 rfl), rfl⟩) ?_
  refine .o1 (tk rfl rfl fun _ w hn k => ⟨_, v_assign rfl rfl, rfl⟩) ?_
  exact .nil
  intro a518 w519 hn520 ha521
  obtain ⟨hs522, hd523, hN526⟩ := aft ha521 hs503 hd504 hN514 hn520
  have h524 := ha521.ge 3 4 rfl
  have h525 := ha521.ge 4 5 rfl
  refine st_nil (hK517 _ _ ?_)
  refine wp_ret (ret_k hd523 (v := .tuple #[.bool (strictV (countedV (cleanV u)) (countedV (cleanV v))), iv 0]) (res_tt rfl h524 h525 _) ?_)
  refine ⟨?_, hN526⟩
  show Ending.returned (.tuple #[.bool (strictV (countedV (cleanV u)) (countedV (cleanV v))), iv 0]) = Ending.returned (.tuple #[.bool ((looseV v u).1), iv ((looseV v u).2)])
  first | rfl | (simp only [looseV, loose1, loose2, loose3, noneV, ht90, ht104, ht147, ht226, ht515, bsm] <;> rfl) | (simp [looseV, loose1, loose2, loose3, noneV, ht90, ht104, ht147, ht226, ht515]; done) | (exfalso; omega)
  have ht515d := of_decide_eq_false ht515
  have hv527 := hB h507 ht515
  refine wp_cond_false hv527 ?_
  refine wp_seq_k fun K528 hK528 => ?_
  rcases Bool.eq_false_or_eq_true (decide (((countedV (cleanV u)).k) = 3)) with ht529 | ht529
  have ht529d := of_decide_eq_true ht529
  refine wp_g0 [true, true, true, true, true, true, true, true, true] [] 91
    [ve (pv q9),
     ve (iv ((countedV (cleanV u)).k)),
     ve (.bool true),
     ve (.bool true),
     ve (pv q13),
     ve (iv ((countedV (cleanV v)).k)),
     ve (.bool (decide (((countedV (cleanV v)).k) = 4))),
     ve (.bool (decide (((countedV (cleanV v)).k) = 4))),
     ve (.bool (decide (((countedV (cleanV v)).k) = 4)))] hs503 (.eq (.eq (.eq (.eq (.eq (.eq (.eq (.eq (.eq (.nil)))))))))) ?_ ?_
  refine .o1 (tk rfl rfl fun _ w hn k => ⟨_, v_field rfl (k.fx 2 h505) (fun w => rfl), rfl⟩) ?_
  refine .o1 (tk rfl rfl fun _ w hn k => ⟨_, v_load rfl (k.eq1 0 55 rfl) (l_one Try.isAgg3 ((hb508.new_ hn).cell 0)), rfl⟩) ?_
  refine .o1 (tk rfl rfl fun _ w hn k => ⟨_, v_bin rfl (k.eq1 1 56 rfl) rfl (fun _ => rfl) (r_eql ht529), rfl⟩) ?_
  refine .o1 (tk rfl rfl fun _ w hn k => ⟨_, v_move rfl (k.eq1 2 57 rfl), rfl⟩) ?_
  refine .o1 (tg rfl rfl rfl (fun _ _ k => k.eq1 3 58 rfl) fun _ w hn k => ⟨_, v_field rfl (k.fx 3 h506) (fun w => rfl), rfl⟩) ?_
  refine .o1 (tg rfl rfl rfl (fun _ _ k => k.eq1 3 58 rfl) fun _ w hn k => ⟨_, v_load rfl (k.eq1 4 59 rfl) (l_one Try.isAgg3 ((hb509.new_ hn).cell 0)), rfl⟩) ?_
  refine .o1 (tg rfl rfl rfl (fun _ _ k => k.eq1 3 58 rfl) fun _ w hn k => ⟨_, v_bin rfl (k.eq1 5 60 rfl) rfl (fun _ => rfl) (r_eql rfl), rfl⟩) ?_
  refine .o1 (tk rfl rfl fun _ w hn k => ⟨_, v_pickT rfl (k.eq1 3 58 rfl) (k.eq1 6 61 rfl), rfl⟩) ?_
  refine .o1 (tk rfl rfl fun _ w hn k => ⟨_, v_assign rfl (k.eq1 7 62 rfl), rfl⟩) ?_
  exact .nil
  intro a530 w531 hn532 ha533
  obtain ⟨hs534, hd535, hN545⟩ := aft ha533 hs503 hd504 hN514 hn532
  have h536 := ha533.fx 2 h505
  have h537 := ha533.fx 3 h506
  have h538 := ha533.ge 8 54 rfl
  have hb539 := hb508.new_ hn532
  have hb540 := hb509.new_ hn532
  have hr541 := hr510.new_ hn532
  have hr542 := hr511.new_ hn532
  have hr543 := hr512.new_ hn532
  have hr544 := hr513.new_ hn532
  refine st_nil (hK528 _ _ ?_)
  rcases Bool.eq_false_or_eq_true (decide (((countedV (cleanV v)).k) = 4)) with ht546 | ht546
  have ht546d := of_decide_eq_true ht546
  have hv547 := hB h538 ht546
  refine wp_cond_true hv547 ?_
  refine wp_seq_k fun K548 hK548 => ?_
  refine wp_g0 [true, true, true, true, true, true, true] [] 91
    [ve (.pointer (some ⟨q13, 3, none⟩)),
     ve (.agg #[.bool ((countedV (cleanV v)).neg), sv A170 ((countedV (cleanV v)).mag) cc171]),
     ve (.pointer (some ⟨q9, 1, none⟩)),
     ve (nv (Nm.mk ((countedV (cleanV u)).nk) ((countedV (cleanV u)).nn))),
     ve (.bool (alikeB ((countedV (cleanV v)).neg) ((countedV (cleanV v)).mag) (Nm.mk ((countedV (cleanV u)).nk) ((countedV (cleanV u)).nn)))),
     ve (.bool (alikeB ((countedV (cleanV v)).neg) ((countedV (cleanV v)).mag) (Nm.mk ((countedV (cleanV u)).nk) ((countedV (cleanV u)).nn)))),
     ve (iv 0)] hs534 (.eq (.eq (.eq (.eq (.eq (.eq (.eq (.nil)))))))) ?_ ?_
  refine .o1 (tk rfl rfl fun _ w hn k => ⟨_, v_field rfl (k.fx 3 h537) (fun w => rfl), rfl⟩) ?_
  refine .o1 (tk rfl rfl fun _ w hn k => ⟨_, v_load rfl (k.eq1 0 63 rfl) (l_part Try.isAgg26 Try.sizeOf26 (hb540.new_ hn) (Nat.le_of_ble_eq_true rfl)), rfl⟩) ?_
  refine .o1 (tk rfl rfl fun _ w hn k => ⟨_, v_field rfl (k.fx 2 h536) (fun w => rfl), rfl⟩) ?_
  refine .o1 (tk rfl rfl fun _ w hn k => ⟨_, v_load rfl (k.eq1 2 65 rfl) (l_part Try.isAgg23 Try.sizeOf23 (hb539.new_ hn) (Nat.le_of_ble_eq_true rfl)), rfl⟩) ?_
  refine .o1 (ck rfl rfl rfl (fun _ w hn k => ⟨#[.agg #[.bool ((countedV (cleanV v)).neg), sv A170 ((countedV (cleanV v)).mag) cc171], nv (Nm.mk ((countedV (cleanV u)).nk) ((countedV (cleanV u)).nn))], args2 (k.eq1 1 64 rfl) (k.eq1 3 66 rfl), fun _ => by kernel_rfl, alike_c ((countedV (cleanV v)).neg) _ ((countedV (cleanV v)).mag) _ (Nm.mk ((countedV (cleanV u)).nk) ((countedV (cleanV u)).nn)) _ (hr541.new_ hn) hvv.clean.counted.limbs (by first | omega | (simp only [List.length_nil, List.length_take, List.length_drop]; omega) | (simp only [List.length_cons, List.length_nil]; omega)) (by omega) (by omega)⟩) fun _ => rfl) ?_
  refine .o1 (tk rfl rfl fun _ w hn k => ⟨_, v_assign rfl (k.eq1 4 67 rfl), rfl⟩) ?_
  refine .o1 (tk rfl rfl fun _ w hn k => ⟨_, v_assign rfl rfl, rfl⟩) ?_
  exact .nil
  intro a549 w550 hn551 ha552
  obtain ⟨hs553, hd554, hN557⟩ := aft ha552 hs534 hd535 hN545 hn551
  have h555 := ha552.ge 5 4 rfl
  have h556 := ha552.ge 6 5 rfl
  refine st_nil (hK548 _ _ ?_)
  refine wp_ret (ret_k hd554 (v := .tuple #[.bool (alikeB ((countedV (cleanV v)).neg) ((countedV (cleanV v)).mag) (Nm.mk ((countedV (cleanV u)).nk) ((countedV (cleanV u)).nn))), iv 0]) (res_tt rfl h555 h556 _) ?_)
  refine ⟨?_, hN557⟩
  show Ending.returned (.tuple #[.bool (alikeB ((countedV (cleanV v)).neg) ((countedV (cleanV v)).mag) (Nm.mk ((countedV (cleanV u)).nk) ((countedV (cleanV u)).nn))), iv 0]) = Ending.returned (.tuple #[.bool ((looseV v u).1), iv ((looseV v u).2)])
  first | rfl | (simp only [looseV, loose1, loose2, loose3, noneV, ht90, ht104, ht147, ht226, ht515, ht529, ht546, bsm] <;> rfl) | (simp [looseV, loose1, loose2, loose3, noneV, ht90, ht104, ht147, ht226, ht515, ht529, ht546]; done) | (exfalso; omega)
  have ht546d := of_decide_eq_false ht546
  have hv558 := hB h538 ht546
  refine wp_cond_false hv558 ?_
  refine wp_seq_k fun K559 hK559 => ?_
  refine wp_g0 [true, true, true, true, true, true, true, true, true] [] 91
    [ve (pv q9),
     ve (iv ((countedV (cleanV u)).k)),
     ve (.bool true),
     ve (.bool true),
     ve (pv q13),
     ve (iv ((countedV (cleanV v)).k)),
     ve (.bool (decide (((countedV (cleanV v)).k) = 5))),
     ve (.bool (decide (((countedV (cleanV v)).k) = 5))),
     ve (.bool (decide (((countedV (cleanV v)).k) = 5)))] hs534 (.eq (.eq (.eq (.eq (.eq (.eq (.eq (.eq (.eq (.nil)))))))))) ?_ ?_
  refine .o1 (tk rfl rfl fun _ w hn k => ⟨_, v_field rfl (k.fx 2 h536) (fun w => rfl), rfl⟩) ?_
  refine .o1 (tk rfl rfl fun _ w hn k => ⟨_, v_load rfl (k.eq1 0 69 rfl) (l_one Try.isAgg3 ((hb539.new_ hn).cell 0)), rfl⟩) ?_
  refine .o1 (tk rfl rfl fun _ w hn k => ⟨_, v_bin rfl (k.eq1 1 70 rfl) rfl (fun _ => rfl) (r_eql ht529), rfl⟩) ?_
  refine .o1 (tk rfl rfl fun _ w hn k => ⟨_, v_move rfl (k.eq1 2 71 rfl), rfl⟩) ?_
  refine .o1 (tg rfl rfl rfl (fun _ _ k => k.eq1 3 72 rfl) fun _ w hn k => ⟨_, v_field rfl (k.fx 3 h537) (fun w => rfl), rfl⟩) ?_
  refine .o1 (tg rfl rfl rfl (fun _ _ k => k.eq1 3 72 rfl) fun _ w hn k => ⟨_, v_load rfl (k.eq1 4 73 rfl) (l_one Try.isAgg3 ((hb540.new_ hn).cell 0)), rfl⟩) ?_
  refine .o1 (tg rfl rfl rfl (fun _ _ k => k.eq1 3 72 rfl) fun _ w hn k => ⟨_, v_bin rfl (k.eq1 5 74 rfl) rfl (fun _ => rfl) (r_eql rfl), rfl⟩) ?_
  refine .o1 (tk rfl rfl fun _ w hn k => ⟨_, v_pickT rfl (k.eq1 3 72 rfl) (k.eq1 6 75 rfl), rfl⟩) ?_
  refine .o1 (tk rfl rfl fun _ w hn k => ⟨_, v_assign rfl (k.eq1 7 76 rfl), rfl⟩) ?_
  exact .nil
  intro a560 w561 hn562 ha563
  obtain ⟨hs564, hd565, hN575⟩ := aft ha563 hs534 hd535 hN545 hn562
  have h566 := ha563.fx 2 h536
  have h567 := ha563.fx 3 h537
  have h568 := ha563.ge 8 68 rfl
  have hb569 := hb539.new_ hn562
  have hb570 := hb540.new_ hn562
  have hr571 := hr541.new_ hn562
  have hr572 := hr542.new_ hn562
  have hr573 := hr543.new_ hn562
  have hr574 := hr544.new_ hn562
  refine st_nil (hK559 _ _ ?_)
  rcases Bool.eq_false_or_eq_true (decide (((countedV (cleanV v)).k) = 5)) with ht576 | ht576
  have ht576d := of_decide_eq_true ht576
  have hv577 := hB h568 ht576
  refine wp_cond_true hv577 ?_
  refine wp_seq_k fun K578 hK578 => ?_
  refine wp_g [true, true, true, true, true, true, false, false] [4] [(6, false), (7, true)] 91
    [ve (vv (countedV (cleanV v)) A170 cc171 A173 cc174),
     ve (.tuple #[nv ((numberV (countedV (cleanV v))).1), iv ((numberV (countedV (cleanV v))).2)]),
     ve (.tuple #[nv ((numberV (countedV (cleanV v))).1), iv ((numberV (countedV (cleanV v))).2)]),
     ve (nv ((numberV (countedV (cleanV v))).1)),
     ve (iv ((numberV (countedV (cleanV v))).2)),
     IsNew w561 23 [iv 0, iv 0],
     vt,
     vt]
    [5] (newsCons (fun v w h => IsNew.old h) newsNil) hs564 (.eq (.eq (.eq (.eq (.eq (.nw (.tt (.tt (.nil))))))))) ?_ ?_ ?_
  refine .o1 (tk rfl rfl fun _ w hn k => ⟨_, v_load rfl (k.fx 3 h567) (l_agg Try.isAgg29 Try.sizeOf29 (hb570.new_ hn) rfl), rfl⟩) ?_
  refine .o1 (ck rfl rfl rfl (fun _ w hn k => ⟨#[vv (countedV (cleanV v)) A170 cc171 A173 cc174], args1 (k.eq1 0 78 rfl), fun _ => by kernel_rfl, cnumber_c (countedV (cleanV v)) _ _ _ _ _ (hr571.new_ hn) (hr572.new_ hn) hvv.clean.counted⟩) fun _ => rfl) ?_
  refine .o1 (tk rfl rfl fun _ w hn k => ⟨_, v_move rfl (k.eq1 1 79 rfl), rfl⟩) ?_
  refine .o1 (tk rfl rfl fun _ w hn k => ⟨_, v_extract rfl (k.eq1 2 77 rfl) rfl, rfl⟩) ?_
  refine .o3 ?_
  refine .o2 (step_allocN (cs := [iv 0, iv 0]) (t := 23) rfl (noG rfl) (fun _ w hn k => rfl) (fun q _ hq hb => ⟨q, rfl, hq, hb⟩)) ?_
  refine .off ?_
  refine .off ?_
  exact .nil
  intro i h
  simp only [List.contains_eq_mem, List.mem_cons, List.not_mem_nil, or_false, decide_eq_true_eq] at h
  subst h
  exact eager_take rfl rfl fun _ w hn k => ⟨iv ((numberV (countedV (cleanV v))).2), fun w => v_extract rfl (k.eq1 2 77 rfl) rfl, rfl⟩
  intro a579 w580 hn581 ha582
  obtain ⟨hs583, hd584, hN597⟩ := aft ha582 hs564 hd565 hN575 hn581
  have h585 := ha582.fx 2 h566
  have h586 := ha582.ge 3 80 rfl
  have h587 := ha582.ge 4 81 rfl
  obtain ⟨q589, h588, hq590, hb591⟩ : IsNew _ _ _ _ _ := ha582.got 5 6 rfl (by kernel_rfl)
  have hb592 := hb569.new_ hn581
  have hne593 : q9 ≠ q589 := by have h1 := hb569.lt; have h2 := hq590; omega
  have hq594 := Nat.le_trans hN575.size hq590
  have hr595 := hr573.new_ hn581
  have hr596 := hr574.new_ hn581
  obtain ⟨w598, -, hst599, hb600, hu601, hf602⟩ := s_two (v0 := iv ((numberV (countedV (cleanV v))).1.k)) (v1 := iv ((numberV (countedV (cleanV v))).1.n)) Try.sizeOf23 rfl rfl rfl hb591
  refine st_act rfl rfl fun K603 hL604 => a_store' rfl h588 h586 hst599 (hL604 _ _ trivial ?_)
  have hr605 := hr595.far hb591 hu601 (by first | rfl | decide | simp [notK])
  have hr606 := hr596.far hb591 hu601 (by first | rfl | decide | simp [notK])
  have hb607 := hf602 _ _ _ (hne593) hb592
  have hN608 := hN597.trans hu601 (fun k hk hkb => by subst hkb; omega)
  refine st_take rfl rfl (y_assign (v := iv ((numberV (countedV (cleanV v))).2)) rfl h587) rfl ?_
  obtain ⟨a609, ha610⟩ : ∃ a', a' = a579.put (some 7) (iv ((numberV (countedV (cleanV v))).2)) := ⟨_, rfl⟩
  have hs611 : a609.tmps.size = 91 := by rw [ha610, put_size]; exact hs583
  have hd612 : a609.defers = [] := by rw [ha610, put_defers]; exact hd584
  have h613 := pn ha610 h585 (by decide)
  have h614 := pn ha610 h586 (by decide)
  have h615 := pn ha610 h587 (by decide)
  have h616 := pn ha610 h588 (by decide)
  have h617 : a609.eval (.tmp 7) = iv ((numberV (countedV (cleanV v))).2) := by rw [ha610]; exact put_same _ _ _ (by rw [hs583]; decide)
  show stepsTo _ _ _ _ _ (a579.put (some 7) (iv ((numberV (countedV (cleanV v))).2))) _
  rw [← ha610]
  refine st_nil (hK578 _ _ ?_)
  refine wp_seq_k fun K618 hK618 => ?_
  rcases Bool.eq_false_or_eq_true (decide (((numberV (countedV (cleanV v))).2) = 0)) with ht619 | ht619
  have ht619d := of_decide_eq_true ht619
  refine wp_g0 [true, true, true, true, true, true, true, true, true, true, true] [] 91
    [ve (iv ((numberV (countedV (cleanV v))).2)),
     ve (.bool true),
     ve (.bool true),
     ve (.pointer (some ⟨q9, 1, none⟩)),
     ve (nv (Nm.mk ((countedV (cleanV u)).nk) ((countedV (cleanV u)).nn))),
     ve (nv ((numberV (countedV (cleanV v))).1)),
     ve (.bool (equalM (Nm.mk ((countedV (cleanV u)).nk) ((countedV (cleanV u)).nn)) ((numberV (countedV (cleanV v))).1))),
     ve (.bool (equalM (Nm.mk ((countedV (cleanV u)).nk) ((countedV (cleanV u)).nn)) ((numberV (countedV (cleanV v))).1))),
     ve (iv ((numberV (countedV (cleanV v))).2)),
     ve (.bool (equalM (Nm.mk ((countedV (cleanV u)).nk) ((countedV (cleanV u)).nn)) ((numberV (countedV (cleanV v))).1))),
     ve (iv ((numberV (countedV (cleanV v))).2))] hs611 (.eq (.eq (.eq (.eq (.eq (.eq (.eq (.eq (.eq (.eq (.eq (.nil)))))))))))) ?_ ?_
  refine .o1 (tk rfl rfl fun _ w hn k => ⟨_, v_move rfl (k.fx 7 h617), rfl⟩) ?_
  refine .o1 (tk rfl rfl fun _ w hn k => ⟨_, v_bin rfl (k.eq1 0 82 rfl) rfl (fun _ => rfl) (r_eql ht619), rfl⟩) ?_
  refine .o1 (tk rfl rfl fun _ w hn k => ⟨_, v_move rfl (k.eq1 1 83 rfl), rfl⟩) ?_
  refine .o1 (tg rfl rfl rfl (fun _ _ k => k.eq1 2 84 rfl) fun _ w hn k => ⟨_, v_field rfl (k.fx 2 h613) (fun w => rfl), rfl⟩) ?_
  refine .o1 (tg rfl rfl rfl (fun _ _ k => k.eq1 2 84 rfl) fun _ w hn k => ⟨_, v_load rfl (k.eq1 3 85 rfl) (l_part Try.isAgg23 Try.sizeOf23 (hb607.new_ hn) (Nat.le_of_ble_eq_true rfl)), rfl⟩) ?_
  refine .o1 (tg rfl rfl rfl (fun _ _ k => k.eq1 2 84 rfl) fun _ w hn k => ⟨_, v_load rfl (k.fx 6 h616) (l_two Try.isAgg23 Try.sizeOf23 (hb600.new_ hn)), rfl⟩) ?_
  refine .o1 (cg rfl rfl rfl (fun _ _ k => k.eq1 2 84 rfl) rfl (fun _ w hn k => ⟨#[nv (Nm.mk ((countedV (cleanV u)).nk) ((countedV (cleanV u)).nn)), nv ((numberV (countedV (cleanV v))).1)], args2 (k.eq1 4 86 rfl) (k.eq1 5 87 rfl), fun _ => by kernel_rfl, equal_c (Nm.mk ((countedV (cleanV u)).nk) ((countedV (cleanV u)).nn)) ((numberV (countedV (cleanV v))).1) _ ⟩) fun _ => rfl) ?_
  refine .o1 (tk rfl rfl fun _ w hn k => ⟨_, v_pickT rfl (k.eq1 2 84 rfl) (k.eq1 6 88 rfl), rfl⟩) ?_
  refine .o1 (tk rfl rfl fun _ w hn k => ⟨_, v_move rfl (k.fx 7 h617), rfl⟩) ?_
  refine .o1 (tk rfl rfl fun _ w hn k => ⟨_, v_assign rfl (k.eq1 7 89 rfl), rfl⟩) ?_
  refine .o1 (tk rfl rfl fun _ w hn k => ⟨_, v_assign rfl (k.eq1 8 90 rfl), rfl⟩) ?_
  exact .nil
  intro a620 w621 hn622 ha623
  obtain ⟨hs624, hd625, hN628⟩ := aft ha623 hs611 hd612 hN608 hn622
  have h626 := ha623.ge 9 4 rfl
  have h627 := ha623.ge 10 5 rfl
  refine st_nil (hK618 _ _ ?_)
  refine wp_ret (ret_k hd625 (v := .tuple #[.bool (equalM (Nm.mk ((countedV (cleanV u)).nk) ((countedV (cleanV u)).nn)) ((numberV (countedV (cleanV v))).1)), iv ((numberV (countedV (cleanV v))).2)]) (res_tt rfl h626 h627 _) ?_)
  refine ⟨?_, hN628⟩
  show Ending.returned (.tuple #[.bool (equalM (Nm.mk ((countedV (cleanV u)).nk) ((countedV (cleanV u)).nn)) ((numberV (countedV (cleanV v))).1)), iv ((numberV (countedV (cleanV v))).2)]) = Ending.returned (.tuple #[.bool ((looseV v u).1), iv ((looseV v u).2)])
  first | rfl | (simp only [looseV, loose1, loose2, loose3, noneV, ht90, ht104, ht147, ht226, ht515, ht529, ht546, ht576, ht619, bsm] <;> rfl) | (simp [looseV, loose1, loose2, loose3, noneV, ht90, ht104, ht147, ht226, ht515, ht529, ht546, ht576, ht619]; done) | (exfalso; omega)
  have ht619d := of_decide_eq_false ht619
  refine wp_g0 [true, true, true, true, true, true, true, true, true, true, true] [] 91
    [ve (iv ((numberV (countedV (cleanV v))).2)),
     ve (.bool false),
     ve (.bool false),
     ve undef,
     ve undef,
     ve undef,
     ve undef,
     ve (.bool false),
     ve (iv ((numberV (countedV (cleanV v))).2)),
     ve (.bool false),
     ve (iv ((numberV (countedV (cleanV v))).2))] hs611 (.eq (.eq (.eq (.eq (.eq (.eq (.eq (.eq (.eq (.eq (.eq (.nil)))))))))))) ?_ ?_
  refine .o1 (tk rfl rfl fun _ w hn k => ⟨_, v_move rfl (k.fx 7 h617), rfl⟩) ?_
  refine .o1 (tk rfl rfl fun _ w hn k => ⟨_, v_bin rfl (k.eq1 0 82 rfl) rfl (fun _ => rfl) (r_eql ht619), rfl⟩) ?_
  refine .o1 (tk rfl rfl fun _ w hn k => ⟨_, v_move rfl (k.eq1 1 83 rfl), rfl⟩) ?_
  refine .o1 (sk rfl rfl rfl (fun _ _ _ k => k.eq1 2 84 rfl) (fun _ => rfl)) ?_
  refine .o1 (sk rfl rfl rfl (fun _ _ _ k => k.eq1 2 84 rfl) (fun _ => rfl)) ?_
  refine .o1 (sk rfl rfl rfl (fun _ _ _ k => k.eq1 2 84 rfl) (fun _ => rfl)) ?_
  refine .o1 (sk rfl rfl rfl (fun _ _ _ k => k.eq1 2 84 rfl) (fun _ => rfl)) ?_
  refine .o1 (tk rfl rfl fun _ w hn k => ⟨_, v_pickF rfl (k.eq1 2 84 rfl) rfl, rfl⟩) ?_
  refine .o1 (tk rfl rfl fun _ w hn k => ⟨_, v_move rfl (k.fx 7 h617), rfl⟩) ?_
  refine .o1 (tk rfl rfl fun _ w hn k => ⟨_, v_assign rfl (k.eq1 7 89 rfl), rfl⟩) ?_
  refine .o1 (tk rfl rfl fun _ w hn k => ⟨_, v_assign rfl (k.eq1 8 90 rfl), rfl⟩) ?_
  exact .nil
  intro a629 w630 hn631 ha632
  obtain ⟨hs633, hd634, hN637⟩ := aft ha632 hs611 hd612 hN608 hn631
  have h635 := ha632.ge 9 4 rfl
  have h636 := ha632.ge 10 5 rfl
  refine st_nil (hK618 _ _ ?_)
  refine wp_ret (ret_k hd634 (v := .tuple #[.bool false, iv ((numberV (countedV (cleanV v))).2)]) (res_tt rfl h635 h636 _) ?_)
  refine ⟨?_, hN637⟩
  show Ending.returned (.tuple #[.bool false, iv ((numberV (countedV (cleanV v))).2)]) = Ending.returned (.tuple #[.bool ((looseV v u).1), iv ((looseV v u).2)])
  first | rfl | (simp only [looseV, loose1, loose2, loose3, noneV, ht90, ht104, ht147, ht226, ht515, ht529, ht546, ht576, ht619, bsm] <;> rfl) | (simp [looseV, loose1, loose2, loose3, noneV, ht90, ht104, ht147, ht226, ht515, ht529, ht546, ht576, ht619]; done) | (exfalso; omega)
  have ht576d := of_decide_eq_false ht576
  have hv638 := hB h568 ht576
  refine wp_cond_false hv638 ?_
  refine wp_skip ?_
  refine hK497 _ _ ?_
  refine wp_seq_k fun K639 hK639 => ?_
  refine wp_g0 [true, true] [] 91
    [ve (.bool false),
     ve (iv 3)] hs564 (.eq (.eq (.nil))) ?_ ?_
  refine .o1 (tk rfl rfl fun _ w hn k => ⟨_, v_assign rfl rfl, rfl⟩) ?_
  refine .o1 (tk rfl rfl fun _ w hn k => ⟨_, v_assign rfl rfl, rfl⟩) ?_
  exact .nil
  intro a640 w641 hn642 ha643
  obtain ⟨hs644, hd645, hN648⟩ := aft ha643 hs564 hd565 hN575 hn642
  have h646 := ha643.ge 0 4 rfl
  have h647 := ha643.ge 1 5 rfl
  refine st_nil (hK639 _ _ ?_)
  refine wp_ret (ret_k hd645 (v := .tuple #[.bool false, iv 3]) (res_tt rfl h646 h647 _) ?_)
  refine ⟨?_, hN648⟩
  show Ending.returned (.tuple #[.bool false, iv 3]) = Ending.returned (.tuple #[.bool ((looseV v u).1), iv ((looseV v u).2)])
  first | rfl | (simp only [looseV, loose1, loose2, loose3, noneV, ht90, ht104, ht147, ht226, ht515, ht529, ht546, ht576, bsm] <;> rfl) | (simp [looseV, loose1, loose2, loose3, noneV, ht90, ht104, ht147, ht226, ht515, ht529, ht546, ht576]; done) | (exfalso; omega)
  have ht529d := of_decide_eq_false ht529
  refine wp_g0 [true, true, true, true, true, true, true, true, true] [] 91
    [ve (pv q9),
     ve (iv ((countedV (cleanV u)).k)),
     ve (.bool false),
     ve (.bool false),
     ve undef,
     ve undef,
     ve undef,
     ve (.bool false),
     ve (.bool false)] hs503 (.eq (.eq (.eq (.eq (.eq (.eq (.eq (.eq (.eq (.nil)))))))))) ?_ ?_
  refine .o1 (tk rfl rfl fun _ w hn k => ⟨_, v_field rfl (k.fx 2 h505) (fun w => rfl), rfl⟩) ?_
  refine .o1 (tk rfl rfl fun _ w hn k => ⟨_, v_load rfl (k.eq1 0 55 rfl) (l_one Try.isAgg3 ((hb508.new_ hn).cell 0)), rfl⟩) ?_
  refine .o1 (tk rfl rfl fun _ w hn k => ⟨_, v_bin rfl (k.eq1 1 56 rfl) rfl (fun _ => rfl) (r_eql ht529), rfl⟩) ?_
  refine .o1 (tk rfl rfl fun _ w hn k => ⟨_, v_move rfl (k.eq1 2 57 rfl), rfl⟩) ?_
  refine .o1 (sk rfl rfl rfl (fun _ _ _ k => k.eq1 3 58 rfl) (fun _ => rfl)) ?_
  refine .o1 (sk rfl rfl rfl (fun _ _ _ k => k.eq1 3 58 rfl) (fun _ => rfl)) ?_
  refine .o1 (sk rfl rfl rfl (fun _ _ _ k => k.eq1 3 58 rfl) (fun _ => rfl)) ?_
  refine .o1 (tk rfl rfl fun _ w hn k => ⟨_, v_pickF rfl (k.eq1 3 58 rfl) rfl, rfl⟩) ?_
  refine .o1 (tk rfl rfl fun _ w hn k => ⟨_, v_assign rfl (k.eq1 7 62 rfl), rfl⟩) ?_
  exact .nil
  intro a649 w650 hn651 ha652
  obtain ⟨hs653, hd654, hN664⟩ := aft ha652 hs503 hd504 hN514 hn651
  have h655 := ha652.fx 2 h505
  have h656 := ha652.fx 3 h506
  have h657 := ha652.ge 8 54 rfl
  have hb658 := hb508.new_ hn651
  have hb659 := hb509.new_ hn651
  have hr660 := hr510.new_ hn651
  have hr661 := hr511.new_ hn651
  have hr662 := hr512.new_ hn651
  have hr663 := hr513.new_ hn651
  refine st_nil (hK528 _ _ ?_)
  refine wp_cond_false h657 ?_
  refine wp_seq_k fun K665 hK665 => ?_
  refine wp_g0 [true, true, true, true, true, true, true, true, true] [] 91
    [ve (pv q9),
     ve (iv ((countedV (cleanV u)).k)),
     ve (.bool false),
     ve (.bool false),
     ve undef,
     ve undef,
     ve undef,
     ve (.bool false),
     ve (.bool false)] hs653 (.eq (.eq (.eq (.eq (.eq (.eq (.eq (.eq (.eq (.nil)))))))))) ?_ ?_
  refine .o1 (tk rfl rfl fun _ w hn k => ⟨_, v_field rfl (k.fx 2 h655) (fun w => rfl), rfl⟩) ?_
  refine .o1 (tk rfl rfl fun _ w hn k => ⟨_, v_load rfl (k.eq1 0 69 rfl) (l_one Try.isAgg3 ((hb658.new_ hn).cell 0)), rfl⟩) ?_
  refine .o1 (tk rfl rfl fun _ w hn k => ⟨_, v_bin rfl (k.eq1 1 70 rfl) rfl (fun _ => rfl) (r_eql ht529), rfl⟩) ?_
  refine .o1 (tk rfl rfl fun _ w hn k => ⟨_, v_move rfl (k.eq1 2 71 rfl), rfl⟩) ?_
  refine .o1 (sk rfl rfl rfl (fun _ _ _ k => k.eq1 3 72 rfl) (fun _ => rfl)) ?_
  refine .o1 (sk rfl rfl rfl (fun _ _ _ k => k.eq1 3 72 rfl) (fun _ => rfl)) ?_
  refine .o1 (sk rfl rfl rfl (fun _ _ _ k => k.eq1 3 72 rfl) (fun _ => rfl)) ?_
  refine .o1 (tk rfl rfl fun _ w hn k => ⟨_, v_pickF rfl (k.eq1 3 72 rfl) rfl, rfl⟩) ?_
  refine .o1 (tk rfl rfl fun _ w hn k => ⟨_, v_assign rfl (k.eq1 7 76 rfl), rfl⟩) ?_
  exact .nil
  intro a666 w667 hn668 ha669
  obtain ⟨hs670, hd671, hN681⟩ := aft ha669 hs653 hd654 hN664 hn668
  have h672 := ha669.fx 2 h655
  have h673 := ha669.fx 3 h656
  have h674 := ha669.ge 8 68 rfl
  have hb675 := hb658.new_ hn668
  have hb676 := hb659.new_ hn668
  have hr677 := hr660.new_ hn668
  have hr678 := hr661.new_ hn668
  have hr679 := hr662.new_ hn668
  have hr680 := hr663.new_ hn668
  refine st_nil (hK665 _ _ ?_)
  refine wp_cond_false h674 ?_
  refine wp_skip ?_
  refine hK497 _ _ ?_
  refine wp_seq_k fun K682 hK682 => ?_
  refine wp_g0 [true, true] [] 91
    [ve (.bool false),
     ve (iv 3)] hs670 (.eq (.eq (.nil))) ?_ ?_
  refine .o1 (tk rfl rfl fun _ w hn k => ⟨_, v_assign rfl rfl, rfl⟩) ?_
  refine .o1 (tk rfl rfl fun _ w hn k => ⟨_, v_assign rfl rfl, rfl⟩) ?_
  exact .nil
  intro a683 w684 hn685 ha686
  obtain ⟨hs687, hd688, hN691⟩ := aft ha686 hs670 hd671 hN681 hn685
  have h689 := ha686.ge 0 4 rfl
  have h690 := ha686.ge 1 5 rfl
  refine st_nil (hK682 _ _ ?_)
  refine wp_ret (ret_k hd688 (v := .tuple #[.bool false, iv 3]) (res_tt rfl h689 h690 _) ?_)
  refine ⟨?_, hN691⟩
  show Ending.returned (.tuple #[.bool false, iv 3]) = Ending.returned (.tuple #[.bool ((looseV v u).1), iv ((looseV v u).2)])
  first | rfl | (simp only [looseV, loose1, loose2, loose3, noneV, ht90, ht104, ht147, ht226, ht515, ht529, bsm] <;> rfl) | (simp [looseV, loose1, loose2, loose3, noneV, ht90, ht104, ht147, ht226, ht515, ht529]; done) | (exfalso; omega)
set_option maxHeartbeats 4000000 in
set_option maxRecDepth 100000 in
theorem few_c (v : Vl) (Av : Option Addr) (cv : Nat) (Bv : Option Addr) (dv : Nat) (w : World) (hmv : SRow w .u32 Av v.mag cv) (hsv : SRow w .u16 Bv v.s dv) : Calls Try.prog 7 #[vv v Av cv Bv dv] w (IsRet (.bool (decide ((v.s.length : Int) ≤ 20000) && decide ((v.mag.length : Int) ≤ 40))) w) := by
  refine enter_abs Try.func7 rfl fun a0 hs0 hd0 hp => ?_
  have hs0 : a0.tmps.size = 14 := hs0
  have hN0 : New w w := Upd.refl _ _
  have hp0 : a0.eval (.tmp 0) = vv v Av cv Bv dv := hp 0 _ rfl
  refine wp_seq_k fun K1 hK1 => ?_
  refine wp_g [true, true] [] [] 14
    [IsNew w 29 [iv v.k, iv v.nk, iv v.nn, .bool v.neg, sv Av v.mag cv, sv Bv v.s dv, iv v.ref],
     ve (.bool false)]
    [0] (newsCons (fun v w h => IsNew.old h) newsNil) hs0 (.nw (.eq (.nil))) ?_ (fun i h => by cases h) ?_
  refine .o2 (step_allocN (cs := [iv v.k, iv v.nk, iv v.nn, .bool v.neg, sv Av v.mag cv, sv Bv v.s dv, iv v.ref]) (t := 29) rfl (noG rfl) (fun _ w hn k => v_box rfl (k.fx 0 hp0) (fun w => rfl)) (fun q _ hq hb => ⟨q, rfl, hq, hb⟩)) ?_
  refine .o1 (tk rfl rfl fun _ w hn k => ⟨_, v_assign rfl rfl, rfl⟩) ?_
  exact .nil
  intro a2 w3 hn4 ha5
  obtain ⟨hs6, hd7, hN13⟩ := aft ha5 hs0 hd0 hN0 hn4
  obtain ⟨q9, h8, hq10, hb11⟩ : IsNew _ _ _ _ _ := ha5.got 0 1 rfl (by kernel_rfl)
  have hq12 := Nat.le_trans hN0.size hq10
  refine st_nil (hK1 _ _ ?_)
  refine wp_seq_k fun K14 hK14 => ?_
  rcases Bool.eq_false_or_eq_true (decide ((v.s.length : Int) ≤ 20000)) with ht15 | ht15
  have ht15d := of_decide_eq_true ht15
  refine wp_g0 [true, true, true, true, true, true, true, true, true, true, true, true] [] 14
    [ve (.pointer (some ⟨q9, 5, none⟩)),
     ve (sv Bv v.s dv),
     ve (iv (v.s.length : Int)),
     ve (.bool true),
     ve (.bool true),
     ve (.pointer (some ⟨q9, 3, none⟩)),
     ve (.pointer (some ⟨q9, 4, none⟩)),
     ve (sv Av v.mag cv),
     ve (iv (v.mag.length : Int)),
     ve (.bool (decide ((v.mag.length : Int) ≤ 40))),
     ve (.bool (decide ((v.mag.length : Int) ≤ 40))),
     ve (.bool (decide ((v.mag.length : Int) ≤ 40)))] hs6 (.eq (.eq (.eq (.eq (.eq (.eq (.eq (.eq (.eq (.eq (.eq (.eq (.nil))))))))))))) ?_ ?_
  refine .o1 (tk rfl rfl fun _ w hn k => ⟨_, v_field rfl (k.fx 1 h8) (fun w => rfl), rfl⟩) ?_
  refine .o1 (tk rfl rfl fun _ w hn k => ⟨_, v_load rfl (k.eq1 0 3 rfl) (l_one Try.isAgg27 ((hb11.new_ hn).cell 5)), rfl⟩) ?_
  refine .o1 (tk rfl rfl fun _ w hn k => ⟨_, v_lenR rfl elU (k.eq1 1 4 rfl), rfl⟩) ?_
  refine .o1 (tk rfl rfl fun _ w hn k => ⟨_, v_bin rfl (k.eq1 2 5 rfl) rfl (fun _ => rfl) (r_leqK ht15), rfl⟩) ?_
  refine .o1 (tk rfl rfl fun _ w hn k => ⟨_, v_move rfl (k.eq1 3 6 rfl), rfl⟩) ?_
  refine .o1 (tg rfl rfl rfl (fun _ _ k => k.eq1 4 7 rfl) fun _ w hn k => ⟨_, v_field rfl (k.fx 1 h8) (fun w => rfl), rfl⟩) ?_
  refine .o1 (tg rfl rfl rfl (fun _ _ k => k.eq1 4 7 rfl) fun _ w hn k => ⟨_, v_field rfl (k.eq1 5 8 rfl) (fun w => rfl), rfl⟩) ?_
  refine .o1 (tg rfl rfl rfl (fun _ _ k => k.eq1 4 7 rfl) fun _ w hn k => ⟨_, v_load rfl (k.eq1 6 9 rfl) (l_one Try.isAgg24 ((hb11.new_ hn).cell 4)), rfl⟩) ?_
  refine .o1 (tg rfl rfl rfl (fun _ _ k => k.eq1 4 7 rfl) fun _ w hn k => ⟨_, v_lenR rfl elW (k.eq1 7 10 rfl), rfl⟩) ?_
  refine .o1 (tg rfl rfl rfl (fun _ _ k => k.eq1 4 7 rfl) fun _ w hn k => ⟨_, v_bin rfl (k.eq1 8 11 rfl) rfl (fun _ => rfl) (r_leqK rfl), rfl⟩) ?_
  refine .o1 (tk rfl rfl fun _ w hn k => ⟨_, v_pickT rfl (k.eq1 4 7 rfl) (k.eq1 9 12 rfl), rfl⟩) ?_
  refine .o1 (tk rfl rfl fun _ w hn k => ⟨_, v_assign rfl (k.eq1 10 13 rfl), rfl⟩) ?_
  exact .nil
  intro a16 w17 hn18 ha19
  obtain ⟨hs20, hd21, hN23⟩ := aft ha19 hs6 hd7 hN13 hn18
  have h22 := ha19.ge 11 2 rfl
  refine st_nil (hK14 _ _ ?_)
  refine wp_ret (ret_k hd21 (v := .bool (decide ((v.mag.length : Int) ≤ 40))) (res_t rfl h22 _) ?_)
  refine ⟨?_, hN23⟩
  show Ending.returned (.bool (decide ((v.mag.length : Int) ≤ 40))) = Ending.returned (.bool (decide ((v.s.length : Int) ≤ 20000) && decide ((v.mag.length : Int) ≤ 40)))
  first | rfl | (simp only [ht15, bsm] <;> rfl) | (simp [ht15]; done) | (exfalso; omega)
  have ht15d := of_decide_eq_false ht15
  refine wp_g0 [true, true, true, true, true, true, true, true, true, true, true, true] [] 14
    [ve (.pointer (some ⟨q9, 5, none⟩)),
     ve (sv Bv v.s dv),
     ve (iv (v.s.length : Int)),
     ve (.bool false),
     ve (.bool false),
     ve undef,
     ve undef,
     ve undef,
     ve undef,
     ve undef,
     ve (.bool false),
     ve (.bool false)] hs6 (.eq (.eq (.eq (.eq (.eq (.eq (.eq (.eq (.eq (.eq (.eq (.eq (.nil))))))))))))) ?_ ?_
  refine .o1 (tk rfl rfl fun _ w hn k => ⟨_, v_field rfl (k.fx 1 h8) (fun w => rfl), rfl⟩) ?_
  refine .o1 (tk rfl rfl fun _ w hn k => ⟨_, v_load rfl (k.eq1 0 3 rfl) (l_one Try.isAgg27 ((hb11.new_ hn).cell 5)), rfl⟩) ?_
  refine .o1 (tk rfl rfl fun _ w hn k => ⟨_, v_lenR rfl elU (k.eq1 1 4 rfl), rfl⟩) ?_
  refine .o1 (tk rfl rfl fun _ w hn k => ⟨_, v_bin rfl (k.eq1 2 5 rfl) rfl (fun _ => rfl) (r_leqK ht15), rfl⟩) ?_
  refine .o1 (tk rfl rfl fun _ w hn k => ⟨_, v_move rfl (k.eq1 3 6 rfl), rfl⟩) ?_
  refine .o1 (sk rfl rfl rfl (fun _ _ _ k => k.eq1 4 7 rfl) (fun _ => rfl)) ?_
  refine .o1 (sk rfl rfl rfl (fun _ _ _ k => k.eq1 4 7 rfl) (fun _ => rfl)) ?_
  refine .o1 (sk rfl rfl rfl (fun _ _ _ k => k.eq1 4 7 rfl) (fun _ => rfl)) ?_
  refine .o1 (sk rfl rfl rfl (fun _ _ _ k => k.eq1 4 7 rfl) (fun _ => rfl)) ?_
  refine .o1 (sk rfl rfl rfl (fun _ _ _ k => k.eq1 4 7 rfl) (fun _ => rfl)) ?_
  refine .o1 (tk rfl rfl fun _ w hn k => ⟨_, v_pickF rfl (k.eq1 4 7 rfl) rfl, rfl⟩) ?_
  refine .o1 (tk rfl rfl fun _ w hn k => ⟨_, v_assign rfl (k.eq1 10 13 rfl), rfl⟩) ?_
  exact .nil
  intro a24 w25 hn26 ha27
  obtain ⟨hs28, hd29, hN31⟩ := aft ha27 hs6 hd7 hN13 hn26
  have h30 := ha27.ge 11 2 rfl
  refine st_nil (hK14 _ _ ?_)
  refine wp_ret (ret_k hd29 (v := .bool false) (res_t rfl h30 _) ?_)
  refine ⟨?_, hN31⟩
  show Ending.returned (.bool false) = Ending.returned (.bool (decide ((v.s.length : Int) ≤ 20000) && decide ((v.mag.length : Int) ≤ 40)))
  first | rfl | (simp only [ht15, bsm] <;> rfl) | (simp [ht15]; done) | (exfalso; omega)
def lstr_c_P (s : ByteArray) (w : World) (en : Ending) (w' : World) : Prop := ∃ (Ar0 : Option Addr) (cr0 : Nat), en = .returned (vv (Vl.mk 5 0 0 false [] (asc s) 0) none 0 Ar0 cr0) ∧ SRow w' .u16 Ar0 (asc s) cr0 ∧ New w w'
set_option maxHeartbeats 4000000 in
set_option maxRecDepth 100000 in
theorem lstr_c (s : ByteArray) (w : World) (hs : s.size ≤ 1000000) : Calls Try.prog 15 #[.string s] w (lstr_c_P s w) := by
  refine enter_abs Try.func15 rfl fun a0 hs0 hd0 hp => ?_
  have hs0 : a0.tmps.size = 6 := hs0
  have hN0 : New w w := Upd.refl _ _
  have hp0 : a0.eval (.tmp 0) = .string s := hp 0 _ rfl
  refine wp_seq_k fun K1 hK1 => ?_
  refine wp_g [true] [] [] 6
    [IsNew w 29 [iv 0, iv 0, iv 0, .bool false, sv none ([]) 0, sv none ([]) 0, iv 0]]
    [0] (newsCons (fun v w h => IsNew.old h) newsNil) hs0 (.nw (.nil)) ?_ (fun i h => by cases h) ?_
  refine .o2 (step_allocN (cs := [iv 0, iv 0, iv 0, .bool false, sv none ([]) 0, sv none ([]) 0, iv 0]) (t := 29) rfl (noG rfl) (fun _ w hn k => rfl) (fun q _ hq hb => ⟨q, rfl, hq, hb⟩)) ?_
  exact .nil
  intro a2 w3 hn4 ha5
  obtain ⟨hs6, hd7, hN14⟩ := aft ha5 hs0 hd0 hN0 hn4
  have h8 := ha5.fx 0 hp0
  obtain ⟨q10, h9, hq11, hb12⟩ : IsNew _ _ _ _ _ := ha5.got 0 2 rfl (by kernel_rfl)
  have hq13 := Nat.le_trans hN0.size hq11
  refine st_nil (hK1 _ _ ?_)
  refine wp_seq_k fun K15 hK15 => ?_
  refine wp_g0 [true, true, true, false] [(3, false)] 6
    [ve (.string s),
     (fun (v_ : Value) (W : World) => ∃ (A3 : Option Addr) (c4 : Nat), v_ = sv A3 (asc s) c4 ∧ SOwn W w3.heap.size 66 .u16 A3 (asc s) c4),
     (fun (v_ : Value) (W : World) => ∃ (A9 : Option Addr) (c10 : Nat), v_ = vv (Vl.mk 5 0 0 false [] (asc s) 0) none 0 A9 c10 ∧ SOwn W w3.heap.size 66 .u16 A9 (asc s) c10),
     vt] hs6 (.eq (.cons (fun v W W' hn ⟨A3, c4, he, h0⟩ => ⟨A3, c4, he, h0.new_ hn⟩) (.cons (fun v W W' hn ⟨A9, c10, he, h0⟩ => ⟨A9, c10, he, h0.new_ hn⟩) (.tt (.nil))))) ?_ ?_
  refine .o1 (tk rfl rfl fun _ w hn k => ⟨_, v_move rfl (k.fx 0 h8), rfl⟩) ?_
  refine .o1 (tkC rfl (noG rfl) rfl fun _ w hn k => (by
        refine ⟨#[.string s], _, args1 (k.eq1 0 3 rfl), fun w => by kernel_rfl, rascii_c s _ (by first | omega | (show (_ : Nat) ≤ _; decide)), ?_⟩
        rintro e w' ⟨A1, c2, rfl, hmo0, hm⟩
        exact ⟨_, rfl, hm, ⟨A1, c2, rfl, (hmo0.more hn.size)⟩⟩)) ?_
  refine .o1 (tk rfl rfl fun _ w hn k => (by
        obtain ⟨A5, c6, e7, hx8⟩ : (fun (v_ : Value) (W : World) => ∃ (A3 : Option Addr) (c4 : Nat), v_ = sv A3 (asc s) c4 ∧ SOwn W w3.heap.size 66 .u16 A3 (asc s) c4) _ _ := k.dep 1 4 (by kernel_rfl) (by kernel_rfl)
        exact ⟨_, v_build (ps := [(0, iv 5), (3, sv A5 (asc s) c6)]) rfl (parts2 rfl e7) (by kernel_rfl), ⟨A5, c6, rfl, hx8⟩⟩)) ?_
  refine .off ?_
  exact .nil
  intro a16 w17 hn18 ha19
  obtain ⟨hs20, hd21, hN29⟩ := aft ha19 hs6 hd7 hN14 hn18
  have h22 := ha19.fx 2 h9
  obtain ⟨A24, cc25, h23, hr26⟩ : (fun (v_ : Value) (W : World) => ∃ (A9 : Option Addr) (c10 : Nat), v_ = vv (Vl.mk 5 0 0 false [] (asc s) 0) none 0 A9 c10 ∧ SOwn W w3.heap.size 66 .u16 A9 (asc s) c10) _ _ := ha19.got 2 5 rfl (by kernel_rfl)
  have h23 : a16.eval (.tmp 5) = vv (Vl.mk 5 0 0 false [] (asc s) 0) none 0 A24 cc25 := h23
  have hb27 := hb12.new_ hn18
  have hr28 := hr26.more hN14.size
  obtain ⟨w30, hst31, hb320, hu33, hf34⟩ := s_many (P := Try.prog) (t := 29) (i := 0) [iv 5, iv 0, iv 0, .bool false, sv none ([]) 0, sv A24 (asc s) cc25, iv 0] Try.sizeOf29 rfl rfl rfl hb27 (Nat.le_of_ble_eq_true rfl)
  have hb32 : Blk w30 q10 29 [iv 5, iv 0, iv 0, .bool false, sv none ([]) 0, sv A24 (asc s) cc25, iv 0] := hb320
  refine st_act rfl rfl fun K35 hL36 => a_store' rfl h22 h23 hst31 (hL36 _ _ trivial ?_)
  have hr37 := hr28.far hb27 hu33 (by decide)
  have hN38 := hN29.trans hu33 (fun k hk hkb => by subst hkb; omega)
  refine st_nil (hK15 _ _ ?_)
  refine wp_ret (ret_k hd21 (v := vv (Vl.mk 5 0 0 false [] (asc s) 0) none 0 A24 cc25) (res_c rfl h22 (l_agg Try.isAgg29 Try.sizeOf29 hb32 rfl)) ?_)
  exact ⟨A24, cc25, rfl, hr37.row, hN38⟩
set_option maxHeartbeats 4000000 in
set_option maxRecDepth 100000 in
theorem lwhole_c (n : Int) (w : World) : Calls Try.prog 14 #[iv n] w (IsRet (vv (Vl.mk 3 0 n false [] [] 0) none 0 none 0) w) := by
  refine enter_abs Try.func14 rfl fun a0 hs0 hd0 hp => ?_
  have hs0 : a0.tmps.size = 6 := hs0
  have hN0 : New w w := Upd.refl _ _
  have hp0 : a0.eval (.tmp 0) = iv n := hp 0 _ rfl
  refine wp_seq_k fun K1 hK1 => ?_
  refine wp_g [true] [] [] 6
    [IsNew w 29 [iv 0, iv 0, iv 0, .bool false, sv none ([]) 0, sv none ([]) 0, iv 0]]
    [0] (newsCons (fun v w h => IsNew.old h) newsNil) hs0 (.nw (.nil)) ?_ (fun i h => by cases h) ?_
  refine .o2 (step_allocN (cs := [iv 0, iv 0, iv 0, .bool false, sv none ([]) 0, sv none ([]) 0, iv 0]) (t := 29) rfl (noG rfl) (fun _ w hn k => rfl) (fun q _ hq hb => ⟨q, rfl, hq, hb⟩)) ?_
  exact .nil
  intro a2 w3 hn4 ha5
  obtain ⟨hs6, hd7, hN14⟩ := aft ha5 hs0 hd0 hN0 hn4
  have h8 := ha5.fx 0 hp0
  obtain ⟨q10, h9, hq11, hb12⟩ : IsNew _ _ _ _ _ := ha5.got 0 2 rfl (by kernel_rfl)
  have hq13 := Nat.le_trans hN0.size hq11
  refine st_nil (hK1 _ _ ?_)
  refine wp_seq_k fun K15 hK15 => ?_
  refine wp_g0 [true, true, true, false] [(3, false)] 6
    [ve (iv n),
     ve (nv (Nm.mk 0 n)),
     ve (vv (Vl.mk 3 0 n false [] [] 0) none 0 none 0),
     vt] hs6 (.eq (.eq (.eq (.tt (.nil))))) ?_ ?_
  refine .o1 (tk rfl rfl fun _ w hn k => ⟨_, v_move rfl (k.fx 0 h8), rfl⟩) ?_
  refine .o1 (tk rfl rfl fun _ w hn k => ⟨_, v_build (ps := [(1, iv n)]) rfl (parts1 (k.eq1 0 3 rfl)) (by kernel_rfl), rfl⟩) ?_
  refine .o1 (tk rfl rfl fun _ w hn k => ⟨_, v_build (ps := [(0, iv 3), (1, nv (Nm.mk 0 n))]) rfl (parts2 rfl (k.eq1 1 4 rfl)) (by kernel_rfl), rfl⟩) ?_
  refine .off ?_
  exact .nil
  intro a16 w17 hn18 ha19
  obtain ⟨hs20, hd21, hN25⟩ := aft ha19 hs6 hd7 hN14 hn18
  have h22 := ha19.fx 2 h9
  have h23 := ha19.ge 2 5 rfl
  have hb24 := hb12.new_ hn18
  obtain ⟨w26, hst27, hb280, hu29, hf30⟩ := s_many (P := Try.prog) (t := 29) (i := 0) [iv 3, iv 0, iv n, .bool false, sv none ([]) 0, sv none ([]) 0, iv 0] Try.sizeOf29 rfl rfl rfl hb24 (Nat.le_of_ble_eq_true rfl)
  have hb28 : Blk w26 q10 29 [iv 3, iv 0, iv n, .bool false, sv none ([]) 0, sv none ([]) 0, iv 0] := hb280
  refine st_act rfl rfl fun K31 hL32 => a_store' rfl h22 h23 hst27 (hL32 _ _ trivial ?_)
  have hN33 := hN25.trans hu29 (fun k hk hkb => by subst hkb; omega)
  refine st_nil (hK15 _ _ ?_)
  refine wp_ret (ret_k hd21 (v := vv (Vl.mk 3 0 n false [] [] 0) none 0 none 0) (res_c rfl h22 (l_agg Try.isAgg29 Try.sizeOf29 hb28 rfl)) ?_)
  exact ⟨rfl, hN33⟩
def lbig_c_P (x : Nat) (w : World) (en : Ending) (w' : World) : Prop := ∃ (Ar0 : Option Addr) (cr0 : Nat), en = .returned (vv (Vl.mk 4 0 0 false [x] [] 0) Ar0 cr0 none 0) ∧ SRow w' .u32 Ar0 ([x]) cr0 ∧ New w w'
set_option maxHeartbeats 4000000 in
set_option maxRecDepth 100000 in
theorem lbig_c (x : Nat) (w : World) (hx : x < 4294967296) : Calls Try.prog 27 #[.int .u32 (x : Int)] w (lbig_c_P x w) := by
  refine enter_abs Try.func27 rfl fun a0 hs0 hd0 hp => ?_
  have hs0 : a0.tmps.size = 7 := hs0
  have hN0 : New w w := Upd.refl _ _
  have hp0 : a0.eval (.tmp 0) = .int .u32 (x : Int) := hp 0 _ rfl
  refine wp_seq_k fun K1 hK1 => ?_
  refine wp_g [true] [] [] 7
    [IsNew w 29 [iv 0, iv 0, iv 0, .bool false, sv none ([]) 0, sv none ([]) 0, iv 0]]
    [0] (newsCons (fun v w h => IsNew.old h) newsNil) hs0 (.nw (.nil)) ?_ (fun i h => by cases h) ?_
  refine .o2 (step_allocN (cs := [iv 0, iv 0, iv 0, .bool false, sv none ([]) 0, sv none ([]) 0, iv 0]) (t := 29) rfl (noG rfl) (fun _ w hn k => rfl) (fun q _ hq hb => ⟨q, rfl, hq, hb⟩)) ?_
  exact .nil
  intro a2 w3 hn4 ha5
  obtain ⟨hs6, hd7, hN14⟩ := aft ha5 hs0 hd0 hN0 hn4
  have h8 := ha5.fx 0 hp0
  obtain ⟨q10, h9, hq11, hb12⟩ : IsNew _ _ _ _ _ := ha5.got 0 2 rfl (by kernel_rfl)
  have hq13 := Nat.le_trans hN0.size hq11
  refine st_nil (hK1 _ _ ?_)
  refine wp_seq_k fun K15 hK15 => ?_
  refine wp_g0 [true, true, true, true, false] [(4, false)] 7
    [ve (.int .u32 (x : Int)),
     (fun (v_ : Value) (W : World) => ∃ (A3 : Option Addr) (c4 : Nat), v_ = sv A3 ([x]) c4 ∧ SOwn W w3.heap.size 56 .u32 A3 ([x]) c4),
     (fun (v_ : Value) (W : World) => ∃ (A9 : Option Addr) (c10 : Nat), v_ = .agg #[.bool false, sv A9 ([x]) c10] ∧ SOwn W w3.heap.size 56 .u32 A9 ([x]) c10),
     (fun (v_ : Value) (W : World) => ∃ (A15 : Option Addr) (c16 : Nat), v_ = vv (Vl.mk 4 0 0 false [x] [] 0) A15 c16 none 0 ∧ SOwn W w3.heap.size 56 .u32 A15 ([x]) c16),
     vt] hs6 (.eq (.cons (fun v W W' hn ⟨A3, c4, he, h0⟩ => ⟨A3, c4, he, h0.new_ hn⟩) (.cons (fun v W W' hn ⟨A9, c10, he, h0⟩ => ⟨A9, c10, he, h0.new_ hn⟩) (.cons (fun v W W' hn ⟨A15, c16, he, h0⟩ => ⟨A15, c16, he, h0.new_ hn⟩) (.tt (.nil)))))) ?_ ?_
  refine .o1 (tk rfl rfl fun _ w hn k => ⟨_, v_move rfl (k.fx 0 h8), rfl⟩) ?_
  refine .o1 (tkA rfl (noG rfl) fun _ w hn k => (by
        exact x_bslice (k := .u32) (ps := [(0, .int .u32 (x : Int))]) [x] rfl (parts1 (k.eq1 0 3 rfl)) elW rfl (by omega) (by omega) (by first | kernel_rfl | (simp only [enc, List.map_cons, List.map_nil, Int.toNat_natCast, Int.toNat_of_nonneg (by omega : (0 : Int) ≤ _)]; kernel_rfl)) fun A1 c2 W' hmo => ⟨A1, c2, rfl, (hmo.more hn.size)⟩)) ?_
  refine .o1 (tk rfl rfl fun _ w hn k => (by
        obtain ⟨A5, c6, e7, hx8⟩ : (fun (v_ : Value) (W : World) => ∃ (A3 : Option Addr) (c4 : Nat), v_ = sv A3 ([x]) c4 ∧ SOwn W w3.heap.size 56 .u32 A3 ([x]) c4) _ _ := k.dep 1 4 (by kernel_rfl) (by kernel_rfl)
        exact ⟨_, v_build (ps := [(1, sv A5 ([x]) c6)]) rfl (parts1 e7) (by kernel_rfl), ⟨A5, c6, rfl, hx8⟩⟩)) ?_
  refine .o1 (tk rfl rfl fun _ w hn k => (by
        obtain ⟨A11, c12, e13, hx14⟩ : (fun (v_ : Value) (W : World) => ∃ (A9 : Option Addr) (c10 : Nat), v_ = .agg #[.bool false, sv A9 ([x]) c10] ∧ SOwn W w3.heap.size 56 .u32 A9 ([x]) c10) _ _ := k.dep 2 5 (by kernel_rfl) (by kernel_rfl)
        exact ⟨_, v_build (ps := [(0, iv 4), (2, .agg #[.bool false, sv A11 ([x]) c12])]) rfl (parts2 rfl e13) (by kernel_rfl), ⟨A11, c12, rfl, hx14⟩⟩)) ?_
  refine .off ?_
  exact .nil
  intro a16 w17 hn18 ha19
  obtain ⟨hs20, hd21, hN29⟩ := aft ha19 hs6 hd7 hN14 hn18
  have h22 := ha19.fx 2 h9
  obtain ⟨A24, cc25, h23, hr26⟩ : (fun (v_ : Value) (W : World) => ∃ (A15 : Option Addr) (c16 : Nat), v_ = vv (Vl.mk 4 0 0 false [x] [] 0) A15 c16 none 0 ∧ SOwn W w3.heap.size 56 .u32 A15 ([x]) c16) _ _ := ha19.got 3 6 rfl (by kernel_rfl)
  have h23 : a16.eval (.tmp 6) = vv (Vl.mk 4 0 0 false [x] [] 0) A24 cc25 none 0 := h23
  have hb27 := hb12.new_ hn18
  have hr28 := hr26.more hN14.size
  obtain ⟨w30, hst31, hb320, hu33, hf34⟩ := s_many (P := Try.prog) (t := 29) (i := 0) [iv 4, iv 0, iv 0, .bool false, sv A24 ([x]) cc25, sv none ([]) 0, iv 0] Try.sizeOf29 rfl rfl rfl hb27 (Nat.le_of_ble_eq_true rfl)
  have hb32 : Blk w30 q10 29 [iv 4, iv 0, iv 0, .bool false, sv A24 ([x]) cc25, sv none ([]) 0, iv 0] := hb320
  refine st_act rfl rfl fun K35 hL36 => a_store' rfl h22 h23 hst31 (hL36 _ _ trivial ?_)
  have hr37 := hr28.far hb27 hu33 (by decide)
  have hN38 := hN29.trans hu33 (fun k hk hkb => by subst hkb; omega)
  refine st_nil (hK15 _ _ ?_)
  refine wp_ret (ret_k hd21 (v := vv (Vl.mk 4 0 0 false [x] [] 0) A24 cc25 none 0) (res_c rfl h22 (l_agg Try.isAgg29 Try.sizeOf29 hb32 rfl)) ?_)
  exact ⟨A24, cc25, rfl, hr37.row, hN38⟩
theorem VOk.str (s : ByteArray) (h : s.size ≤ 20000) : VOk ⟨5, 0, 0, false, [], asc s, 0⟩ := ⟨Limbs.nil, U16s.asc s, Nat.zero_le _, by rw [asc_len]; exact h, (show (-9223372036854775808 : Int) ≤ 0 by decide), (show (0 : Int) ≤ 9223372036854775807 by decide), (show (-9223372036854775808 : Int) ≤ 0 by decide), (show (0 : Int) ≤ 9223372036854775807 by decide)⟩
theorem VOk.whole {n : Int} (h1 : -9223372036854775808 ≤ n) (h2 : n ≤ 9223372036854775807) : VOk ⟨3, 0, n, false, [], [], 0⟩ := ⟨Limbs.nil, U16s.nil, Nat.zero_le _, Nat.zero_le _, h1, h2, (show (-9223372036854775808 : Int) ≤ 0 by decide), (show (0 : Int) ≤ 9223372036854775807 by decide)⟩
theorem VOk.big {x : Nat} (h : x < 4294967296) : VOk ⟨4, 0, 0, false, [x], [], 0⟩ := ⟨Limbs.cons h Limbs.nil, U16s.nil, (show (1 : Nat) ≤ 40 by decide), Nat.zero_le _, (show (-9223372036854775808 : Int) ≤ 0 by decide), (show (0 : Int) ≤ 9223372036854775807 by decide), (show (-9223372036854775808 : Int) ≤ 0 by decide), (show (0 : Int) ≤ 9223372036854775807 by decide)⟩
theorem VOk.null : VOk ⟨1, 0, 0, false, [], [], 0⟩ := ⟨Limbs.nil, U16s.nil, by decide, by decide, by decide, by decide, by decide, by decide⟩
theorem VOk.truth (t : Bool) : VOk (truthV t) := by cases t <;> exact ⟨Limbs.nil, U16s.nil, by decide, by decide, by decide, by decide, by decide, by decide⟩
theorem few_ok {v : Vl} (h : (decide ((v.s.length : Int) ≤ 20000) && decide ((v.mag.length : Int) ≤ 40)) = true) (hl : Limbs v.mag) (hu : U16s v.s) (h1 : -9223372036854775808 ≤ v.nn) (h2 : v.nn ≤ 9223372036854775807) (h3 : -9223372036854775808 ≤ v.ref) (h4 : v.ref ≤ 9223372036854775807) : VOk v := by
  simp only [Bool.and_eq_true, decide_eq_true_eq] at h
  exact ⟨hl, hu, by omega, by omega, h1, h2, h3, h4⟩
set_option maxRecDepth 100000 in
theorem first_n1 (A0 : Option Addr) (c0 : Nat) (B0 : Option Addr) (d0 : Nat) (w : World) (hm0 : SRow w .u32 A0 [] c0) (hs0 : SRow w .u16 B0 (asc ⟨#[49, 50]⟩) d0) : Calls Try.prog 26 #[vv (Vl.mk 5 0 0 false [] (asc ⟨#[49, 50]⟩) 0) A0 c0 B0 d0] w (IsRet (.tuple #[nv (Nm.mk 0 12), iv 0]) w) := by
  have h := cnumber_c (Vl.mk 5 0 0 false [] (asc ⟨#[49, 50]⟩) 0) A0 c0 B0 d0 w hm0 hs0 (VOk.str ⟨#[49, 50]⟩ (by first | omega | decide))
  rw [show numberV (Vl.mk 5 0 0 false [] (asc ⟨#[49, 50]⟩) 0) = (⟨0, 12⟩, 0) from by decide +kernel] at h
  exact h
set_option maxRecDepth 100000 in
theorem first_n2 (A0 : Option Addr) (c0 : Nat) (B0 : Option Addr) (d0 : Nat) (w : World) (hm0 : SRow w .u32 A0 [] c0) (hs0 : SRow w .u16 B0 (asc ⟨#[49, 46, 53]⟩) d0) : Calls Try.prog 26 #[vv (Vl.mk 5 0 0 false [] (asc ⟨#[49, 46, 53]⟩) 0) A0 c0 B0 d0] w (IsRet (.tuple #[nv (Nm.mk 0 0), iv 3]) w) := by
  have h := cnumber_c (Vl.mk 5 0 0 false [] (asc ⟨#[49, 46, 53]⟩) 0) A0 c0 B0 d0 w hm0 hs0 (VOk.str ⟨#[49, 46, 53]⟩ (by first | omega | decide))
  rw [show numberV (Vl.mk 5 0 0 false [] (asc ⟨#[49, 46, 53]⟩) 0) = (⟨0, 0⟩, 3) from by decide +kernel] at h
  exact h
set_option maxRecDepth 100000 in
theorem first_n3 (A0 : Option Addr) (c0 : Nat) (B0 : Option Addr) (d0 : Nat) (w : World) (hm0 : SRow w .u32 A0 [5] c0) (hs0 : SRow w .u16 B0 [] d0) : Calls Try.prog 26 #[vv (Vl.mk 4 0 0 false [5] [] 0) A0 c0 B0 d0] w (IsRet (.tuple #[nv (Nm.mk 0 0), iv 1]) w) := by
  have h := cnumber_c (Vl.mk 4 0 0 false [5] [] 0) A0 c0 B0 d0 w hm0 hs0 (VOk.big (by omega))
  rw [show numberV (Vl.mk 4 0 0 false [5] [] 0) = (⟨0, 0⟩, 1) from by decide +kernel] at h
  exact h
set_option maxRecDepth 100000 in
theorem first_l2 (A0 : Option Addr) (c0 : Nat) (B0 : Option Addr) (d0 : Nat) (A1 : Option Addr) (c1 : Nat) (B1 : Option Addr) (d1 : Nat) (w : World) (hm0 : SRow w .u32 A0 [2] c0) (hs0 : SRow w .u16 B0 [] d0) (hm1 : SRow w .u32 A1 [] c1) (hs1 : SRow w .u16 B1 [] d1) : Calls Try.prog 9 #[vv (Vl.mk 4 0 0 false [2] [] 0) A0 c0 B0 d0, vv (Vl.mk 3 0 2 false [] [] 0) A1 c1 B1 d1] w (IsRet (.tuple #[.bool true, iv 0]) w) := by
  have h := cloose_c (Vl.mk 4 0 0 false [2] [] 0) A0 c0 B0 d0 (Vl.mk 3 0 2 false [] [] 0) A1 c1 B1 d1 w hm0 hs0 hm1 hs1 (VOk.big (by omega)) (VOk.whole (by omega) (by omega))
  rw [show looseV (Vl.mk 4 0 0 false [2] [] 0) (Vl.mk 3 0 2 false [] [] 0) = (true, 0) from by decide +kernel] at h
  exact h
set_option maxRecDepth 100000 in
theorem first_l3 (A0 : Option Addr) (c0 : Nat) (B0 : Option Addr) (d0 : Nat) (A1 : Option Addr) (c1 : Nat) (B1 : Option Addr) (d1 : Nat) (w : World) (hm0 : SRow w .u32 A0 [] c0) (hs0 : SRow w .u16 B0 [] d0) (hm1 : SRow w .u32 A1 [] c1) (hs1 : SRow w .u16 B1 [] d1) : Calls Try.prog 9 #[vv (Vl.mk 1 0 0 false [] [] 0) A0 c0 B0 d0, vv (Vl.mk 3 0 0 false [] [] 0) A1 c1 B1 d1] w (IsRet (.tuple #[.bool false, iv 0]) w) := by
  have h := cloose_c (Vl.mk 1 0 0 false [] [] 0) A0 c0 B0 d0 (Vl.mk 3 0 0 false [] [] 0) A1 c1 B1 d1 w hm0 hs0 hm1 hs1 VOk.null (VOk.whole (by omega) (by omega))
  rw [show looseV (Vl.mk 1 0 0 false [] [] 0) (Vl.mk 3 0 0 false [] [] 0) = (false, 0) from by decide +kernel] at h
  exact h
set_option maxRecDepth 100000 in
theorem first_l1 (A0 : Option Addr) (c0 : Nat) (B0 : Option Addr) (d0 : Nat) (A1 : Option Addr) (c1 : Nat) (B1 : Option Addr) (d1 : Nat) (w : World) (hm0 : SRow w .u32 A0 [] c0) (hs0 : SRow w .u16 B0 (asc ⟨#[49]⟩) d0) (hm1 : SRow w .u32 A1 (truthV true).mag c1) (hs1 : SRow w .u16 B1 (truthV true).s d1) : Calls Try.prog 9 #[vv (Vl.mk 5 0 0 false [] (asc ⟨#[49]⟩) 0) A0 c0 B0 d0, vv (truthV true) A1 c1 B1 d1] w (IsRet (.tuple #[.bool true, iv 0]) w) := by
  have h := cloose_c (Vl.mk 5 0 0 false [] (asc ⟨#[49]⟩) 0) A0 c0 B0 d0 (truthV true) A1 c1 B1 d1 w hm0 hs0 hm1 hs1 (VOk.str ⟨#[49]⟩ (by first | omega | decide)) (VOk.truth _)
  rw [show looseV (Vl.mk 5 0 0 false [] (asc ⟨#[49]⟩) 0) (truthV true) = (true, 0) from by decide +kernel] at h
  exact h
set_option maxRecDepth 100000 in
theorem first_i1 (A0 : Option Addr) (c0 : Nat) (B0 : Option Addr) (d0 : Nat) (w : World) (hm0 : SRow w .u32 A0 [] c0) (hs0 : SRow w .u16 B0 [] d0) : Calls Try.prog 13 #[vv (Vl.mk 3 0 (-1) false [] [] 0) A0 c0 B0 d0] w (IsRet (.tuple #[iv 0, iv 2]) w) := by
  have h := cindex_c (Vl.mk 3 0 (-1) false [] [] 0) A0 c0 B0 d0 w hm0 hs0 (VOk.whole (by omega) (by omega))
  rw [show indexV (Vl.mk 3 0 (-1) false [] [] 0) = (0, 2) from by decide +kernel] at h
  exact h
set_option maxHeartbeats 16000000 in
set_option maxRecDepth 100000 in
theorem first_c  (w : World) : Calls Try.prog 6 #[] w (IsRet (.bool true) w) := by
  refine enter_abs Try.func6 rfl fun a0 hs0 hd0 hp => ?_
  have hs0 : a0.tmps.size = 94 := hs0
  have hN0 : New w w := Upd.refl _ _
  refine wp_seq_k fun K1 hK1 => ?_
  refine wp_g0 [true] [] 94
    [ve (.bool false)] hs0 (.eq (.nil)) ?_ ?_
  refine .o1 (tk rfl rfl fun _ w hn k => ⟨_, v_assign rfl rfl, rfl⟩) ?_
  exact .nil
  intro a2 w3 hn4 ha5
  obtain ⟨hs6, hd7, hN8⟩ := aft ha5 hs0 hd0 hN0 hn4
  refine st_nil (hK1 _ _ ?_)
  refine wp_seq_k fun K9 hK9 => ?_
  refine wp_g [true, true, true, true, true, true, false, false] [4] [(6, false), (7, true)] 94
    [(fun (v_ : Value) (W : World) => ∃ (A3 : Option Addr) (c4 : Nat), v_ = vv (Vl.mk 5 0 0 false [] (asc ⟨#[49, 50]⟩) 0) none 0 A3 c4 ∧ SRow W .u16 A3 (asc ⟨#[49, 50]⟩) c4),
     ve (.tuple #[nv (Nm.mk 0 12), iv 0]),
     ve (.tuple #[nv (Nm.mk 0 12), iv 0]),
     ve (nv (Nm.mk 0 12)),
     ve (iv 0),
     IsNew w3 23 [iv 0, iv 0],
     vt,
     vt]
    [5] (newsCons (fun v w h => IsNew.old h) newsNil) hs6 (.cons (fun v W W' hn ⟨A3, c4, he, h0⟩ => ⟨A3, c4, he, h0.new_ hn⟩) (.eq (.eq (.eq (.eq (.nw (.tt (.tt (.nil))))))))) ?_ ?_ ?_
  refine .o1 (tkC rfl (noG rfl) rfl fun _ w hn k => (by
        refine ⟨#[.string ⟨#[49, 50]⟩], _, args1 rfl, fun w => by kernel_rfl, lstr_c ⟨#[49, 50]⟩ _ (by first | omega | (show (_ : Nat) ≤ _; decide)), ?_⟩
        rintro e w' ⟨A1, c2, rfl, hmo0, hm⟩
        exact ⟨_, rfl, hm, ⟨A1, c2, rfl, hmo0⟩⟩)) ?_
  refine .o1 (tkC rfl (noG rfl) rfl fun _ w hn k => (by
        obtain ⟨A5, c6, e7, hx8⟩ : (fun (v_ : Value) (W : World) => ∃ (A3 : Option Addr) (c4 : Nat), v_ = vv (Vl.mk 5 0 0 false [] (asc ⟨#[49, 50]⟩) 0) none 0 A3 c4 ∧ SRow W .u16 A3 (asc ⟨#[49, 50]⟩) c4) _ _ := k.dep 0 16 (by kernel_rfl) (by kernel_rfl)
        refine ⟨#[vv (Vl.mk 5 0 0 false [] (asc ⟨#[49, 50]⟩) 0) none 0 A5 c6], _, args1 e7, fun w => by kernel_rfl, first_n1 _ _ _ _ _ (SRow.nil _ _) hx8, ?_⟩
        rintro e w' ⟨rfl, hm⟩
        exact ⟨_, rfl, hm, rfl⟩)) ?_
  refine .o1 (tk rfl rfl fun _ w hn k => ⟨_, v_move rfl (k.eq1 1 17 rfl), rfl⟩) ?_
  refine .o1 (tk rfl rfl fun _ w hn k => ⟨_, v_extract rfl (k.eq1 2 15 rfl) rfl, rfl⟩) ?_
  refine .o3 ?_
  refine .o2 (step_allocN (cs := [iv 0, iv 0]) (t := 23) rfl (noG rfl) (fun _ w hn k => rfl) (fun q _ hq hb => ⟨q, rfl, hq, hb⟩)) ?_
  refine .off ?_
  refine .off ?_
  exact .nil
  intro i h
  simp only [List.contains_eq_mem, List.mem_cons, List.not_mem_nil, or_false, decide_eq_true_eq] at h
  subst h
  exact eager_take rfl rfl fun _ w hn k => ⟨iv 0, fun w => v_extract rfl (k.eq1 2 15 rfl) rfl, rfl⟩
  intro a10 w11 hn12 ha13
  obtain ⟨hs14, hd15, hN23⟩ := aft ha13 hs6 hd7 hN8 hn12
  have h16 := ha13.ge 3 18 rfl
  have h17 := ha13.ge 4 19 rfl
  obtain ⟨q19, h18, hq20, hb21⟩ : IsNew _ _ _ _ _ := ha13.got 5 1 rfl (by kernel_rfl)
  have hq22 := Nat.le_trans hN8.size hq20
  obtain ⟨w24, -, hst25, hb26, hu27, hf28⟩ := s_two (v0 := iv 0) (v1 := iv 12) Try.sizeOf23 rfl rfl rfl hb21
  refine st_act rfl rfl fun K29 hL30 => a_store' rfl h18 h16 hst25 (hL30 _ _ trivial ?_)
  have hN31 := hN23.trans hu27 (fun k hk hkb => by subst hkb; omega)
  refine st_take rfl rfl (y_assign (v := iv 0) rfl h17) rfl ?_
  obtain ⟨a32, ha33⟩ : ∃ a', a' = a10.put (some 2) (iv 0) := ⟨_, rfl⟩
  have hs34 : a32.tmps.size = 94 := by rw [ha33, put_size]; exact hs14
  have hd35 : a32.defers = [] := by rw [ha33, put_defers]; exact hd15
  have h36 := pn ha33 h16 (by decide)
  have h37 := pn ha33 h17 (by decide)
  have h38 := pn ha33 h18 (by decide)
  have h39 : a32.eval (.tmp 2) = iv 0 := by rw [ha33]; exact put_same _ _ _ (by rw [hs14]; decide)
  show stepsTo _ _ _ _ _ (a10.put (some 2) (iv 0)) _
  rw [← ha33]
  refine st_nil (hK9 _ _ ?_)
  refine wp_seq_k fun K40 hK40 => ?_
  refine wp_g [true, true, true, true, true, true, false, false] [4] [(6, false), (7, true)] 94
    [(fun (v_ : Value) (W : World) => ∃ (A11 : Option Addr) (c12 : Nat), v_ = vv (Vl.mk 5 0 0 false [] (asc ⟨#[49, 46, 53]⟩) 0) none 0 A11 c12 ∧ SRow W .u16 A11 (asc ⟨#[49, 46, 53]⟩) c12),
     ve (.tuple #[nv (Nm.mk 0 0), iv 3]),
     ve (.tuple #[nv (Nm.mk 0 0), iv 3]),
     ve (nv (Nm.mk 0 0)),
     ve (iv 3),
     IsNew w24 23 [iv 0, iv 0],
     vt,
     vt]
    [5] (newsCons (fun v w h => IsNew.old h) newsNil) hs34 (.cons (fun v W W' hn ⟨A11, c12, he, h0⟩ => ⟨A11, c12, he, h0.new_ hn⟩) (.eq (.eq (.eq (.eq (.nw (.tt (.tt (.nil))))))))) ?_ ?_ ?_
  refine .o1 (tkC rfl (noG rfl) rfl fun _ w hn k => (by
        refine ⟨#[.string ⟨#[49, 46, 53]⟩], _, args1 rfl, fun w => by kernel_rfl, lstr_c ⟨#[49, 46, 53]⟩ _ (by first | omega | (show (_ : Nat) ≤ _; decide)), ?_⟩
        rintro e w' ⟨A9, c10, rfl, hmo0, hm⟩
        exact ⟨_, rfl, hm, ⟨A9, c10, rfl, hmo0⟩⟩)) ?_
  refine .o1 (tkC rfl (noG rfl) rfl fun _ w hn k => (by
        obtain ⟨A13, c14, e15, hx16⟩ : (fun (v_ : Value) (W : World) => ∃ (A11 : Option Addr) (c12 : Nat), v_ = vv (Vl.mk 5 0 0 false [] (asc ⟨#[49, 46, 53]⟩) 0) none 0 A11 c12 ∧ SRow W .u16 A11 (asc ⟨#[49, 46, 53]⟩) c12) _ _ := k.dep 0 21 (by kernel_rfl) (by kernel_rfl)
        refine ⟨#[vv (Vl.mk 5 0 0 false [] (asc ⟨#[49, 46, 53]⟩) 0) none 0 A13 c14], _, args1 e15, fun w => by kernel_rfl, first_n2 _ _ _ _ _ (SRow.nil _ _) hx16, ?_⟩
        rintro e w' ⟨rfl, hm⟩
        exact ⟨_, rfl, hm, rfl⟩)) ?_
  refine .o1 (tk rfl rfl fun _ w hn k => ⟨_, v_move rfl (k.eq1 1 22 rfl), rfl⟩) ?_
  refine .o1 (tk rfl rfl fun _ w hn k => ⟨_, v_extract rfl (k.eq1 2 20 rfl) rfl, rfl⟩) ?_
  refine .o3 ?_
  refine .o2 (step_allocN (cs := [iv 0, iv 0]) (t := 23) rfl (noG rfl) (fun _ w hn k => rfl) (fun q _ hq hb => ⟨q, rfl, hq, hb⟩)) ?_
  refine .off ?_
  refine .off ?_
  exact .nil
  intro i h
  simp only [List.contains_eq_mem, List.mem_cons, List.not_mem_nil, or_false, decide_eq_true_eq] at h
  subst h
  exact eager_take rfl rfl fun _ w hn k => ⟨iv 3, fun w => v_extract rfl (k.eq1 2 20 rfl) rfl, rfl⟩
  intro a41 w42 hn43 ha44
  obtain ⟨hs45, hd46, hN58⟩ := aft ha44 hs34 hd35 hN31 hn43
  have h47 := ha44.fx 1 h38
  have h48 := ha44.fx 2 h39
  have h49 := ha44.ge 3 23 rfl
  have h50 := ha44.ge 4 24 rfl
  obtain ⟨q52, h51, hq53, hb54⟩ : IsNew _ _ _ _ _ := ha44.got 5 3 rfl (by kernel_rfl)
  have hb55 := hb26.new_ hn43
  have hne56 : q19 ≠ q52 := by have h1 := hb26.lt; have h2 := hq53; omega
  have hq57 := Nat.le_trans hN31.size hq53
  obtain ⟨w59, -, hst60, hb61, hu62, hf63⟩ := s_two (v0 := iv 0) (v1 := iv 0) Try.sizeOf23 rfl rfl rfl hb54
  refine st_act rfl rfl fun K64 hL65 => a_store' rfl h51 h49 hst60 (hL65 _ _ trivial ?_)
  have hb66 := hf63 _ _ _ (hne56) hb55
  have hN67 := hN58.trans hu62 (fun k hk hkb => by subst hkb; omega)
  refine st_take rfl rfl (y_assign (v := iv 3) rfl h50) rfl ?_
  obtain ⟨a68, ha69⟩ : ∃ a', a' = a41.put (some 4) (iv 3) := ⟨_, rfl⟩
  have hs70 : a68.tmps.size = 94 := by rw [ha69, put_size]; exact hs45
  have hd71 : a68.defers = [] := by rw [ha69, put_defers]; exact hd46
  have h72 := pn ha69 h47 (by decide)
  have h73 := pn ha69 h48 (by decide)
  have h74 := pn ha69 h49 (by decide)
  have h75 := pn ha69 h50 (by decide)
  have h76 := pn ha69 h51 (by decide)
  have h77 : a68.eval (.tmp 4) = iv 3 := by rw [ha69]; exact put_same _ _ _ (by rw [hs45]; decide)
  show stepsTo _ _ _ _ _ (a41.put (some 4) (iv 3)) _
  rw [← ha69]
  refine st_nil (hK40 _ _ ?_)
  refine wp_seq_k fun K78 hK78 => ?_
  refine wp_g [true, true, true, true, true, true, false, false] [4] [(6, false), (7, true)] 94
    [(fun (v_ : Value) (W : World) => ∃ (A19 : Option Addr) (c20 : Nat), v_ = vv (Vl.mk 4 0 0 false [5] [] 0) A19 c20 none 0 ∧ SRow W .u32 A19 ([5]) c20),
     ve (.tuple #[nv (Nm.mk 0 0), iv 1]),
     ve (.tuple #[nv (Nm.mk 0 0), iv 1]),
     ve (nv (Nm.mk 0 0)),
     ve (iv 1),
     IsNew w59 23 [iv 0, iv 0],
     vt,
     vt]
    [5] (newsCons (fun v w h => IsNew.old h) newsNil) hs70 (.cons (fun v W W' hn ⟨A19, c20, he, h0⟩ => ⟨A19, c20, he, h0.new_ hn⟩) (.eq (.eq (.eq (.eq (.nw (.tt (.tt (.nil))))))))) ?_ ?_ ?_
  refine .o1 (tkC rfl (noG rfl) rfl fun _ w hn k => (by
        refine ⟨#[.int .u32 5], _, args1 rfl, fun w => by kernel_rfl, lbig_c 5 _ (by omega), ?_⟩
        rintro e w' ⟨A17, c18, rfl, hmo0, hm⟩
        exact ⟨_, rfl, hm, ⟨A17, c18, rfl, hmo0⟩⟩)) ?_
  refine .o1 (tkC rfl (noG rfl) rfl fun _ w hn k => (by
        obtain ⟨A21, c22, e23, hx24⟩ : (fun (v_ : Value) (W : World) => ∃ (A19 : Option Addr) (c20 : Nat), v_ = vv (Vl.mk 4 0 0 false [5] [] 0) A19 c20 none 0 ∧ SRow W .u32 A19 ([5]) c20) _ _ := k.dep 0 26 (by kernel_rfl) (by kernel_rfl)
        refine ⟨#[vv (Vl.mk 4 0 0 false [5] [] 0) A21 c22 none 0], _, args1 e23, fun w => by kernel_rfl, first_n3 _ _ _ _ _ hx24 (SRow.nil _ _), ?_⟩
        rintro e w' ⟨rfl, hm⟩
        exact ⟨_, rfl, hm, rfl⟩)) ?_
  refine .o1 (tk rfl rfl fun _ w hn k => ⟨_, v_move rfl (k.eq1 1 27 rfl), rfl⟩) ?_
  refine .o1 (tk rfl rfl fun _ w hn k => ⟨_, v_extract rfl (k.eq1 2 25 rfl) rfl, rfl⟩) ?_
  refine .o3 ?_
  refine .o2 (step_allocN (cs := [iv 0, iv 0]) (t := 23) rfl (noG rfl) (fun _ w hn k => rfl) (fun q _ hq hb => ⟨q, rfl, hq, hb⟩)) ?_
  refine .off ?_
  refine .off ?_
  exact .nil
  intro i h
  simp only [List.contains_eq_mem, List.mem_cons, List.not_mem_nil, or_false, decide_eq_true_eq] at h
  subst h
  exact eager_take rfl rfl fun _ w hn k => ⟨iv 1, fun w => v_extract rfl (k.eq1 2 25 rfl) rfl, rfl⟩
  intro a79 w80 hn81 ha82
  obtain ⟨hs83, hd84, hN97⟩ := aft ha82 hs70 hd71 hN67 hn81
  have h85 := ha82.fx 1 h72
  have h86 := ha82.fx 2 h73
  have h87 := ha82.fx 4 h77
  have h88 := ha82.ge 3 28 rfl
  have h89 := ha82.ge 4 29 rfl
  obtain ⟨q91, h90, hq92, hb93⟩ : IsNew _ _ _ _ _ := ha82.got 5 5 rfl (by kernel_rfl)
  have hb94 := hb66.new_ hn81
  have hne95 : q19 ≠ q91 := by have h1 := hb66.lt; have h2 := hq92; omega
  have hq96 := Nat.le_trans hN67.size hq92
  obtain ⟨w98, -, hst99, hb100, hu101, hf102⟩ := s_two (v0 := iv 0) (v1 := iv 0) Try.sizeOf23 rfl rfl rfl hb93
  refine st_act rfl rfl fun K103 hL104 => a_store' rfl h90 h88 hst99 (hL104 _ _ trivial ?_)
  have hb105 := hf102 _ _ _ (hne95) hb94
  have hN106 := hN97.trans hu101 (fun k hk hkb => by subst hkb; omega)
  refine st_take rfl rfl (y_assign (v := iv 1) rfl h89) rfl ?_
  obtain ⟨a107, ha108⟩ : ∃ a', a' = a79.put (some 6) (iv 1) := ⟨_, rfl⟩
  have hs109 : a107.tmps.size = 94 := by rw [ha108, put_size]; exact hs83
  have hd110 : a107.defers = [] := by rw [ha108, put_defers]; exact hd84
  have h111 := pn ha108 h85 (by decide)
  have h112 := pn ha108 h86 (by decide)
  have h113 := pn ha108 h87 (by decide)
  have h114 := pn ha108 h88 (by decide)
  have h115 := pn ha108 h89 (by decide)
  have h116 := pn ha108 h90 (by decide)
  have h117 : a107.eval (.tmp 6) = iv 1 := by rw [ha108]; exact put_same _ _ _ (by rw [hs83]; decide)
  show stepsTo _ _ _ _ _ (a79.put (some 6) (iv 1)) _
  rw [← ha108]
  refine st_nil (hK78 _ _ ?_)
  refine wp_seq_k fun K118 hK118 => ?_
  refine wp_g0 [true, true, true, true, true, true, true, true] [] 94
    [(fun (v_ : Value) (W : World) => ∃ (A27 : Option Addr) (c28 : Nat), v_ = vv (Vl.mk 5 0 0 false [] (asc ⟨#[49]⟩) 0) none 0 A27 c28 ∧ SRow W .u16 A27 (asc ⟨#[49]⟩) c28),
     (fun (v_ : Value) (W : World) => ∃ (A33 : Option Addr) (c34 : Nat) (A35 : Option Addr) (c36 : Nat), v_ = vv (truthV true) A33 c34 A35 c36 ∧ SRow W .u32 A33 ((truthV true).mag) c34 ∧ SRow W .u16 A35 ((truthV true).s) c36),
     ve (.tuple #[.bool true, iv 0]),
     ve (.tuple #[.bool true, iv 0]),
     ve (.bool true),
     ve (iv 0),
     ve (.bool true),
     ve (iv 0)] hs109 (.cons (fun v W W' hn ⟨A27, c28, he, h0⟩ => ⟨A27, c28, he, h0.new_ hn⟩) (.cons (fun v W W' hn ⟨A33, c34, A35, c36, he, h0, h1⟩ => ⟨A33, c34, A35, c36, he, h0.new_ hn, h1.new_ hn⟩) (.eq (.eq (.eq (.eq (.eq (.eq (.nil))))))))) ?_ ?_
  refine .o1 (tkC rfl (noG rfl) rfl fun _ w hn k => (by
        refine ⟨#[.string ⟨#[49]⟩], _, args1 rfl, fun w => by kernel_rfl, lstr_c ⟨#[49]⟩ _ (by first | omega | (show (_ : Nat) ≤ _; decide)), ?_⟩
        rintro e w' ⟨A25, c26, rfl, hmo0, hm⟩
        exact ⟨_, rfl, hm, ⟨A25, c26, rfl, hmo0⟩⟩)) ?_
  refine .o1 (tkC rfl (noG rfl) rfl fun _ w hn k => (by
        refine ⟨#[.bool true], _, args1 rfl, fun w => by kernel_rfl, truth_c true _ , ?_⟩
        rintro e w' ⟨A29, c30, A31, c32, rfl, hmo0, hmo1, hm⟩
        exact ⟨_, rfl, hm, ⟨A29, c30, A31, c32, rfl, hmo0, hmo1⟩⟩)) ?_
  refine .o1 (tkC rfl (noG rfl) rfl fun _ w hn k => (by
        obtain ⟨A37, c38, e39, hx40⟩ : (fun (v_ : Value) (W : World) => ∃ (A27 : Option Addr) (c28 : Nat), v_ = vv (Vl.mk 5 0 0 false [] (asc ⟨#[49]⟩) 0) none 0 A27 c28 ∧ SRow W .u16 A27 (asc ⟨#[49]⟩) c28) _ _ := k.dep 0 31 (by kernel_rfl) (by kernel_rfl)
        obtain ⟨A41, c42, A43, c44, e45, hx46, hx47⟩ : (fun (v_ : Value) (W : World) => ∃ (A33 : Option Addr) (c34 : Nat) (A35 : Option Addr) (c36 : Nat), v_ = vv (truthV true) A33 c34 A35 c36 ∧ SRow W .u32 A33 ((truthV true).mag) c34 ∧ SRow W .u16 A35 ((truthV true).s) c36) _ _ := k.dep 1 32 (by kernel_rfl) (by kernel_rfl)
        refine ⟨#[vv (Vl.mk 5 0 0 false [] (asc ⟨#[49]⟩) 0) none 0 A37 c38, vv (truthV true) A41 c42 A43 c44], _, args2 e39 e45, fun w => by kernel_rfl, first_l1 _ _ _ _ _ _ _ _ _ (SRow.nil _ _) hx40 hx46 hx47, ?_⟩
        rintro e w' ⟨rfl, hm⟩
        exact ⟨_, rfl, hm, rfl⟩)) ?_
  refine .o1 (tk rfl rfl fun _ w hn k => ⟨_, v_move rfl (k.eq1 2 33 rfl), rfl⟩) ?_
  refine .o1 (tk rfl rfl fun _ w hn k => ⟨_, v_extract rfl (k.eq1 3 30 rfl) rfl, rfl⟩) ?_
  refine .o1 (tk rfl rfl fun _ w hn k => ⟨_, v_extract rfl (k.eq1 3 30 rfl) rfl, rfl⟩) ?_
  refine .o1 (tk rfl rfl fun _ w hn k => ⟨_, v_assign rfl (k.eq1 4 34 rfl), rfl⟩) ?_
  refine .o1 (tk rfl rfl fun _ w hn k => ⟨_, v_assign rfl (k.eq1 5 35 rfl), rfl⟩) ?_
  exact .nil
  intro a119 w120 hn121 ha122
  obtain ⟨hs123, hd124, hN132⟩ := aft ha122 hs109 hd110 hN106 hn121
  have h125 := ha122.fx 1 h111
  have h126 := ha122.fx 2 h112
  have h127 := ha122.fx 4 h113
  have h128 := ha122.fx 6 h117
  have h129 := ha122.ge 6 7 rfl
  have h130 := ha122.ge 7 8 rfl
  have hb131 := hb105.new_ hn121
  refine st_nil (hK118 _ _ ?_)
  refine wp_seq_k fun K133 hK133 => ?_
  refine wp_g0 [true, true, true, true, true, true, true, true] [] 94
    [(fun (v_ : Value) (W : World) => ∃ (A50 : Option Addr) (c51 : Nat), v_ = vv (Vl.mk 4 0 0 false [2] [] 0) A50 c51 none 0 ∧ SRow W .u32 A50 ([2]) c51),
     ve (vv (Vl.mk 3 0 2 false [] [] 0) none 0 none 0),
     ve (.tuple #[.bool true, iv 0]),
     ve (.tuple #[.bool true, iv 0]),
     ve (.bool true),
     ve (iv 0),
     ve (.bool true),
     ve (iv 0)] hs123 (.cons (fun v W W' hn ⟨A50, c51, he, h0⟩ => ⟨A50, c51, he, h0.new_ hn⟩) (.eq (.eq (.eq (.eq (.eq (.eq (.eq (.nil))))))))) ?_ ?_
  refine .o1 (tkC rfl (noG rfl) rfl fun _ w hn k => (by
        refine ⟨#[.int .u32 2], _, args1 rfl, fun w => by kernel_rfl, lbig_c 2 _ (by omega), ?_⟩
        rintro e w' ⟨A48, c49, rfl, hmo0, hm⟩
        exact ⟨_, rfl, hm, ⟨A48, c49, rfl, hmo0⟩⟩)) ?_
  refine .o1 (ck rfl rfl rfl (fun _ w hn k => ⟨#[iv 2], args1 rfl, fun _ => by kernel_rfl, lwhole_c 2 _ ⟩) fun _ => rfl) ?_
  refine .o1 (tkC rfl (noG rfl) rfl fun _ w hn k => (by
        obtain ⟨A52, c53, e54, hx55⟩ : (fun (v_ : Value) (W : World) => ∃ (A50 : Option Addr) (c51 : Nat), v_ = vv (Vl.mk 4 0 0 false [2] [] 0) A50 c51 none 0 ∧ SRow W .u32 A50 ([2]) c51) _ _ := k.dep 0 37 (by kernel_rfl) (by kernel_rfl)
        refine ⟨#[vv (Vl.mk 4 0 0 false [2] [] 0) A52 c53 none 0, vv (Vl.mk 3 0 2 false [] [] 0) none 0 none 0], _, args2 e54 (k.eq1 1 38 rfl), fun w => by kernel_rfl, first_l2 _ _ _ _ _ _ _ _ _ hx55 (SRow.nil _ _) (SRow.nil _ _) (SRow.nil _ _), ?_⟩
        rintro e w' ⟨rfl, hm⟩
        exact ⟨_, rfl, hm, rfl⟩)) ?_
  refine .o1 (tk rfl rfl fun _ w hn k => ⟨_, v_move rfl (k.eq1 2 39 rfl), rfl⟩) ?_
  refine .o1 (tk rfl rfl fun _ w hn k => ⟨_, v_extract rfl (k.eq1 3 36 rfl) rfl, rfl⟩) ?_
  refine .o1 (tk rfl rfl fun _ w hn k => ⟨_, v_extract rfl (k.eq1 3 36 rfl) rfl, rfl⟩) ?_
  refine .o1 (tk rfl rfl fun _ w hn k => ⟨_, v_assign rfl (k.eq1 4 40 rfl), rfl⟩) ?_
  refine .o1 (tk rfl rfl fun _ w hn k => ⟨_, v_assign rfl (k.eq1 5 41 rfl), rfl⟩) ?_
  exact .nil
  intro a134 w135 hn136 ha137
  obtain ⟨hs138, hd139, hN149⟩ := aft ha137 hs123 hd124 hN132 hn136
  have h140 := ha137.fx 1 h125
  have h141 := ha137.fx 2 h126
  have h142 := ha137.fx 4 h127
  have h143 := ha137.fx 6 h128
  have h144 := ha137.fx 7 h129
  have h145 := ha137.fx 8 h130
  have h146 := ha137.ge 6 9 rfl
  have h147 := ha137.ge 7 10 rfl
  have hb148 := hb131.new_ hn136
  refine st_nil (hK133 _ _ ?_)
  refine wp_seq_k fun K150 hK150 => ?_
  refine wp_g0 [true, true, true, true, true, true, true, true] [] 94
    [ve (vv (Vl.mk 1 0 0 false [] [] 0) none 0 none 0),
     ve (vv (Vl.mk 3 0 0 false [] [] 0) none 0 none 0),
     ve (.tuple #[.bool false, iv 0]),
     ve (.tuple #[.bool false, iv 0]),
     ve (.bool false),
     ve (iv 0),
     ve (.bool false),
     ve (iv 0)] hs138 (.eq (.eq (.eq (.eq (.eq (.eq (.eq (.eq (.nil))))))))) ?_ ?_
  refine .o1 (tk rfl rfl fun _ w hn k => ⟨_, v_build (ps := [(0, iv 1)]) rfl (parts1 rfl) (by kernel_rfl), rfl⟩) ?_
  refine .o1 (ck rfl rfl rfl (fun _ w hn k => ⟨#[iv 0], args1 rfl, fun _ => by kernel_rfl, lwhole_c 0 _ ⟩) fun _ => rfl) ?_
  refine .o1 (ck rfl rfl rfl (fun _ w hn k => ⟨#[vv (Vl.mk 1 0 0 false [] [] 0) none 0 none 0, vv (Vl.mk 3 0 0 false [] [] 0) none 0 none 0], args2 (k.eq1 0 43 rfl) (k.eq1 1 44 rfl), fun _ => by kernel_rfl, first_l3 _ _ _ _ _ _ _ _ _ (SRow.nil _ _) (SRow.nil _ _) (SRow.nil _ _) (SRow.nil _ _)⟩) fun _ => rfl) ?_
  refine .o1 (tk rfl rfl fun _ w hn k => ⟨_, v_move rfl (k.eq1 2 45 rfl), rfl⟩) ?_
  refine .o1 (tk rfl rfl fun _ w hn k => ⟨_, v_extract rfl (k.eq1 3 42 rfl) rfl, rfl⟩) ?_
  refine .o1 (tk rfl rfl fun _ w hn k => ⟨_, v_extract rfl (k.eq1 3 42 rfl) rfl, rfl⟩) ?_
  refine .o1 (tk rfl rfl fun _ w hn k => ⟨_, v_assign rfl (k.eq1 4 46 rfl), rfl⟩) ?_
  refine .o1 (tk rfl rfl fun _ w hn k => ⟨_, v_assign rfl (k.eq1 5 47 rfl), rfl⟩) ?_
  exact .nil
  intro a151 w152 hn153 ha154
  obtain ⟨hs155, hd156, hN168⟩ := aft ha154 hs138 hd139 hN149 hn153
  have h157 := ha154.fx 1 h140
  have h158 := ha154.fx 2 h141
  have h159 := ha154.fx 4 h142
  have h160 := ha154.fx 6 h143
  have h161 := ha154.fx 7 h144
  have h162 := ha154.fx 8 h145
  have h163 := ha154.fx 9 h146
  have h164 := ha154.fx 10 h147
  have h165 := ha154.ge 6 11 rfl
  have h166 := ha154.ge 7 12 rfl
  have hb167 := hb148.new_ hn153
  refine st_nil (hK150 _ _ ?_)
  refine wp_seq_k fun K169 hK169 => ?_
  refine wp_g0 [true, true, true, true, true, true, true] [] 94
    [ve (vv (Vl.mk 3 0 (-1) false [] [] 0) none 0 none 0),
     ve (.tuple #[iv 0, iv 2]),
     ve (.tuple #[iv 0, iv 2]),
     ve (iv 0),
     ve (iv 2),
     ve (iv 0),
     ve (iv 2)] hs155 (.eq (.eq (.eq (.eq (.eq (.eq (.eq (.nil)))))))) ?_ ?_
  refine .o1 (ck rfl rfl rfl (fun _ w hn k => ⟨#[iv (-1)], args1 rfl, fun _ => by kernel_rfl, lwhole_c (-1) _ ⟩) fun _ => rfl) ?_
  refine .o1 (ck rfl rfl rfl (fun _ w hn k => ⟨#[vv (Vl.mk 3 0 (-1) false [] [] 0) none 0 none 0], args1 (k.eq1 0 49 rfl), fun _ => by kernel_rfl, first_i1 _ _ _ _ _ (SRow.nil _ _) (SRow.nil _ _)⟩) fun _ => rfl) ?_
  refine .o1 (tk rfl rfl fun _ w hn k => ⟨_, v_move rfl (k.eq1 1 50 rfl), rfl⟩) ?_
  refine .o1 (tk rfl rfl fun _ w hn k => ⟨_, v_extract rfl (k.eq1 2 48 rfl) rfl, rfl⟩) ?_
  refine .o1 (tk rfl rfl fun _ w hn k => ⟨_, v_extract rfl (k.eq1 2 48 rfl) rfl, rfl⟩) ?_
  refine .o1 (tk rfl rfl fun _ w hn k => ⟨_, v_assign rfl (k.eq1 3 51 rfl), rfl⟩) ?_
  refine .o1 (tk rfl rfl fun _ w hn k => ⟨_, v_assign rfl (k.eq1 4 52 rfl), rfl⟩) ?_
  exact .nil
  intro a170 w171 hn172 ha173
  obtain ⟨hs174, hd175, hN188⟩ := aft ha173 hs155 hd156 hN168 hn172
  have h176 := ha173.fx 1 h157
  have h177 := ha173.fx 2 h158
  have h178 := ha173.fx 4 h159
  have h179 := ha173.fx 6 h160
  have h180 := ha173.fx 7 h161
  have h181 := ha173.fx 8 h162
  have h182 := ha173.fx 9 h163
  have h183 := ha173.fx 10 h164
  have h184 := ha173.fx 11 h165
  have h185 := ha173.fx 12 h166
  have h186 := ha173.ge 6 14 rfl
  have hb187 := hb167.new_ hn172
  refine st_nil (hK169 _ _ ?_)
  refine wp_seq_k fun K189 hK189 => ?_
  refine wp_g0 [true, true, true, true, true, true, true, true, true, true, true, true, true, true, true, true, true, true, true, true, true, true, true, true, true, true, true, true, true, true, true, true, true, true, true, true, true, true, true, true, true, true] [] 94
    [ve (iv 0),
     ve (.bool true),
     ve (.bool true),
     ve (.pointer (some ⟨q19, 1, none⟩)),
     ve (iv 12),
     ve (.bool true),
     ve (.bool true),
     ve (.bool true),
     ve (iv 3),
     ve (.bool true),
     ve (.bool true),
     ve (.bool true),
     ve (iv 1),
     ve (.bool true),
     ve (.bool true),
     ve (.bool true),
     ve (iv 0),
     ve (.bool true),
     ve (.bool true),
     ve (.bool true),
     ve (.bool true),
     ve (.bool true),
     ve (.bool true),
     ve (iv 0),
     ve (.bool true),
     ve (.bool true),
     ve (.bool true),
     ve (.bool true),
     ve (.bool true),
     ve (.bool true),
     ve (iv 0),
     ve (.bool true),
     ve (.bool true),
     ve (.bool true),
     ve (.bool false),
     ve (.bool true),
     ve (.bool true),
     ve (.bool true),
     ve (iv 2),
     ve (.bool true),
     ve (.bool true),
     ve (.bool true)] hs174 (.eq (.eq (.eq (.eq (.eq (.eq (.eq (.eq (.eq (.eq (.eq (.eq (.eq (.eq (.eq (.eq (.eq (.eq (.eq (.eq (.eq (.eq (.eq (.eq (.eq (.eq (.eq (.eq (.eq (.eq (.eq (.eq (.eq (.eq (.eq (.eq (.eq (.eq (.eq (.eq (.eq (.eq (.nil))))))))))))))))))))))))))))))))))))))))))) ?_ ?_
  refine .o1 (tk rfl rfl fun _ w hn k => ⟨_, v_move rfl (k.fx 2 h177), rfl⟩) ?_
  refine .o1 (tk rfl rfl fun _ w hn k => ⟨_, v_bin rfl (k.eq1 0 53 rfl) rfl (fun _ => rfl) (fun w => by kernel_rfl), rfl⟩) ?_
  refine .o1 (tk rfl rfl fun _ w hn k => ⟨_, v_move rfl (k.eq1 1 54 rfl), rfl⟩) ?_
  refine .o1 (tg rfl rfl rfl (fun _ _ k => k.eq1 2 55 rfl) fun _ w hn k => ⟨_, v_field rfl (k.fx 1 h176) (fun w => rfl), rfl⟩) ?_
  refine .o1 (tg rfl rfl rfl (fun _ _ k => k.eq1 2 55 rfl) fun _ w hn k => ⟨_, v_load rfl (k.eq1 3 56 rfl) (l_one Try.isAgg3 ((hb187.new_ hn).cell 1)), rfl⟩) ?_
  refine .o1 (tg rfl rfl rfl (fun _ _ k => k.eq1 2 55 rfl) fun _ w hn k => ⟨_, v_bin rfl (k.eq1 4 57 rfl) rfl (fun _ => rfl) (fun w => by kernel_rfl), rfl⟩) ?_
  refine .o1 (tk rfl rfl fun _ w hn k => ⟨_, v_pickT rfl (k.eq1 2 55 rfl) (k.eq1 5 58 rfl), rfl⟩) ?_
  refine .o1 (tk rfl rfl fun _ w hn k => ⟨_, v_move rfl (k.eq1 6 59 rfl), rfl⟩) ?_
  refine .o1 (tg rfl rfl rfl (fun _ _ k => k.eq1 7 60 rfl) fun _ w hn k => ⟨_, v_move rfl (k.fx 4 h178), rfl⟩) ?_
  refine .o1 (tg rfl rfl rfl (fun _ _ k => k.eq1 7 60 rfl) fun _ w hn k => ⟨_, v_bin rfl (k.eq1 8 61 rfl) rfl (fun _ => rfl) (fun w => by kernel_rfl), rfl⟩) ?_
  refine .o1 (tk rfl rfl fun _ w hn k => ⟨_, v_pickT rfl (k.eq1 7 60 rfl) (k.eq1 9 62 rfl), rfl⟩) ?_
  refine .o1 (tk rfl rfl fun _ w hn k => ⟨_, v_move rfl (k.eq1 10 63 rfl), rfl⟩) ?_
  refine .o1 (tg rfl rfl rfl (fun _ _ k => k.eq1 11 64 rfl) fun _ w hn k => ⟨_, v_move rfl (k.fx 6 h179), rfl⟩) ?_
  refine .o1 (tg rfl rfl rfl (fun _ _ k => k.eq1 11 64 rfl) fun _ w hn k => ⟨_, v_bin rfl (k.eq1 12 65 rfl) rfl (fun _ => rfl) (fun w => by kernel_rfl), rfl⟩) ?_
  refine .o1 (tk rfl rfl fun _ w hn k => ⟨_, v_pickT rfl (k.eq1 11 64 rfl) (k.eq1 13 66 rfl), rfl⟩) ?_
  refine .o1 (tk rfl rfl fun _ w hn k => ⟨_, v_move rfl (k.eq1 14 67 rfl), rfl⟩) ?_
  refine .o1 (tg rfl rfl rfl (fun _ _ k => k.eq1 15 68 rfl) fun _ w hn k => ⟨_, v_move rfl (k.fx 8 h181), rfl⟩) ?_
  refine .o1 (tg rfl rfl rfl (fun _ _ k => k.eq1 15 68 rfl) fun _ w hn k => ⟨_, v_bin rfl (k.eq1 16 69 rfl) rfl (fun _ => rfl) (fun w => by kernel_rfl), rfl⟩) ?_
  refine .o1 (tk rfl rfl fun _ w hn k => ⟨_, v_pickT rfl (k.eq1 15 68 rfl) (k.eq1 17 70 rfl), rfl⟩) ?_
  refine .o1 (tk rfl rfl fun _ w hn k => ⟨_, v_move rfl (k.eq1 18 71 rfl), rfl⟩) ?_
  refine .o1 (tg rfl rfl rfl (fun _ _ k => k.eq1 19 72 rfl) fun _ w hn k => ⟨_, v_move rfl (k.fx 7 h180), rfl⟩) ?_
  refine .o1 (tk rfl rfl fun _ w hn k => ⟨_, v_pickT rfl (k.eq1 19 72 rfl) (k.eq1 20 73 rfl), rfl⟩) ?_
  refine .o1 (tk rfl rfl fun _ w hn k => ⟨_, v_move rfl (k.eq1 21 74 rfl), rfl⟩) ?_
  refine .o1 (tg rfl rfl rfl (fun _ _ k => k.eq1 22 75 rfl) fun _ w hn k => ⟨_, v_move rfl (k.fx 10 h183), rfl⟩) ?_
  refine .o1 (tg rfl rfl rfl (fun _ _ k => k.eq1 22 75 rfl) fun _ w hn k => ⟨_, v_bin rfl (k.eq1 23 76 rfl) rfl (fun _ => rfl) (fun w => by kernel_rfl), rfl⟩) ?_
  refine .o1 (tk rfl rfl fun _ w hn k => ⟨_, v_pickT rfl (k.eq1 22 75 rfl) (k.eq1 24 77 rfl), rfl⟩) ?_
  refine .o1 (tk rfl rfl fun _ w hn k => ⟨_, v_move rfl (k.eq1 25 78 rfl), rfl⟩) ?_
  refine .o1 (tg rfl rfl rfl (fun _ _ k => k.eq1 26 79 rfl) fun _ w hn k => ⟨_, v_move rfl (k.fx 9 h182), rfl⟩) ?_
  refine .o1 (tk rfl rfl fun _ w hn k => ⟨_, v_pickT rfl (k.eq1 26 79 rfl) (k.eq1 27 80 rfl), rfl⟩) ?_
  refine .o1 (tk rfl rfl fun _ w hn k => ⟨_, v_move rfl (k.eq1 28 81 rfl), rfl⟩) ?_
  refine .o1 (tg rfl rfl rfl (fun _ _ k => k.eq1 29 82 rfl) fun _ w hn k => ⟨_, v_move rfl (k.fx 12 h185), rfl⟩) ?_
  refine .o1 (tg rfl rfl rfl (fun _ _ k => k.eq1 29 82 rfl) fun _ w hn k => ⟨_, v_bin rfl (k.eq1 30 83 rfl) rfl (fun _ => rfl) (fun w => by kernel_rfl), rfl⟩) ?_
  refine .o1 (tk rfl rfl fun _ w hn k => ⟨_, v_pickT rfl (k.eq1 29 82 rfl) (k.eq1 31 84 rfl), rfl⟩) ?_
  refine .o1 (tk rfl rfl fun _ w hn k => ⟨_, v_move rfl (k.eq1 32 85 rfl), rfl⟩) ?_
  refine .o1 (tg rfl rfl rfl (fun _ _ k => k.eq1 33 86 rfl) fun _ w hn k => ⟨_, v_move rfl (k.fx 11 h184), rfl⟩) ?_
  refine .o1 (tg rfl rfl rfl (fun _ _ k => k.eq1 33 86 rfl) fun _ w hn k => ⟨_, v_not rfl (k.eq1 34 87 rfl), rfl⟩) ?_
  refine .o1 (tk rfl rfl fun _ w hn k => ⟨_, v_pickT rfl (k.eq1 33 86 rfl) (k.eq1 35 88 rfl), rfl⟩) ?_
  refine .o1 (tk rfl rfl fun _ w hn k => ⟨_, v_move rfl (k.eq1 36 89 rfl), rfl⟩) ?_
  refine .o1 (tg rfl rfl rfl (fun _ _ k => k.eq1 37 90 rfl) fun _ w hn k => ⟨_, v_move rfl (k.fx 14 h186), rfl⟩) ?_
  refine .o1 (tg rfl rfl rfl (fun _ _ k => k.eq1 37 90 rfl) fun _ w hn k => ⟨_, v_bin rfl (k.eq1 38 91 rfl) rfl (fun _ => rfl) (fun w => by kernel_rfl), rfl⟩) ?_
  refine .o1 (tk rfl rfl fun _ w hn k => ⟨_, v_pickT rfl (k.eq1 37 90 rfl) (k.eq1 39 92 rfl), rfl⟩) ?_
  refine .o1 (tk rfl rfl fun _ w hn k => ⟨_, v_assign rfl (k.eq1 40 93 rfl), rfl⟩) ?_
  exact .nil
  intro a190 w191 hn192 ha193
  obtain ⟨hs194, hd195, hN197⟩ := aft ha193 hs174 hd175 hN188 hn192
  have h196 := ha193.ge 41 0 rfl
  refine st_nil (hK189 _ _ ?_)
  refine wp_ret (ret_k hd195 (v := .bool true) (res_t rfl h196 _) ?_)
  exact ⟨rfl, hN197⟩
set_option maxHeartbeats 16000000 in
set_option maxRecDepth 100000 in
theorem indices_w (v : Vl) (Av : Option Addr) (cv : Nat) (Bv : Option Addr) (dv : Nat) (n : Int) (w : World) (hmv : SRow w .u32 Av v.mag cv) (hsv : SRow w .u16 Bv v.s dv) (hlv : Limbs v.mag) (huv : U16s v.s) (hbv : -9223372036854775808 ≤ v.nn ∧ v.nn ≤ 9223372036854775807 ∧ -9223372036854775808 ≤ v.ref ∧ v.ref ≤ 9223372036854775807) (hn1 : -9223372036854775808 ≤ n) (hn2 : n ≤ 9223372036854775807) : Calls Try.prog 4 #[vv v Av cv Bv dv, iv n] w (IsRet (.bool true) w) := by
  refine enter_abs Try.func4 rfl fun a0 hs0 hd0 hp => ?_
  have hs0 : a0.tmps.size = 98 := hs0
  have hN0 : New w w := Upd.refl _ _
  have hp0 : a0.eval (.tmp 0) = vv v Av cv Bv dv := hp 0 _ rfl
  have hp1 : a0.eval (.tmp 1) = iv n := hp 1 _ rfl
  have htl := textI_len hn1 hn2
  have hif := idx_facts n htl
  obtain ⟨hif1, hif2, hif3⟩ := hif
  have hib := idx_bd v
  refine wp_seq_k fun K1 hK1 => ?_
  refine wp_g [true, true] [] [] 98
    [IsNew w 29 [iv v.k, iv v.nk, iv v.nn, .bool v.neg, sv Av v.mag cv, sv Bv v.s dv, iv v.ref],
     ve (.bool false)]
    [0] (newsCons (fun v w h => IsNew.old h) newsNil) hs0 (.nw (.eq (.nil))) ?_ (fun i h => by cases h) ?_
  refine .o2 (step_allocN (cs := [iv v.k, iv v.nk, iv v.nn, .bool v.neg, sv Av v.mag cv, sv Bv v.s dv, iv v.ref]) (t := 29) rfl (noG rfl) (fun _ w hn k => v_box rfl (k.fx 0 hp0) (fun w => rfl)) (fun q _ hq hb => ⟨q, rfl, hq, hb⟩)) ?_
  refine .o1 (tk rfl rfl fun _ w hn k => ⟨_, v_assign rfl rfl, rfl⟩) ?_
  exact .nil
  intro a2 w3 hn4 ha5
  obtain ⟨hs6, hd7, hN14⟩ := aft ha5 hs0 hd0 hN0 hn4
  have h8 := ha5.fx 1 hp1
  obtain ⟨q10, h9, hq11, hb12⟩ : IsNew _ _ _ _ _ := ha5.got 0 2 rfl (by kernel_rfl)
  have hq13 := Nat.le_trans hN0.size hq11
  refine st_nil (hK1 _ _ ?_)
  refine wp_seq_k fun K15 hK15 => ?_
  refine wp_seq_k fun K16 hK16 => ?_
  refine wp_g0 [true, true] [] 98
    [ve (.bool true),
     ve (.bool false)] hs6 (.eq (.eq (.nil))) ?_ ?_
  refine .o1 (ck rfl rfl rfl (fun _ w hn k => ⟨#[], rfl, fun _ => by kernel_rfl, first_c _⟩) fun _ => rfl) ?_
  refine .o1 (tk rfl rfl fun _ w hn k => ⟨_, v_not rfl (k.eq1 0 11 rfl), rfl⟩) ?_
  exact .nil
  intro a17 w18 hn19 ha20
  obtain ⟨hs21, hd22, hN27⟩ := aft ha20 hs6 hd7 hN14 hn19
  have h23 := ha20.fx 1 h8
  have h24 := ha20.fx 2 h9
  have h25 := ha20.ge 1 12 rfl
  have hb26 := hb12.new_ hn19
  refine st_nil (hK16 _ _ ?_)
  refine wp_cond_false h25 ?_
  refine wp_skip ?_
  refine hK15 _ _ ?_
  refine wp_seq_k fun K28 hK28 => ?_
  refine wp_seq_k fun K29 hK29 => ?_
  refine wp_g0 [true, true, true] [] 98
    [ve (vv v Av cv Bv dv),
     ve (.bool (decide ((v.s.length : Int) ≤ 20000) && decide ((v.mag.length : Int) ≤ 40))),
     ve (.bool (!(decide ((v.s.length : Int) ≤ 20000) && decide ((v.mag.length : Int) ≤ 40))))] hs21 (.eq (.eq (.eq (.nil)))) ?_ ?_
  refine .o1 (tk rfl rfl fun _ w hn k => ⟨_, v_load rfl (k.fx 2 h24) (l_agg Try.isAgg29 Try.sizeOf29 (hb26.new_ hn) rfl), rfl⟩) ?_
  refine .o1 (ck rfl rfl rfl (fun _ w hn k => ⟨#[vv v Av cv Bv dv], args1 (k.eq1 0 13 rfl), fun _ => by kernel_rfl, few_c v _ _ _ _ _ (hmv.new_ (hN27.transNew hn)) (hsv.new_ (hN27.transNew hn))⟩) fun _ => rfl) ?_
  refine .o1 (tk rfl rfl fun _ w hn k => ⟨_, v_not rfl (k.eq1 1 14 rfl), rfl⟩) ?_
  exact .nil
  intro a30 w31 hn32 ha33
  obtain ⟨hs34, hd35, hN40⟩ := aft ha33 hs21 hd22 hN27 hn32
  have h36 := ha33.fx 1 h23
  have h37 := ha33.fx 2 h24
  have h38 := ha33.ge 2 15 rfl
  have hb39 := hb26.new_ hn32
  refine st_nil (hK29 _ _ ?_)
  rcases Bool.eq_false_or_eq_true (decide ((v.s.length : Int) ≤ 20000) && decide ((v.mag.length : Int) ≤ 40)) with ht41 | ht41
  have hv42 : a30.eval (.tmp 15) = .bool false := h38.trans (congrArg Value.bool (by rw [ht41]; rfl))
  refine wp_cond_false hv42 ?_
  refine wp_skip ?_
  refine hK28 _ _ ?_
  refine wp_seq_k fun K43 hK43 => ?_
  have hvv : VOk v := few_ok (v := v) (by first | exact ht41 | simpa using ht41) hlv huv hbv.1 hbv.2.1 hbv.2.2.1 hbv.2.2.2
  refine wp_g0 [true, true, true, true, true, true, true] [] 98
    [ve (vv v Av cv Bv dv),
     ve (.tuple #[iv ((indexV v).1), iv ((indexV v).2)]),
     ve (.tuple #[iv ((indexV v).1), iv ((indexV v).2)]),
     ve (iv ((indexV v).1)),
     ve (iv ((indexV v).2)),
     ve (iv ((indexV v).1)),
     ve (iv ((indexV v).2))] hs34 (.eq (.eq (.eq (.eq (.eq (.eq (.eq (.nil)))))))) ?_ ?_
  refine .o1 (tk rfl rfl fun _ w hn k => ⟨_, v_load rfl (k.fx 2 h37) (l_agg Try.isAgg29 Try.sizeOf29 (hb39.new_ hn) rfl), rfl⟩) ?_
  refine .o1 (ck rfl rfl rfl (fun _ w hn k => ⟨#[vv v Av cv Bv dv], args1 (k.eq1 0 18 rfl), fun _ => by kernel_rfl, cindex_c v _ _ _ _ _ (hmv.new_ (hN40.transNew hn)) (hsv.new_ (hN40.transNew hn)) hvv⟩) fun _ => rfl) ?_
  refine .o1 (tk rfl rfl fun _ w hn k => ⟨_, v_move rfl (k.eq1 1 19 rfl), rfl⟩) ?_
  refine .o1 (tk rfl rfl fun _ w hn k => ⟨_, v_extract rfl (k.eq1 2 17 rfl) rfl, rfl⟩) ?_
  refine .o1 (tk rfl rfl fun _ w hn k => ⟨_, v_extract rfl (k.eq1 2 17 rfl) rfl, rfl⟩) ?_
  refine .o1 (tk rfl rfl fun _ w hn k => ⟨_, v_assign rfl (k.eq1 3 20 rfl), rfl⟩) ?_
  refine .o1 (tk rfl rfl fun _ w hn k => ⟨_, v_assign rfl (k.eq1 4 21 rfl), rfl⟩) ?_
  exact .nil
  intro a44 w45 hn46 ha47
  obtain ⟨hs48, hd49, hN53⟩ := aft ha47 hs34 hd35 hN40 hn46
  have h50 := ha47.fx 1 h36
  have h51 := ha47.ge 5 5 rfl
  have h52 := ha47.ge 6 6 rfl
  refine st_nil (hK43 _ _ ?_)
  refine wp_seq_k fun K54 hK54 => ?_
  refine wp_seq_k fun K55 hK55 => ?_
  have ht56 : (decide (((indexV v).1) < 0)) = false := decide_eq_false (by omega)
  have ht56d := of_decide_eq_false ht56
  have ht57 : (decide (((indexV v).1) ≤ 9007199254740991)) = true := decide_eq_true (by omega)
  have ht57d := of_decide_eq_true ht57
  rcases Bool.eq_false_or_eq_true (decide (((indexV v).2) = 0)) with ht58 | ht58
  have ht58d := of_decide_eq_true ht58
  have ht59 : (decide (((indexV v).2) < 0)) = false := decide_eq_false (by omega)
  have ht59d := of_decide_eq_false ht59
  have ht60 : (decide (((indexV v).2) ≤ 3)) = true := decide_eq_true (by omega)
  have ht60d := of_decide_eq_true ht60
  refine wp_g0 [true, true, true, true, true, true, true, true, true, true, true, true, true, true, true, true, true, true, true, true, true, true] [] 98
    [ve (iv ((indexV v).1)),
     ve (.bool false),
     ve (.bool false),
     ve (iv ((indexV v).1)),
     ve (.bool false),
     ve (.bool false),
     ve (.bool false),
     ve (iv ((indexV v).2)),
     ve (.bool false),
     ve (.bool false),
     ve undef,
     ve undef,
     ve (.bool false),
     ve (.bool false),
     ve (.bool false),
     ve (iv ((indexV v).2)),
     ve (.bool false),
     ve (.bool false),
     ve (.bool false),
     ve (iv ((indexV v).2)),
     ve (.bool false),
     ve (.bool false)] hs48 (.eq (.eq (.eq (.eq (.eq (.eq (.eq (.eq (.eq (.eq (.eq (.eq (.eq (.eq (.eq (.eq (.eq (.eq (.eq (.eq (.eq (.eq (.nil))))))))))))))))))))))) ?_ ?_
  refine .o1 (tk rfl rfl fun _ w hn k => ⟨_, v_move rfl (k.fx 5 h51), rfl⟩) ?_
  refine .o1 (tk rfl rfl fun _ w hn k => ⟨_, v_bin rfl (k.eq1 0 22 rfl) rfl (fun _ => rfl) (r_lssK ht56), rfl⟩) ?_
  refine .o1 (tk rfl rfl fun _ w hn k => ⟨_, v_move rfl (k.eq1 1 23 rfl), rfl⟩) ?_
  refine .o1 (tg rfl rfl rfl (fun _ _ k => k.eq1 2 24 rfl) fun _ w hn k => ⟨_, v_move rfl (k.fx 5 h51), rfl⟩) ?_
  refine .o1 (tg rfl rfl rfl (fun _ _ k => k.eq1 2 24 rfl) fun _ w hn k => ⟨_, v_bin rfl (k.eq1 3 25 rfl) rfl (fun _ => rfl) (r_gtrK ht57), rfl⟩) ?_
  refine .o1 (tk rfl rfl fun _ w hn k => ⟨_, v_pickF rfl (k.eq1 2 24 rfl) (k.eq1 4 26 rfl), rfl⟩) ?_
  refine .o1 (tk rfl rfl fun _ w hn k => ⟨_, v_move rfl (k.eq1 5 27 rfl), rfl⟩) ?_
  refine .o1 (tg rfl rfl rfl (fun _ _ k => k.eq1 6 28 rfl) fun _ w hn k => ⟨_, v_move rfl (k.fx 6 h52), rfl⟩) ?_
  refine .o1 (tg rfl rfl rfl (fun _ _ k => k.eq1 6 28 rfl) fun _ w hn k => ⟨_, v_bin rfl (k.eq1 7 29 rfl) rfl (fun _ => rfl) (r_neq ht58), rfl⟩) ?_
  refine .o1 (tg rfl rfl rfl (fun _ _ k => k.eq1 6 28 rfl) fun _ w hn k => ⟨_, v_move rfl (k.eq1 8 30 rfl), rfl⟩) ?_
  refine .o1 (sk rfl rfl rfl (fun _ _ _ k => k.eq1 9 31 rfl) (fun _ => rfl)) ?_
  refine .o1 (sk rfl rfl rfl (fun _ _ _ k => k.eq1 9 31 rfl) (fun _ => rfl)) ?_
  refine .o1 (tg rfl rfl rfl (fun _ _ k => k.eq1 6 28 rfl) fun _ w hn k => ⟨_, v_pickF rfl (k.eq1 9 31 rfl) rfl, rfl⟩) ?_
  refine .o1 (tk rfl rfl fun _ w hn k => ⟨_, v_pickF rfl (k.eq1 6 28 rfl) (k.eq1 12 34 rfl), rfl⟩) ?_
  refine .o1 (tk rfl rfl fun _ w hn k => ⟨_, v_move rfl (k.eq1 13 35 rfl), rfl⟩) ?_
  refine .o1 (tg rfl rfl rfl (fun _ _ k => k.eq1 14 36 rfl) fun _ w hn k => ⟨_, v_move rfl (k.fx 6 h52), rfl⟩) ?_
  refine .o1 (tg rfl rfl rfl (fun _ _ k => k.eq1 14 36 rfl) fun _ w hn k => ⟨_, v_bin rfl (k.eq1 15 37 rfl) rfl (fun _ => rfl) (r_lssK ht59), rfl⟩) ?_
  refine .o1 (tk rfl rfl fun _ w hn k => ⟨_, v_pickF rfl (k.eq1 14 36 rfl) (k.eq1 16 38 rfl), rfl⟩) ?_
  refine .o1 (tk rfl rfl fun _ w hn k => ⟨_, v_move rfl (k.eq1 17 39 rfl), rfl⟩) ?_
  refine .o1 (tg rfl rfl rfl (fun _ _ k => k.eq1 18 40 rfl) fun _ w hn k => ⟨_, v_move rfl (k.fx 6 h52), rfl⟩) ?_
  refine .o1 (tg rfl rfl rfl (fun _ _ k => k.eq1 18 40 rfl) fun _ w hn k => ⟨_, v_bin rfl (k.eq1 19 41 rfl) rfl (fun _ => rfl) (r_gtrK ht60), rfl⟩) ?_
  refine .o1 (tk rfl rfl fun _ w hn k => ⟨_, v_pickF rfl (k.eq1 18 40 rfl) (k.eq1 20 42 rfl), rfl⟩) ?_
  exact .nil
  intro a61 w62 hn63 ha64
  obtain ⟨hs65, hd66, hN69⟩ := aft ha64 hs48 hd49 hN53 hn63
  have h67 := ha64.fx 1 h50
  have h68 := ha64.ge 21 43 rfl
  refine st_nil (hK55 _ _ ?_)
  refine wp_cond_false h68 ?_
  refine wp_skip ?_
  refine hK54 _ _ ?_
  refine wp_seq_k fun K70 hK70 => ?_
  refine wp_g0 [true, true, true, true, true, true, true, true] [] 98
    [ve (iv n),
     ve (vv (Vl.mk 3 0 n false [] [] 0) none 0 none 0),
     ve (.tuple #[iv ((indexV (Vl.mk 3 0 n false [] [] 0)).1), iv ((indexV (Vl.mk 3 0 n false [] [] 0)).2)]),
     ve (.tuple #[iv ((indexV (Vl.mk 3 0 n false [] [] 0)).1), iv ((indexV (Vl.mk 3 0 n false [] [] 0)).2)]),
     ve (iv ((indexV (Vl.mk 3 0 n false [] [] 0)).1)),
     ve (iv ((indexV (Vl.mk 3 0 n false [] [] 0)).2)),
     ve (iv ((indexV (Vl.mk 3 0 n false [] [] 0)).1)),
     ve (iv ((indexV (Vl.mk 3 0 n false [] [] 0)).2))] hs65 (.eq (.eq (.eq (.eq (.eq (.eq (.eq (.eq (.nil))))))))) ?_ ?_
  refine .o1 (tk rfl rfl fun _ w hn k => ⟨_, v_move rfl (k.fx 1 h67), rfl⟩) ?_
  refine .o1 (ck rfl rfl rfl (fun _ w hn k => ⟨#[iv n], args1 (k.eq1 0 45 rfl), fun _ => by kernel_rfl, lwhole_c n _ ⟩) fun _ => rfl) ?_
  refine .o1 (ck rfl rfl rfl (fun _ w hn k => ⟨#[vv (Vl.mk 3 0 n false [] [] 0) none 0 none 0], args1 (k.eq1 1 46 rfl), fun _ => by kernel_rfl, cindex_c (Vl.mk 3 0 n false [] [] 0) _ _ _ _ _ (SRow.nil _ _) (SRow.nil _ _) (VOk.whole (by omega) (by omega))⟩) fun _ => rfl) ?_
  refine .o1 (tk rfl rfl fun _ w hn k => ⟨_, v_move rfl (k.eq1 2 47 rfl), rfl⟩) ?_
  refine .o1 (tk rfl rfl fun _ w hn k => ⟨_, v_extract rfl (k.eq1 3 44 rfl) rfl, rfl⟩) ?_
  refine .o1 (tk rfl rfl fun _ w hn k => ⟨_, v_extract rfl (k.eq1 3 44 rfl) rfl, rfl⟩) ?_
  refine .o1 (tk rfl rfl fun _ w hn k => ⟨_, v_assign rfl (k.eq1 4 48 rfl), rfl⟩) ?_
  refine .o1 (tk rfl rfl fun _ w hn k => ⟨_, v_assign rfl (k.eq1 5 49 rfl), rfl⟩) ?_
  exact .nil
  intro a71 w72 hn73 ha74
  obtain ⟨hs75, hd76, hN80⟩ := aft ha74 hs65 hd66 hN69 hn73
  have h77 := ha74.fx 1 h67
  have h78 := ha74.ge 6 7 rfl
  have h79 := ha74.ge 7 8 rfl
  refine st_nil (hK70 _ _ ?_)
  refine wp_seq_k fun K81 hK81 => ?_
  refine wp_g0 [true, true, true, true, true, true, true, true, true] [] 98
    [ve (iv n),
     ve (.string (strOfNums (textI n))),
     (fun (v_ : Value) (W : World) => ∃ (A3 : Option Addr) (c4 : Nat), v_ = vv (Vl.mk 5 0 0 false [] (asc (strOfNums (textI n))) 0) none 0 A3 c4 ∧ SRow W .u16 A3 (asc (strOfNums (textI n))) c4),
     ve (.tuple #[iv ((indexV (Vl.mk 5 0 0 false [] (asc (strOfNums (textI n))) 0)).1), iv ((indexV (Vl.mk 5 0 0 false [] (asc (strOfNums (textI n))) 0)).2)]),
     ve (.tuple #[iv ((indexV (Vl.mk 5 0 0 false [] (asc (strOfNums (textI n))) 0)).1), iv ((indexV (Vl.mk 5 0 0 false [] (asc (strOfNums (textI n))) 0)).2)]),
     ve (iv ((indexV (Vl.mk 5 0 0 false [] (asc (strOfNums (textI n))) 0)).1)),
     ve (iv ((indexV (Vl.mk 5 0 0 false [] (asc (strOfNums (textI n))) 0)).2)),
     ve (iv ((indexV (Vl.mk 5 0 0 false [] (asc (strOfNums (textI n))) 0)).1)),
     ve (iv ((indexV (Vl.mk 5 0 0 false [] (asc (strOfNums (textI n))) 0)).2))] hs75 (.eq (.eq (.cons (fun v W W' hn ⟨A3, c4, he, h0⟩ => ⟨A3, c4, he, h0.new_ hn⟩) (.eq (.eq (.eq (.eq (.eq (.eq (.nil)))))))))) ?_ ?_
  refine .o1 (tk rfl rfl fun _ w hn k => ⟨_, v_move rfl (k.fx 1 h77), rfl⟩) ?_
  refine .o1 (ck rfl rfl rfl (fun _ w hn k => ⟨#[iv n], args1 (k.eq1 0 51 rfl), fun _ => by kernel_rfl, dec_any n _ (by omega) (by omega)⟩) fun _ => rfl) ?_
  refine .o1 (tkC rfl (noG rfl) rfl fun _ w hn k => (by
        refine ⟨#[.string (strOfNums (textI n))], _, args1 (k.eq1 1 52 rfl), fun w => by kernel_rfl, lstr_c (strOfNums (textI n)) _ (by first | omega | (show (_ : Nat) ≤ _; decide)), ?_⟩
        rintro e w' ⟨A1, c2, rfl, hmo0, hm⟩
        exact ⟨_, rfl, hm, ⟨A1, c2, rfl, hmo0⟩⟩)) ?_
  refine .o1 (tkC rfl (noG rfl) rfl fun _ w hn k => (by
        obtain ⟨A5, c6, e7, hx8⟩ : (fun (v_ : Value) (W : World) => ∃ (A3 : Option Addr) (c4 : Nat), v_ = vv (Vl.mk 5 0 0 false [] (asc (strOfNums (textI n))) 0) none 0 A3 c4 ∧ SRow W .u16 A3 (asc (strOfNums (textI n))) c4) _ _ := k.dep 2 53 (by kernel_rfl) (by kernel_rfl)
        refine ⟨#[vv (Vl.mk 5 0 0 false [] (asc (strOfNums (textI n))) 0) none 0 A5 c6], _, args1 e7, fun w => by kernel_rfl, cindex_c (Vl.mk 5 0 0 false [] (asc (strOfNums (textI n))) 0) _ _ _ _ _ (SRow.nil _ _) hx8 (VOk.str (strOfNums (textI n)) (by first | omega | decide)), ?_⟩
        rintro e w' ⟨rfl, hm⟩
        exact ⟨_, rfl, hm, rfl⟩)) ?_
  refine .o1 (tk rfl rfl fun _ w hn k => ⟨_, v_move rfl (k.eq1 3 54 rfl), rfl⟩) ?_
  refine .o1 (tk rfl rfl fun _ w hn k => ⟨_, v_extract rfl (k.eq1 4 50 rfl) rfl, rfl⟩) ?_
  refine .o1 (tk rfl rfl fun _ w hn k => ⟨_, v_extract rfl (k.eq1 4 50 rfl) rfl, rfl⟩) ?_
  refine .o1 (tk rfl rfl fun _ w hn k => ⟨_, v_assign rfl (k.eq1 5 55 rfl), rfl⟩) ?_
  refine .o1 (tk rfl rfl fun _ w hn k => ⟨_, v_assign rfl (k.eq1 6 56 rfl), rfl⟩) ?_
  exact .nil
  intro a82 w83 hn84 ha85
  obtain ⟨hs86, hd87, hN93⟩ := aft ha85 hs75 hd76 hN80 hn84
  have h88 := ha85.fx 1 h77
  have h89 := ha85.fx 7 h78
  have h90 := ha85.fx 8 h79
  have h91 := ha85.ge 7 9 rfl
  have h92 := ha85.ge 8 10 rfl
  refine st_nil (hK81 _ _ ?_)
  refine wp_seq_k fun K94 hK94 => ?_
  refine wp_seq_k fun K95 hK95 => ?_
  rcases Bool.eq_false_or_eq_true (decide (n < -9007199254740991)) with ht96 | ht96
  have ht96d := of_decide_eq_true ht96
  refine wp_g0 [true, true, true, true, true, true] [] 98
    [ve (iv n),
     ve (.bool true),
     ve (.bool true),
     ve undef,
     ve undef,
     ve (.bool true)] hs86 (.eq (.eq (.eq (.eq (.eq (.eq (.nil))))))) ?_ ?_
  refine .o1 (tk rfl rfl fun _ w hn k => ⟨_, v_move rfl (k.fx 1 h88), rfl⟩) ?_
  refine .o1 (tk rfl rfl fun _ w hn k => ⟨_, v_bin rfl (k.eq1 0 57 rfl) rfl (fun _ => rfl) (r_lssK ht96), rfl⟩) ?_
  refine .o1 (tk rfl rfl fun _ w hn k => ⟨_, v_move rfl (k.eq1 1 58 rfl), rfl⟩) ?_
  refine .o1 (sk rfl rfl rfl (fun _ _ _ k => k.eq1 2 59 rfl) (fun _ => rfl)) ?_
  refine .o1 (sk rfl rfl rfl (fun _ _ _ k => k.eq1 2 59 rfl) (fun _ => rfl)) ?_
  refine .o1 (tk rfl rfl fun _ w hn k => ⟨_, v_pickT rfl (k.eq1 2 59 rfl) rfl, rfl⟩) ?_
  exact .nil
  intro a97 w98 hn99 ha100
  obtain ⟨hs101, hd102, hN109⟩ := aft ha100 hs86 hd87 hN93 hn99
  have h103 := ha100.fx 1 h88
  have h104 := ha100.fx 7 h89
  have h105 := ha100.fx 8 h90
  have h106 := ha100.fx 9 h91
  have h107 := ha100.fx 10 h92
  have h108 := ha100.ge 5 62 rfl
  refine st_nil (hK95 _ _ ?_)
  refine wp_cond_true h108 ?_
  refine wp_seq_k fun K110 hK110 => ?_
  refine wp_g0 [true, true, true, true, true, true] [] 98
    [ve (.bool true),
     ve (.bool true),
     ve (iv ((indexV (Vl.mk 5 0 0 false [] (asc (strOfNums (textI n))) 0)).2)),
     ve (.bool (decide (((indexV (Vl.mk 5 0 0 false [] (asc (strOfNums (textI n))) 0)).2) = 3))),
     ve (.bool (decide (((indexV (Vl.mk 5 0 0 false [] (asc (strOfNums (textI n))) 0)).2) = 3))),
     ve (.bool (decide (((indexV (Vl.mk 5 0 0 false [] (asc (strOfNums (textI n))) 0)).2) = 3)))] hs101 (.eq (.eq (.eq (.eq (.eq (.eq (.nil))))))) ?_ ?_
  refine .o1 (ck rfl rfl rfl (fun _ w hn k => ⟨#[], rfl, fun _ => by kernel_rfl, first_c _⟩) fun _ => rfl) ?_
  refine .o1 (tk rfl rfl fun _ w hn k => ⟨_, v_move rfl (k.eq1 0 63 rfl), rfl⟩) ?_
  refine .o1 (tg rfl rfl rfl (fun _ _ k => k.eq1 1 64 rfl) fun _ w hn k => ⟨_, v_move rfl (k.fx 10 h107), rfl⟩) ?_
  refine .o1 (tg rfl rfl rfl (fun _ _ k => k.eq1 1 64 rfl) fun _ w hn k => ⟨_, v_bin rfl (k.eq1 2 65 rfl) rfl (fun _ => rfl) (r_eql rfl), rfl⟩) ?_
  refine .o1 (tk rfl rfl fun _ w hn k => ⟨_, v_pickT rfl (k.eq1 1 64 rfl) (k.eq1 3 66 rfl), rfl⟩) ?_
  refine .o1 (tk rfl rfl fun _ w hn k => ⟨_, v_assign rfl (k.eq1 4 67 rfl), rfl⟩) ?_
  exact .nil
  intro a111 w112 hn113 ha114
  obtain ⟨hs115, hd116, hN118⟩ := aft ha114 hs101 hd102 hN109 hn113
  have h117 := ha114.ge 5 4 rfl
  refine st_nil (hK110 _ _ ?_)
  refine wp_ret (ret_k hd116 (v := .bool (decide (((indexV (Vl.mk 5 0 0 false [] (asc (strOfNums (textI n))) 0)).2) = 3))) (res_t rfl h117 _) ?_)
  exact ⟨congrArg (fun b => Ending.returned (.bool b)) (decide_eq_true (by omega)), hN118⟩
  have ht96d := of_decide_eq_false ht96
  rcases Bool.eq_false_or_eq_true (decide (n ≤ 9007199254740991)) with ht119 | ht119
  have ht119d := of_decide_eq_true ht119
  refine wp_g0 [true, true, true, true, true, true] [] 98
    [ve (iv n),
     ve (.bool false),
     ve (.bool false),
     ve (iv n),
     ve (.bool false),
     ve (.bool false)] hs86 (.eq (.eq (.eq (.eq (.eq (.eq (.nil))))))) ?_ ?_
  refine .o1 (tk rfl rfl fun _ w hn k => ⟨_, v_move rfl (k.fx 1 h88), rfl⟩) ?_
  refine .o1 (tk rfl rfl fun _ w hn k => ⟨_, v_bin rfl (k.eq1 0 57 rfl) rfl (fun _ => rfl) (r_lssK ht96), rfl⟩) ?_
  refine .o1 (tk rfl rfl fun _ w hn k => ⟨_, v_move rfl (k.eq1 1 58 rfl), rfl⟩) ?_
  refine .o1 (tg rfl rfl rfl (fun _ _ k => k.eq1 2 59 rfl) fun _ w hn k => ⟨_, v_move rfl (k.fx 1 h88), rfl⟩) ?_
  refine .o1 (tg rfl rfl rfl (fun _ _ k => k.eq1 2 59 rfl) fun _ w hn k => ⟨_, v_bin rfl (k.eq1 3 60 rfl) rfl (fun _ => rfl) (r_gtrK ht119), rfl⟩) ?_
  refine .o1 (tk rfl rfl fun _ w hn k => ⟨_, v_pickF rfl (k.eq1 2 59 rfl) (k.eq1 4 61 rfl), rfl⟩) ?_
  exact .nil
  intro a120 w121 hn122 ha123
  obtain ⟨hs124, hd125, hN132⟩ := aft ha123 hs86 hd87 hN93 hn122
  have h126 := ha123.fx 1 h88
  have h127 := ha123.fx 7 h89
  have h128 := ha123.fx 8 h90
  have h129 := ha123.fx 9 h91
  have h130 := ha123.fx 10 h92
  have h131 := ha123.ge 5 62 rfl
  refine st_nil (hK95 _ _ ?_)
  refine wp_cond_false h131 ?_
  refine wp_skip ?_
  refine hK94 _ _ ?_
  refine wp_seq_k fun K133 hK133 => ?_
  refine wp_seq_k fun K134 hK134 => ?_
  refine wp_g0 [true, true] [] 98
    [ve (iv n),
     ve (.bool (decide (n < 0)))] hs124 (.eq (.eq (.nil))) ?_ ?_
  refine .o1 (tk rfl rfl fun _ w hn k => ⟨_, v_move rfl (k.fx 1 h126), rfl⟩) ?_
  refine .o1 (tk rfl rfl fun _ w hn k => ⟨_, v_bin rfl (k.eq1 0 68 rfl) rfl (fun _ => rfl) (r_lssK rfl), rfl⟩) ?_
  exact .nil
  intro a135 w136 hn137 ha138
  obtain ⟨hs139, hd140, hN147⟩ := aft ha138 hs124 hd125 hN132 hn137
  have h141 := ha138.fx 1 h126
  have h142 := ha138.fx 7 h127
  have h143 := ha138.fx 8 h128
  have h144 := ha138.fx 9 h129
  have h145 := ha138.fx 10 h130
  have h146 := ha138.ge 1 69 rfl
  refine st_nil (hK134 _ _ ?_)
  rcases Bool.eq_false_or_eq_true (decide (n < 0)) with ht148 | ht148
  have ht148d := of_decide_eq_true ht148
  have hv149 := hB h146 ht148
  refine wp_cond_true hv149 ?_
  refine wp_seq_k fun K150 hK150 => ?_
  have ht151 : (decide (((indexV (Vl.mk 3 0 n false [] [] 0)).2) = 2)) = true := decide_eq_true (by omega)
  have ht151d := of_decide_eq_true ht151
  refine wp_g0 [true, true, true, true, true, true, true, true, true, true] [] 98
    [ve (.bool true),
     ve (.bool true),
     ve (iv ((indexV (Vl.mk 3 0 n false [] [] 0)).2)),
     ve (.bool true),
     ve (.bool true),
     ve (.bool true),
     ve (iv ((indexV (Vl.mk 5 0 0 false [] (asc (strOfNums (textI n))) 0)).2)),
     ve (.bool (decide (((indexV (Vl.mk 5 0 0 false [] (asc (strOfNums (textI n))) 0)).2) = 2))),
     ve (.bool (decide (((indexV (Vl.mk 5 0 0 false [] (asc (strOfNums (textI n))) 0)).2) = 2))),
     ve (.bool (decide (((indexV (Vl.mk 5 0 0 false [] (asc (strOfNums (textI n))) 0)).2) = 2)))] hs139 (.eq (.eq (.eq (.eq (.eq (.eq (.eq (.eq (.eq (.eq (.nil))))))))))) ?_ ?_
  refine .o1 (ck rfl rfl rfl (fun _ w hn k => ⟨#[], rfl, fun _ => by kernel_rfl, first_c _⟩) fun _ => rfl) ?_
  refine .o1 (tk rfl rfl fun _ w hn k => ⟨_, v_move rfl (k.eq1 0 70 rfl), rfl⟩) ?_
  refine .o1 (tg rfl rfl rfl (fun _ _ k => k.eq1 1 71 rfl) fun _ w hn k => ⟨_, v_move rfl (k.fx 8 h143), rfl⟩) ?_
  refine .o1 (tg rfl rfl rfl (fun _ _ k => k.eq1 1 71 rfl) fun _ w hn k => ⟨_, v_bin rfl (k.eq1 2 72 rfl) rfl (fun _ => rfl) (r_eql ht151), rfl⟩) ?_
  refine .o1 (tk rfl rfl fun _ w hn k => ⟨_, v_pickT rfl (k.eq1 1 71 rfl) (k.eq1 3 73 rfl), rfl⟩) ?_
  refine .o1 (tk rfl rfl fun _ w hn k => ⟨_, v_move rfl (k.eq1 4 74 rfl), rfl⟩) ?_
  refine .o1 (tg rfl rfl rfl (fun _ _ k => k.eq1 5 75 rfl) fun _ w hn k => ⟨_, v_move rfl (k.fx 10 h145), rfl⟩) ?_
  refine .o1 (tg rfl rfl rfl (fun _ _ k => k.eq1 5 75 rfl) fun _ w hn k => ⟨_, v_bin rfl (k.eq1 6 76 rfl) rfl (fun _ => rfl) (r_eql rfl), rfl⟩) ?_
  refine .o1 (tk rfl rfl fun _ w hn k => ⟨_, v_pickT rfl (k.eq1 5 75 rfl) (k.eq1 7 77 rfl), rfl⟩) ?_
  refine .o1 (tk rfl rfl fun _ w hn k => ⟨_, v_assign rfl (k.eq1 8 78 rfl), rfl⟩) ?_
  exact .nil
  intro a152 w153 hn154 ha155
  obtain ⟨hs156, hd157, hN159⟩ := aft ha155 hs139 hd140 hN147 hn154
  have h158 := ha155.ge 9 4 rfl
  refine st_nil (hK150 _ _ ?_)
  refine wp_ret (ret_k hd157 (v := .bool (decide (((indexV (Vl.mk 5 0 0 false [] (asc (strOfNums (textI n))) 0)).2) = 2))) (res_t rfl h158 _) ?_)
  exact ⟨congrArg (fun b => Ending.returned (.bool b)) (decide_eq_true (by omega)), hN159⟩
  have ht148d := of_decide_eq_false ht148
  have hv160 := hB h146 ht148
  refine wp_cond_false hv160 ?_
  refine wp_skip ?_
  refine hK133 _ _ ?_
  refine wp_seq_k fun K161 hK161 => ?_
  have ht162 : (decide (((indexV (Vl.mk 3 0 n false [] [] 0)).2) = 0)) = true := decide_eq_true (by omega)
  have ht162d := of_decide_eq_true ht162
  have ht163 : (decide (((indexV (Vl.mk 5 0 0 false [] (asc (strOfNums (textI n))) 0)).2) = 0)) = true := decide_eq_true (by omega)
  have ht163d := of_decide_eq_true ht163
  have ht164 : (decide (((indexV (Vl.mk 3 0 n false [] [] 0)).1) = n)) = true := decide_eq_true (by omega)
  have ht164d := of_decide_eq_true ht164
  refine wp_g0 [true, true, true, true, true, true, true, true, true, true, true, true, true, true, true, true, true, true, true, true] [] 98
    [ve (.bool true),
     ve (.bool true),
     ve (iv ((indexV (Vl.mk 3 0 n false [] [] 0)).2)),
     ve (.bool true),
     ve (.bool true),
     ve (.bool true),
     ve (iv ((indexV (Vl.mk 5 0 0 false [] (asc (strOfNums (textI n))) 0)).2)),
     ve (.bool true),
     ve (.bool true),
     ve (.bool true),
     ve (iv ((indexV (Vl.mk 3 0 n false [] [] 0)).1)),
     ve (iv n),
     ve (.bool true),
     ve (.bool true),
     ve (.bool true),
     ve (iv ((indexV (Vl.mk 5 0 0 false [] (asc (strOfNums (textI n))) 0)).1)),
     ve (iv n),
     ve (.bool (decide (((indexV (Vl.mk 5 0 0 false [] (asc (strOfNums (textI n))) 0)).1) = n))),
     ve (.bool (decide (((indexV (Vl.mk 5 0 0 false [] (asc (strOfNums (textI n))) 0)).1) = n))),
     ve (.bool (decide (((indexV (Vl.mk 5 0 0 false [] (asc (strOfNums (textI n))) 0)).1) = n)))] hs139 (.eq (.eq (.eq (.eq (.eq (.eq (.eq (.eq (.eq (.eq (.eq (.eq (.eq (.eq (.eq (.eq (.eq (.eq (.eq (.eq (.nil))))))))))))))))))))) ?_ ?_
  refine .o1 (ck rfl rfl rfl (fun _ w hn k => ⟨#[], rfl, fun _ => by kernel_rfl, first_c _⟩) fun _ => rfl) ?_
  refine .o1 (tk rfl rfl fun _ w hn k => ⟨_, v_move rfl (k.eq1 0 79 rfl), rfl⟩) ?_
  refine .o1 (tg rfl rfl rfl (fun _ _ k => k.eq1 1 80 rfl) fun _ w hn k => ⟨_, v_move rfl (k.fx 8 h143), rfl⟩) ?_
  refine .o1 (tg rfl rfl rfl (fun _ _ k => k.eq1 1 80 rfl) fun _ w hn k => ⟨_, v_bin rfl (k.eq1 2 81 rfl) rfl (fun _ => rfl) (r_eql ht162), rfl⟩) ?_
  refine .o1 (tk rfl rfl fun _ w hn k => ⟨_, v_pickT rfl (k.eq1 1 80 rfl) (k.eq1 3 82 rfl), rfl⟩) ?_
  refine .o1 (tk rfl rfl fun _ w hn k => ⟨_, v_move rfl (k.eq1 4 83 rfl), rfl⟩) ?_
  refine .o1 (tg rfl rfl rfl (fun _ _ k => k.eq1 5 84 rfl) fun _ w hn k => ⟨_, v_move rfl (k.fx 10 h145), rfl⟩) ?_
  refine .o1 (tg rfl rfl rfl (fun _ _ k => k.eq1 5 84 rfl) fun _ w hn k => ⟨_, v_bin rfl (k.eq1 6 85 rfl) rfl (fun _ => rfl) (r_eql ht163), rfl⟩) ?_
  refine .o1 (tk rfl rfl fun _ w hn k => ⟨_, v_pickT rfl (k.eq1 5 84 rfl) (k.eq1 7 86 rfl), rfl⟩) ?_
  refine .o1 (tk rfl rfl fun _ w hn k => ⟨_, v_move rfl (k.eq1 8 87 rfl), rfl⟩) ?_
  refine .o1 (tg rfl rfl rfl (fun _ _ k => k.eq1 9 88 rfl) fun _ w hn k => ⟨_, v_move rfl (k.fx 7 h142), rfl⟩) ?_
  refine .o1 (tg rfl rfl rfl (fun _ _ k => k.eq1 9 88 rfl) fun _ w hn k => ⟨_, v_move rfl (k.fx 1 h141), rfl⟩) ?_
  refine .o1 (tg rfl rfl rfl (fun _ _ k => k.eq1 9 88 rfl) fun _ w hn k => ⟨_, v_bin rfl (k.eq1 10 89 rfl) (k.eq1 11 90 rfl) (fun _ => rfl) (r_eql ht164), rfl⟩) ?_
  refine .o1 (tk rfl rfl fun _ w hn k => ⟨_, v_pickT rfl (k.eq1 9 88 rfl) (k.eq1 12 91 rfl), rfl⟩) ?_
  refine .o1 (tk rfl rfl fun _ w hn k => ⟨_, v_move rfl (k.eq1 13 92 rfl), rfl⟩) ?_
  refine .o1 (tg rfl rfl rfl (fun _ _ k => k.eq1 14 93 rfl) fun _ w hn k => ⟨_, v_move rfl (k.fx 9 h144), rfl⟩) ?_
  refine .o1 (tg rfl rfl rfl (fun _ _ k => k.eq1 14 93 rfl) fun _ w hn k => ⟨_, v_move rfl (k.fx 1 h141), rfl⟩) ?_
  refine .o1 (tg rfl rfl rfl (fun _ _ k => k.eq1 14 93 rfl) fun _ w hn k => ⟨_, v_bin rfl (k.eq1 15 94 rfl) (k.eq1 16 95 rfl) (fun _ => rfl) (r_eql rfl), rfl⟩) ?_
  refine .o1 (tk rfl rfl fun _ w hn k => ⟨_, v_pickT rfl (k.eq1 14 93 rfl) (k.eq1 17 96 rfl), rfl⟩) ?_
  refine .o1 (tk rfl rfl fun _ w hn k => ⟨_, v_assign rfl (k.eq1 18 97 rfl), rfl⟩) ?_
  exact .nil
  intro a165 w166 hn167 ha168
  obtain ⟨hs169, hd170, hN172⟩ := aft ha168 hs139 hd140 hN147 hn167
  have h171 := ha168.ge 19 4 rfl
  refine st_nil (hK161 _ _ ?_)
  refine wp_ret (ret_k hd170 (v := .bool (decide (((indexV (Vl.mk 5 0 0 false [] (asc (strOfNums (textI n))) 0)).1) = n))) (res_t rfl h171 _) ?_)
  exact ⟨congrArg (fun b => Ending.returned (.bool b)) (decide_eq_true (by omega)), hN172⟩
  have ht119d := of_decide_eq_false ht119
  refine wp_g0 [true, true, true, true, true, true] [] 98
    [ve (iv n),
     ve (.bool false),
     ve (.bool false),
     ve (iv n),
     ve (.bool true),
     ve (.bool true)] hs86 (.eq (.eq (.eq (.eq (.eq (.eq (.nil))))))) ?_ ?_
  refine .o1 (tk rfl rfl fun _ w hn k => ⟨_, v_move rfl (k.fx 1 h88), rfl⟩) ?_
  refine .o1 (tk rfl rfl fun _ w hn k => ⟨_, v_bin rfl (k.eq1 0 57 rfl) rfl (fun _ => rfl) (r_lssK ht96), rfl⟩) ?_
  refine .o1 (tk rfl rfl fun _ w hn k => ⟨_, v_move rfl (k.eq1 1 58 rfl), rfl⟩) ?_
  refine .o1 (tg rfl rfl rfl (fun _ _ k => k.eq1 2 59 rfl) fun _ w hn k => ⟨_, v_move rfl (k.fx 1 h88), rfl⟩) ?_
  refine .o1 (tg rfl rfl rfl (fun _ _ k => k.eq1 2 59 rfl) fun _ w hn k => ⟨_, v_bin rfl (k.eq1 3 60 rfl) rfl (fun _ => rfl) (r_gtrK ht119), rfl⟩) ?_
  refine .o1 (tk rfl rfl fun _ w hn k => ⟨_, v_pickF rfl (k.eq1 2 59 rfl) (k.eq1 4 61 rfl), rfl⟩) ?_
  exact .nil
  intro a173 w174 hn175 ha176
  obtain ⟨hs177, hd178, hN185⟩ := aft ha176 hs86 hd87 hN93 hn175
  have h179 := ha176.fx 1 h88
  have h180 := ha176.fx 7 h89
  have h181 := ha176.fx 8 h90
  have h182 := ha176.fx 9 h91
  have h183 := ha176.fx 10 h92
  have h184 := ha176.ge 5 62 rfl
  refine st_nil (hK95 _ _ ?_)
  refine wp_cond_true h184 ?_
  refine wp_seq_k fun K186 hK186 => ?_
  refine wp_g0 [true, true, true, true, true, true] [] 98
    [ve (.bool true),
     ve (.bool true),
     ve (iv ((indexV (Vl.mk 5 0 0 false [] (asc (strOfNums (textI n))) 0)).2)),
     ve (.bool (decide (((indexV (Vl.mk 5 0 0 false [] (asc (strOfNums (textI n))) 0)).2) = 3))),
     ve (.bool (decide (((indexV (Vl.mk 5 0 0 false [] (asc (strOfNums (textI n))) 0)).2) = 3))),
     ve (.bool (decide (((indexV (Vl.mk 5 0 0 false [] (asc (strOfNums (textI n))) 0)).2) = 3)))] hs177 (.eq (.eq (.eq (.eq (.eq (.eq (.nil))))))) ?_ ?_
  refine .o1 (ck rfl rfl rfl (fun _ w hn k => ⟨#[], rfl, fun _ => by kernel_rfl, first_c _⟩) fun _ => rfl) ?_
  refine .o1 (tk rfl rfl fun _ w hn k => ⟨_, v_move rfl (k.eq1 0 63 rfl), rfl⟩) ?_
  refine .o1 (tg rfl rfl rfl (fun _ _ k => k.eq1 1 64 rfl) fun _ w hn k => ⟨_, v_move rfl (k.fx 10 h183), rfl⟩) ?_
  refine .o1 (tg rfl rfl rfl (fun _ _ k => k.eq1 1 64 rfl) fun _ w hn k => ⟨_, v_bin rfl (k.eq1 2 65 rfl) rfl (fun _ => rfl) (r_eql rfl), rfl⟩) ?_
  refine .o1 (tk rfl rfl fun _ w hn k => ⟨_, v_pickT rfl (k.eq1 1 64 rfl) (k.eq1 3 66 rfl), rfl⟩) ?_
  refine .o1 (tk rfl rfl fun _ w hn k => ⟨_, v_assign rfl (k.eq1 4 67 rfl), rfl⟩) ?_
  exact .nil
  intro a187 w188 hn189 ha190
  obtain ⟨hs191, hd192, hN194⟩ := aft ha190 hs177 hd178 hN185 hn189
  have h193 := ha190.ge 5 4 rfl
  refine st_nil (hK186 _ _ ?_)
  refine wp_ret (ret_k hd192 (v := .bool (decide (((indexV (Vl.mk 5 0 0 false [] (asc (strOfNums (textI n))) 0)).2) = 3))) (res_t rfl h193 _) ?_)
  exact ⟨congrArg (fun b => Ending.returned (.bool b)) (decide_eq_true (by omega)), hN194⟩
  have ht58d := of_decide_eq_false ht58
  have ht195 : (decide (((indexV v).1) = 0)) = true := decide_eq_true (by omega)
  have ht195d := of_decide_eq_true ht195
  have ht196 : (decide (((indexV v).2) < 0)) = false := decide_eq_false (by omega)
  have ht196d := of_decide_eq_false ht196
  have ht197 : (decide (((indexV v).2) ≤ 3)) = true := decide_eq_true (by omega)
  have ht197d := of_decide_eq_true ht197
  refine wp_g0 [true, true, true, true, true, true, true, true, true, true, true, true, true, true, true, true, true, true, true, true, true, true] [] 98
    [ve (iv ((indexV v).1)),
     ve (.bool false),
     ve (.bool false),
     ve (iv ((indexV v).1)),
     ve (.bool false),
     ve (.bool false),
     ve (.bool false),
     ve (iv ((indexV v).2)),
     ve (.bool true),
     ve (.bool true),
     ve (iv ((indexV v).1)),
     ve (.bool false),
     ve (.bool false),
     ve (.bool false),
     ve (.bool false),
     ve (iv ((indexV v).2)),
     ve (.bool false),
     ve (.bool false),
     ve (.bool false),
     ve (iv ((indexV v).2)),
     ve (.bool false),
     ve (.bool false)] hs48 (.eq (.eq (.eq (.eq (.eq (.eq (.eq (.eq (.eq (.eq (.eq (.eq (.eq (.eq (.eq (.eq (.eq (.eq (.eq (.eq (.eq (.eq (.nil))))))))))))))))))))))) ?_ ?_
  refine .o1 (tk rfl rfl fun _ w hn k => ⟨_, v_move rfl (k.fx 5 h51), rfl⟩) ?_
  refine .o1 (tk rfl rfl fun _ w hn k => ⟨_, v_bin rfl (k.eq1 0 22 rfl) rfl (fun _ => rfl) (r_lssK ht56), rfl⟩) ?_
  refine .o1 (tk rfl rfl fun _ w hn k => ⟨_, v_move rfl (k.eq1 1 23 rfl), rfl⟩) ?_
  refine .o1 (tg rfl rfl rfl (fun _ _ k => k.eq1 2 24 rfl) fun _ w hn k => ⟨_, v_move rfl (k.fx 5 h51), rfl⟩) ?_
  refine .o1 (tg rfl rfl rfl (fun _ _ k => k.eq1 2 24 rfl) fun _ w hn k => ⟨_, v_bin rfl (k.eq1 3 25 rfl) rfl (fun _ => rfl) (r_gtrK ht57), rfl⟩) ?_
  refine .o1 (tk rfl rfl fun _ w hn k => ⟨_, v_pickF rfl (k.eq1 2 24 rfl) (k.eq1 4 26 rfl), rfl⟩) ?_
  refine .o1 (tk rfl rfl fun _ w hn k => ⟨_, v_move rfl (k.eq1 5 27 rfl), rfl⟩) ?_
  refine .o1 (tg rfl rfl rfl (fun _ _ k => k.eq1 6 28 rfl) fun _ w hn k => ⟨_, v_move rfl (k.fx 6 h52), rfl⟩) ?_
  refine .o1 (tg rfl rfl rfl (fun _ _ k => k.eq1 6 28 rfl) fun _ w hn k => ⟨_, v_bin rfl (k.eq1 7 29 rfl) rfl (fun _ => rfl) (r_neq ht58), rfl⟩) ?_
  refine .o1 (tg rfl rfl rfl (fun _ _ k => k.eq1 6 28 rfl) fun _ w hn k => ⟨_, v_move rfl (k.eq1 8 30 rfl), rfl⟩) ?_
  refine .o1 (tg rfl rfl rfl (fun _ _ k => k.eq1 9 31 rfl) fun _ w hn k => ⟨_, v_move rfl (k.fx 5 h51), rfl⟩) ?_
  refine .o1 (tg rfl rfl rfl (fun _ _ k => k.eq1 9 31 rfl) fun _ w hn k => ⟨_, v_bin rfl (k.eq1 10 32 rfl) rfl (fun _ => rfl) (r_neq ht195), rfl⟩) ?_
  refine .o1 (tg rfl rfl rfl (fun _ _ k => k.eq1 6 28 rfl) fun _ w hn k => ⟨_, v_pickT rfl (k.eq1 9 31 rfl) (k.eq1 11 33 rfl), rfl⟩) ?_
  refine .o1 (tk rfl rfl fun _ w hn k => ⟨_, v_pickF rfl (k.eq1 6 28 rfl) (k.eq1 12 34 rfl), rfl⟩) ?_
  refine .o1 (tk rfl rfl fun _ w hn k => ⟨_, v_move rfl (k.eq1 13 35 rfl), rfl⟩) ?_
  refine .o1 (tg rfl rfl rfl (fun _ _ k => k.eq1 14 36 rfl) fun _ w hn k => ⟨_, v_move rfl (k.fx 6 h52), rfl⟩) ?_
  refine .o1 (tg rfl rfl rfl (fun _ _ k => k.eq1 14 36 rfl) fun _ w hn k => ⟨_, v_bin rfl (k.eq1 15 37 rfl) rfl (fun _ => rfl) (r_lssK ht196), rfl⟩) ?_
  refine .o1 (tk rfl rfl fun _ w hn k => ⟨_, v_pickF rfl (k.eq1 14 36 rfl) (k.eq1 16 38 rfl), rfl⟩) ?_
  refine .o1 (tk rfl rfl fun _ w hn k => ⟨_, v_move rfl (k.eq1 17 39 rfl), rfl⟩) ?_
  refine .o1 (tg rfl rfl rfl (fun _ _ k => k.eq1 18 40 rfl) fun _ w hn k => ⟨_, v_move rfl (k.fx 6 h52), rfl⟩) ?_
  refine .o1 (tg rfl rfl rfl (fun _ _ k => k.eq1 18 40 rfl) fun _ w hn k => ⟨_, v_bin rfl (k.eq1 19 41 rfl) rfl (fun _ => rfl) (r_gtrK ht197), rfl⟩) ?_
  refine .o1 (tk rfl rfl fun _ w hn k => ⟨_, v_pickF rfl (k.eq1 18 40 rfl) (k.eq1 20 42 rfl), rfl⟩) ?_
  exact .nil
  intro a198 w199 hn200 ha201
  obtain ⟨hs202, hd203, hN206⟩ := aft ha201 hs48 hd49 hN53 hn200
  have h204 := ha201.fx 1 h50
  have h205 := ha201.ge 21 43 rfl
  refine st_nil (hK55 _ _ ?_)
  refine wp_cond_false h205 ?_
  refine wp_skip ?_
  refine hK54 _ _ ?_
  refine wp_seq_k fun K207 hK207 => ?_
  refine wp_g0 [true, true, true, true, true, true, true, true] [] 98
    [ve (iv n),
     ve (vv (Vl.mk 3 0 n false [] [] 0) none 0 none 0),
     ve (.tuple #[iv ((indexV (Vl.mk 3 0 n false [] [] 0)).1), iv ((indexV (Vl.mk 3 0 n false [] [] 0)).2)]),
     ve (.tuple #[iv ((indexV (Vl.mk 3 0 n false [] [] 0)).1), iv ((indexV (Vl.mk 3 0 n false [] [] 0)).2)]),
     ve (iv ((indexV (Vl.mk 3 0 n false [] [] 0)).1)),
     ve (iv ((indexV (Vl.mk 3 0 n false [] [] 0)).2)),
     ve (iv ((indexV (Vl.mk 3 0 n false [] [] 0)).1)),
     ve (iv ((indexV (Vl.mk 3 0 n false [] [] 0)).2))] hs202 (.eq (.eq (.eq (.eq (.eq (.eq (.eq (.eq (.nil))))))))) ?_ ?_
  refine .o1 (tk rfl rfl fun _ w hn k => ⟨_, v_move rfl (k.fx 1 h204), rfl⟩) ?_
  refine .o1 (ck rfl rfl rfl (fun _ w hn k => ⟨#[iv n], args1 (k.eq1 0 45 rfl), fun _ => by kernel_rfl, lwhole_c n _ ⟩) fun _ => rfl) ?_
  refine .o1 (ck rfl rfl rfl (fun _ w hn k => ⟨#[vv (Vl.mk 3 0 n false [] [] 0) none 0 none 0], args1 (k.eq1 1 46 rfl), fun _ => by kernel_rfl, cindex_c (Vl.mk 3 0 n false [] [] 0) _ _ _ _ _ (SRow.nil _ _) (SRow.nil _ _) (VOk.whole (by omega) (by omega))⟩) fun _ => rfl) ?_
  refine .o1 (tk rfl rfl fun _ w hn k => ⟨_, v_move rfl (k.eq1 2 47 rfl), rfl⟩) ?_
  refine .o1 (tk rfl rfl fun _ w hn k => ⟨_, v_extract rfl (k.eq1 3 44 rfl) rfl, rfl⟩) ?_
  refine .o1 (tk rfl rfl fun _ w hn k => ⟨_, v_extract rfl (k.eq1 3 44 rfl) rfl, rfl⟩) ?_
  refine .o1 (tk rfl rfl fun _ w hn k => ⟨_, v_assign rfl (k.eq1 4 48 rfl), rfl⟩) ?_
  refine .o1 (tk rfl rfl fun _ w hn k => ⟨_, v_assign rfl (k.eq1 5 49 rfl), rfl⟩) ?_
  exact .nil
  intro a208 w209 hn210 ha211
  obtain ⟨hs212, hd213, hN217⟩ := aft ha211 hs202 hd203 hN206 hn210
  have h214 := ha211.fx 1 h204
  have h215 := ha211.ge 6 7 rfl
  have h216 := ha211.ge 7 8 rfl
  refine st_nil (hK207 _ _ ?_)
  refine wp_seq_k fun K218 hK218 => ?_
  refine wp_g0 [true, true, true, true, true, true, true, true, true] [] 98
    [ve (iv n),
     ve (.string (strOfNums (textI n))),
     (fun (v_ : Value) (W : World) => ∃ (A11 : Option Addr) (c12 : Nat), v_ = vv (Vl.mk 5 0 0 false [] (asc (strOfNums (textI n))) 0) none 0 A11 c12 ∧ SRow W .u16 A11 (asc (strOfNums (textI n))) c12),
     ve (.tuple #[iv ((indexV (Vl.mk 5 0 0 false [] (asc (strOfNums (textI n))) 0)).1), iv ((indexV (Vl.mk 5 0 0 false [] (asc (strOfNums (textI n))) 0)).2)]),
     ve (.tuple #[iv ((indexV (Vl.mk 5 0 0 false [] (asc (strOfNums (textI n))) 0)).1), iv ((indexV (Vl.mk 5 0 0 false [] (asc (strOfNums (textI n))) 0)).2)]),
     ve (iv ((indexV (Vl.mk 5 0 0 false [] (asc (strOfNums (textI n))) 0)).1)),
     ve (iv ((indexV (Vl.mk 5 0 0 false [] (asc (strOfNums (textI n))) 0)).2)),
     ve (iv ((indexV (Vl.mk 5 0 0 false [] (asc (strOfNums (textI n))) 0)).1)),
     ve (iv ((indexV (Vl.mk 5 0 0 false [] (asc (strOfNums (textI n))) 0)).2))] hs212 (.eq (.eq (.cons (fun v W W' hn ⟨A11, c12, he, h0⟩ => ⟨A11, c12, he, h0.new_ hn⟩) (.eq (.eq (.eq (.eq (.eq (.eq (.nil)))))))))) ?_ ?_
  refine .o1 (tk rfl rfl fun _ w hn k => ⟨_, v_move rfl (k.fx 1 h214), rfl⟩) ?_
  refine .o1 (ck rfl rfl rfl (fun _ w hn k => ⟨#[iv n], args1 (k.eq1 0 51 rfl), fun _ => by kernel_rfl, dec_any n _ (by omega) (by omega)⟩) fun _ => rfl) ?_
  refine .o1 (tkC rfl (noG rfl) rfl fun _ w hn k => (by
        refine ⟨#[.string (strOfNums (textI n))], _, args1 (k.eq1 1 52 rfl), fun w => by kernel_rfl, lstr_c (strOfNums (textI n)) _ (by first | omega | (show (_ : Nat) ≤ _; decide)), ?_⟩
        rintro e w' ⟨A9, c10, rfl, hmo0, hm⟩
        exact ⟨_, rfl, hm, ⟨A9, c10, rfl, hmo0⟩⟩)) ?_
  refine .o1 (tkC rfl (noG rfl) rfl fun _ w hn k => (by
        obtain ⟨A13, c14, e15, hx16⟩ : (fun (v_ : Value) (W : World) => ∃ (A11 : Option Addr) (c12 : Nat), v_ = vv (Vl.mk 5 0 0 false [] (asc (strOfNums (textI n))) 0) none 0 A11 c12 ∧ SRow W .u16 A11 (asc (strOfNums (textI n))) c12) _ _ := k.dep 2 53 (by kernel_rfl) (by kernel_rfl)
        refine ⟨#[vv (Vl.mk 5 0 0 false [] (asc (strOfNums (textI n))) 0) none 0 A13 c14], _, args1 e15, fun w => by kernel_rfl, cindex_c (Vl.mk 5 0 0 false [] (asc (strOfNums (textI n))) 0) _ _ _ _ _ (SRow.nil _ _) hx16 (VOk.str (strOfNums (textI n)) (by first | omega | decide)), ?_⟩
        rintro e w' ⟨rfl, hm⟩
        exact ⟨_, rfl, hm, rfl⟩)) ?_
  refine .o1 (tk rfl rfl fun _ w hn k => ⟨_, v_move rfl (k.eq1 3 54 rfl), rfl⟩) ?_
  refine .o1 (tk rfl rfl fun _ w hn k => ⟨_, v_extract rfl (k.eq1 4 50 rfl) rfl, rfl⟩) ?_
  refine .o1 (tk rfl rfl fun _ w hn k => ⟨_, v_extract rfl (k.eq1 4 50 rfl) rfl, rfl⟩) ?_
  refine .o1 (tk rfl rfl fun _ w hn k => ⟨_, v_assign rfl (k.eq1 5 55 rfl), rfl⟩) ?_
  refine .o1 (tk rfl rfl fun _ w hn k => ⟨_, v_assign rfl (k.eq1 6 56 rfl), rfl⟩) ?_
  exact .nil
  intro a219 w220 hn221 ha222
  obtain ⟨hs223, hd224, hN230⟩ := aft ha222 hs212 hd213 hN217 hn221
  have h225 := ha222.fx 1 h214
  have h226 := ha222.fx 7 h215
  have h227 := ha222.fx 8 h216
  have h228 := ha222.ge 7 9 rfl
  have h229 := ha222.ge 8 10 rfl
  refine st_nil (hK218 _ _ ?_)
  refine wp_seq_k fun K231 hK231 => ?_
  refine wp_seq_k fun K232 hK232 => ?_
  rcases Bool.eq_false_or_eq_true (decide (n < -9007199254740991)) with ht233 | ht233
  have ht233d := of_decide_eq_true ht233
  refine wp_g0 [true, true, true, true, true, true] [] 98
    [ve (iv n),
     ve (.bool true),
     ve (.bool true),
     ve undef,
     ve undef,
     ve (.bool true)] hs223 (.eq (.eq (.eq (.eq (.eq (.eq (.nil))))))) ?_ ?_
  refine .o1 (tk rfl rfl fun _ w hn k => ⟨_, v_move rfl (k.fx 1 h225), rfl⟩) ?_
  refine .o1 (tk rfl rfl fun _ w hn k => ⟨_, v_bin rfl (k.eq1 0 57 rfl) rfl (fun _ => rfl) (r_lssK ht233), rfl⟩) ?_
  refine .o1 (tk rfl rfl fun _ w hn k => ⟨_, v_move rfl (k.eq1 1 58 rfl), rfl⟩) ?_
  refine .o1 (sk rfl rfl rfl (fun _ _ _ k => k.eq1 2 59 rfl) (fun _ => rfl)) ?_
  refine .o1 (sk rfl rfl rfl (fun _ _ _ k => k.eq1 2 59 rfl) (fun _ => rfl)) ?_
  refine .o1 (tk rfl rfl fun _ w hn k => ⟨_, v_pickT rfl (k.eq1 2 59 rfl) rfl, rfl⟩) ?_
  exact .nil
  intro a234 w235 hn236 ha237
  obtain ⟨hs238, hd239, hN246⟩ := aft ha237 hs223 hd224 hN230 hn236
  have h240 := ha237.fx 1 h225
  have h241 := ha237.fx 7 h226
  have h242 := ha237.fx 8 h227
  have h243 := ha237.fx 9 h228
  have h244 := ha237.fx 10 h229
  have h245 := ha237.ge 5 62 rfl
  refine st_nil (hK232 _ _ ?_)
  refine wp_cond_true h245 ?_
  refine wp_seq_k fun K247 hK247 => ?_
  refine wp_g0 [true, true, true, true, true, true] [] 98
    [ve (.bool true),
     ve (.bool true),
     ve (iv ((indexV (Vl.mk 5 0 0 false [] (asc (strOfNums (textI n))) 0)).2)),
     ve (.bool (decide (((indexV (Vl.mk 5 0 0 false [] (asc (strOfNums (textI n))) 0)).2) = 3))),
     ve (.bool (decide (((indexV (Vl.mk 5 0 0 false [] (asc (strOfNums (textI n))) 0)).2) = 3))),
     ve (.bool (decide (((indexV (Vl.mk 5 0 0 false [] (asc (strOfNums (textI n))) 0)).2) = 3)))] hs238 (.eq (.eq (.eq (.eq (.eq (.eq (.nil))))))) ?_ ?_
  refine .o1 (ck rfl rfl rfl (fun _ w hn k => ⟨#[], rfl, fun _ => by kernel_rfl, first_c _⟩) fun _ => rfl) ?_
  refine .o1 (tk rfl rfl fun _ w hn k => ⟨_, v_move rfl (k.eq1 0 63 rfl), rfl⟩) ?_
  refine .o1 (tg rfl rfl rfl (fun _ _ k => k.eq1 1 64 rfl) fun _ w hn k => ⟨_, v_move rfl (k.fx 10 h244), rfl⟩) ?_
  refine .o1 (tg rfl rfl rfl (fun _ _ k => k.eq1 1 64 rfl) fun _ w hn k => ⟨_, v_bin rfl (k.eq1 2 65 rfl) rfl (fun _ => rfl) (r_eql rfl), rfl⟩) ?_
  refine .o1 (tk rfl rfl fun _ w hn k => ⟨_, v_pickT rfl (k.eq1 1 64 rfl) (k.eq1 3 66 rfl), rfl⟩) ?_
  refine .o1 (tk rfl rfl fun _ w hn k => ⟨_, v_assign rfl (k.eq1 4 67 rfl), rfl⟩) ?_
  exact .nil
  intro a248 w249 hn250 ha251
  obtain ⟨hs252, hd253, hN255⟩ := aft ha251 hs238 hd239 hN246 hn250
  have h254 := ha251.ge 5 4 rfl
  refine st_nil (hK247 _ _ ?_)
  refine wp_ret (ret_k hd253 (v := .bool (decide (((indexV (Vl.mk 5 0 0 false [] (asc (strOfNums (textI n))) 0)).2) = 3))) (res_t rfl h254 _) ?_)
  exact ⟨congrArg (fun b => Ending.returned (.bool b)) (decide_eq_true (by omega)), hN255⟩
  have ht233d := of_decide_eq_false ht233
  rcases Bool.eq_false_or_eq_true (decide (n ≤ 9007199254740991)) with ht256 | ht256
  have ht256d := of_decide_eq_true ht256
  refine wp_g0 [true, true, true, true, true, true] [] 98
    [ve (iv n),
     ve (.bool false),
     ve (.bool false),
     ve (iv n),
     ve (.bool false),
     ve (.bool false)] hs223 (.eq (.eq (.eq (.eq (.eq (.eq (.nil))))))) ?_ ?_
  refine .o1 (tk rfl rfl fun _ w hn k => ⟨_, v_move rfl (k.fx 1 h225), rfl⟩) ?_
  refine .o1 (tk rfl rfl fun _ w hn k => ⟨_, v_bin rfl (k.eq1 0 57 rfl) rfl (fun _ => rfl) (r_lssK ht233), rfl⟩) ?_
  refine .o1 (tk rfl rfl fun _ w hn k => ⟨_, v_move rfl (k.eq1 1 58 rfl), rfl⟩) ?_
  refine .o1 (tg rfl rfl rfl (fun _ _ k => k.eq1 2 59 rfl) fun _ w hn k => ⟨_, v_move rfl (k.fx 1 h225), rfl⟩) ?_
  refine .o1 (tg rfl rfl rfl (fun _ _ k => k.eq1 2 59 rfl) fun _ w hn k => ⟨_, v_bin rfl (k.eq1 3 60 rfl) rfl (fun _ => rfl) (r_gtrK ht256), rfl⟩) ?_
  refine .o1 (tk rfl rfl fun _ w hn k => ⟨_, v_pickF rfl (k.eq1 2 59 rfl) (k.eq1 4 61 rfl), rfl⟩) ?_
  exact .nil
  intro a257 w258 hn259 ha260
  obtain ⟨hs261, hd262, hN269⟩ := aft ha260 hs223 hd224 hN230 hn259
  have h263 := ha260.fx 1 h225
  have h264 := ha260.fx 7 h226
  have h265 := ha260.fx 8 h227
  have h266 := ha260.fx 9 h228
  have h267 := ha260.fx 10 h229
  have h268 := ha260.ge 5 62 rfl
  refine st_nil (hK232 _ _ ?_)
  refine wp_cond_false h268 ?_
  refine wp_skip ?_
  refine hK231 _ _ ?_
  refine wp_seq_k fun K270 hK270 => ?_
  refine wp_seq_k fun K271 hK271 => ?_
  refine wp_g0 [true, true] [] 98
    [ve (iv n),
     ve (.bool (decide (n < 0)))] hs261 (.eq (.eq (.nil))) ?_ ?_
  refine .o1 (tk rfl rfl fun _ w hn k => ⟨_, v_move rfl (k.fx 1 h263), rfl⟩) ?_
  refine .o1 (tk rfl rfl fun _ w hn k => ⟨_, v_bin rfl (k.eq1 0 68 rfl) rfl (fun _ => rfl) (r_lssK rfl), rfl⟩) ?_
  exact .nil
  intro a272 w273 hn274 ha275
  obtain ⟨hs276, hd277, hN284⟩ := aft ha275 hs261 hd262 hN269 hn274
  have h278 := ha275.fx 1 h263
  have h279 := ha275.fx 7 h264
  have h280 := ha275.fx 8 h265
  have h281 := ha275.fx 9 h266
  have h282 := ha275.fx 10 h267
  have h283 := ha275.ge 1 69 rfl
  refine st_nil (hK271 _ _ ?_)
  rcases Bool.eq_false_or_eq_true (decide (n < 0)) with ht285 | ht285
  have ht285d := of_decide_eq_true ht285
  have hv286 := hB h283 ht285
  refine wp_cond_true hv286 ?_
  refine wp_seq_k fun K287 hK287 => ?_
  have ht288 : (decide (((indexV (Vl.mk 3 0 n false [] [] 0)).2) = 2)) = true := decide_eq_true (by omega)
  have ht288d := of_decide_eq_true ht288
  refine wp_g0 [true, true, true, true, true, true, true, true, true, true] [] 98
    [ve (.bool true),
     ve (.bool true),
     ve (iv ((indexV (Vl.mk 3 0 n false [] [] 0)).2)),
     ve (.bool true),
     ve (.bool true),
     ve (.bool true),
     ve (iv ((indexV (Vl.mk 5 0 0 false [] (asc (strOfNums (textI n))) 0)).2)),
     ve (.bool (decide (((indexV (Vl.mk 5 0 0 false [] (asc (strOfNums (textI n))) 0)).2) = 2))),
     ve (.bool (decide (((indexV (Vl.mk 5 0 0 false [] (asc (strOfNums (textI n))) 0)).2) = 2))),
     ve (.bool (decide (((indexV (Vl.mk 5 0 0 false [] (asc (strOfNums (textI n))) 0)).2) = 2)))] hs276 (.eq (.eq (.eq (.eq (.eq (.eq (.eq (.eq (.eq (.eq (.nil))))))))))) ?_ ?_
  refine .o1 (ck rfl rfl rfl (fun _ w hn k => ⟨#[], rfl, fun _ => by kernel_rfl, first_c _⟩) fun _ => rfl) ?_
  refine .o1 (tk rfl rfl fun _ w hn k => ⟨_, v_move rfl (k.eq1 0 70 rfl), rfl⟩) ?_
  refine .o1 (tg rfl rfl rfl (fun _ _ k => k.eq1 1 71 rfl) fun _ w hn k => ⟨_, v_move rfl (k.fx 8 h280), rfl⟩) ?_
  refine .o1 (tg rfl rfl rfl (fun _ _ k => k.eq1 1 71 rfl) fun _ w hn k => ⟨_, v_bin rfl (k.eq1 2 72 rfl) rfl (fun _ => rfl) (r_eql ht288), rfl⟩) ?_
  refine .o1 (tk rfl rfl fun _ w hn k => ⟨_, v_pickT rfl (k.eq1 1 71 rfl) (k.eq1 3 73 rfl), rfl⟩) ?_
  refine .o1 (tk rfl rfl fun _ w hn k => ⟨_, v_move rfl (k.eq1 4 74 rfl), rfl⟩) ?_
  refine .o1 (tg rfl rfl rfl (fun _ _ k => k.eq1 5 75 rfl) fun _ w hn k => ⟨_, v_move rfl (k.fx 10 h282), rfl⟩) ?_
  refine .o1 (tg rfl rfl rfl (fun _ _ k => k.eq1 5 75 rfl) fun _ w hn k => ⟨_, v_bin rfl (k.eq1 6 76 rfl) rfl (fun _ => rfl) (r_eql rfl), rfl⟩) ?_
  refine .o1 (tk rfl rfl fun _ w hn k => ⟨_, v_pickT rfl (k.eq1 5 75 rfl) (k.eq1 7 77 rfl), rfl⟩) ?_
  refine .o1 (tk rfl rfl fun _ w hn k => ⟨_, v_assign rfl (k.eq1 8 78 rfl), rfl⟩) ?_
  exact .nil
  intro a289 w290 hn291 ha292
  obtain ⟨hs293, hd294, hN296⟩ := aft ha292 hs276 hd277 hN284 hn291
  have h295 := ha292.ge 9 4 rfl
  refine st_nil (hK287 _ _ ?_)
  refine wp_ret (ret_k hd294 (v := .bool (decide (((indexV (Vl.mk 5 0 0 false [] (asc (strOfNums (textI n))) 0)).2) = 2))) (res_t rfl h295 _) ?_)
  exact ⟨congrArg (fun b => Ending.returned (.bool b)) (decide_eq_true (by omega)), hN296⟩
  have ht285d := of_decide_eq_false ht285
  have hv297 := hB h283 ht285
  refine wp_cond_false hv297 ?_
  refine wp_skip ?_
  refine hK270 _ _ ?_
  refine wp_seq_k fun K298 hK298 => ?_
  have ht299 : (decide (((indexV (Vl.mk 3 0 n false [] [] 0)).2) = 0)) = true := decide_eq_true (by omega)
  have ht299d := of_decide_eq_true ht299
  have ht300 : (decide (((indexV (Vl.mk 5 0 0 false [] (asc (strOfNums (textI n))) 0)).2) = 0)) = true := decide_eq_true (by omega)
  have ht300d := of_decide_eq_true ht300
  have ht301 : (decide (((indexV (Vl.mk 3 0 n false [] [] 0)).1) = n)) = true := decide_eq_true (by omega)
  have ht301d := of_decide_eq_true ht301
  refine wp_g0 [true, true, true, true, true, true, true, true, true, true, true, true, true, true, true, true, true, true, true, true] [] 98
    [ve (.bool true),
     ve (.bool true),
     ve (iv ((indexV (Vl.mk 3 0 n false [] [] 0)).2)),
     ve (.bool true),
     ve (.bool true),
     ve (.bool true),
     ve (iv ((indexV (Vl.mk 5 0 0 false [] (asc (strOfNums (textI n))) 0)).2)),
     ve (.bool true),
     ve (.bool true),
     ve (.bool true),
     ve (iv ((indexV (Vl.mk 3 0 n false [] [] 0)).1)),
     ve (iv n),
     ve (.bool true),
     ve (.bool true),
     ve (.bool true),
     ve (iv ((indexV (Vl.mk 5 0 0 false [] (asc (strOfNums (textI n))) 0)).1)),
     ve (iv n),
     ve (.bool (decide (((indexV (Vl.mk 5 0 0 false [] (asc (strOfNums (textI n))) 0)).1) = n))),
     ve (.bool (decide (((indexV (Vl.mk 5 0 0 false [] (asc (strOfNums (textI n))) 0)).1) = n))),
     ve (.bool (decide (((indexV (Vl.mk 5 0 0 false [] (asc (strOfNums (textI n))) 0)).1) = n)))] hs276 (.eq (.eq (.eq (.eq (.eq (.eq (.eq (.eq (.eq (.eq (.eq (.eq (.eq (.eq (.eq (.eq (.eq (.eq (.eq (.eq (.nil))))))))))))))))))))) ?_ ?_
  refine .o1 (ck rfl rfl rfl (fun _ w hn k => ⟨#[], rfl, fun _ => by kernel_rfl, first_c _⟩) fun _ => rfl) ?_
  refine .o1 (tk rfl rfl fun _ w hn k => ⟨_, v_move rfl (k.eq1 0 79 rfl), rfl⟩) ?_
  refine .o1 (tg rfl rfl rfl (fun _ _ k => k.eq1 1 80 rfl) fun _ w hn k => ⟨_, v_move rfl (k.fx 8 h280), rfl⟩) ?_
  refine .o1 (tg rfl rfl rfl (fun _ _ k => k.eq1 1 80 rfl) fun _ w hn k => ⟨_, v_bin rfl (k.eq1 2 81 rfl) rfl (fun _ => rfl) (r_eql ht299), rfl⟩) ?_
  refine .o1 (tk rfl rfl fun _ w hn k => ⟨_, v_pickT rfl (k.eq1 1 80 rfl) (k.eq1 3 82 rfl), rfl⟩) ?_
  refine .o1 (tk rfl rfl fun _ w hn k => ⟨_, v_move rfl (k.eq1 4 83 rfl), rfl⟩) ?_
  refine .o1 (tg rfl rfl rfl (fun _ _ k => k.eq1 5 84 rfl) fun _ w hn k => ⟨_, v_move rfl (k.fx 10 h282), rfl⟩) ?_
  refine .o1 (tg rfl rfl rfl (fun _ _ k => k.eq1 5 84 rfl) fun _ w hn k => ⟨_, v_bin rfl (k.eq1 6 85 rfl) rfl (fun _ => rfl) (r_eql ht300), rfl⟩) ?_
  refine .o1 (tk rfl rfl fun _ w hn k => ⟨_, v_pickT rfl (k.eq1 5 84 rfl) (k.eq1 7 86 rfl), rfl⟩) ?_
  refine .o1 (tk rfl rfl fun _ w hn k => ⟨_, v_move rfl (k.eq1 8 87 rfl), rfl⟩) ?_
  refine .o1 (tg rfl rfl rfl (fun _ _ k => k.eq1 9 88 rfl) fun _ w hn k => ⟨_, v_move rfl (k.fx 7 h279), rfl⟩) ?_
  refine .o1 (tg rfl rfl rfl (fun _ _ k => k.eq1 9 88 rfl) fun _ w hn k => ⟨_, v_move rfl (k.fx 1 h278), rfl⟩) ?_
  refine .o1 (tg rfl rfl rfl (fun _ _ k => k.eq1 9 88 rfl) fun _ w hn k => ⟨_, v_bin rfl (k.eq1 10 89 rfl) (k.eq1 11 90 rfl) (fun _ => rfl) (r_eql ht301), rfl⟩) ?_
  refine .o1 (tk rfl rfl fun _ w hn k => ⟨_, v_pickT rfl (k.eq1 9 88 rfl) (k.eq1 12 91 rfl), rfl⟩) ?_
  refine .o1 (tk rfl rfl fun _ w hn k => ⟨_, v_move rfl (k.eq1 13 92 rfl), rfl⟩) ?_
  refine .o1 (tg rfl rfl rfl (fun _ _ k => k.eq1 14 93 rfl) fun _ w hn k => ⟨_, v_move rfl (k.fx 9 h281), rfl⟩) ?_
  refine .o1 (tg rfl rfl rfl (fun _ _ k => k.eq1 14 93 rfl) fun _ w hn k => ⟨_, v_move rfl (k.fx 1 h278), rfl⟩) ?_
  refine .o1 (tg rfl rfl rfl (fun _ _ k => k.eq1 14 93 rfl) fun _ w hn k => ⟨_, v_bin rfl (k.eq1 15 94 rfl) (k.eq1 16 95 rfl) (fun _ => rfl) (r_eql rfl), rfl⟩) ?_
  refine .o1 (tk rfl rfl fun _ w hn k => ⟨_, v_pickT rfl (k.eq1 14 93 rfl) (k.eq1 17 96 rfl), rfl⟩) ?_
  refine .o1 (tk rfl rfl fun _ w hn k => ⟨_, v_assign rfl (k.eq1 18 97 rfl), rfl⟩) ?_
  exact .nil
  intro a302 w303 hn304 ha305
  obtain ⟨hs306, hd307, hN309⟩ := aft ha305 hs276 hd277 hN284 hn304
  have h308 := ha305.ge 19 4 rfl
  refine st_nil (hK298 _ _ ?_)
  refine wp_ret (ret_k hd307 (v := .bool (decide (((indexV (Vl.mk 5 0 0 false [] (asc (strOfNums (textI n))) 0)).1) = n))) (res_t rfl h308 _) ?_)
  exact ⟨congrArg (fun b => Ending.returned (.bool b)) (decide_eq_true (by omega)), hN309⟩
  have ht256d := of_decide_eq_false ht256
  refine wp_g0 [true, true, true, true, true, true] [] 98
    [ve (iv n),
     ve (.bool false),
     ve (.bool false),
     ve (iv n),
     ve (.bool true),
     ve (.bool true)] hs223 (.eq (.eq (.eq (.eq (.eq (.eq (.nil))))))) ?_ ?_
  refine .o1 (tk rfl rfl fun _ w hn k => ⟨_, v_move rfl (k.fx 1 h225), rfl⟩) ?_
  refine .o1 (tk rfl rfl fun _ w hn k => ⟨_, v_bin rfl (k.eq1 0 57 rfl) rfl (fun _ => rfl) (r_lssK ht233), rfl⟩) ?_
  refine .o1 (tk rfl rfl fun _ w hn k => ⟨_, v_move rfl (k.eq1 1 58 rfl), rfl⟩) ?_
  refine .o1 (tg rfl rfl rfl (fun _ _ k => k.eq1 2 59 rfl) fun _ w hn k => ⟨_, v_move rfl (k.fx 1 h225), rfl⟩) ?_
  refine .o1 (tg rfl rfl rfl (fun _ _ k => k.eq1 2 59 rfl) fun _ w hn k => ⟨_, v_bin rfl (k.eq1 3 60 rfl) rfl (fun _ => rfl) (r_gtrK ht256), rfl⟩) ?_
  refine .o1 (tk rfl rfl fun _ w hn k => ⟨_, v_pickF rfl (k.eq1 2 59 rfl) (k.eq1 4 61 rfl), rfl⟩) ?_
  exact .nil
  intro a310 w311 hn312 ha313
  obtain ⟨hs314, hd315, hN322⟩ := aft ha313 hs223 hd224 hN230 hn312
  have h316 := ha313.fx 1 h225
  have h317 := ha313.fx 7 h226
  have h318 := ha313.fx 8 h227
  have h319 := ha313.fx 9 h228
  have h320 := ha313.fx 10 h229
  have h321 := ha313.ge 5 62 rfl
  refine st_nil (hK232 _ _ ?_)
  refine wp_cond_true h321 ?_
  refine wp_seq_k fun K323 hK323 => ?_
  refine wp_g0 [true, true, true, true, true, true] [] 98
    [ve (.bool true),
     ve (.bool true),
     ve (iv ((indexV (Vl.mk 5 0 0 false [] (asc (strOfNums (textI n))) 0)).2)),
     ve (.bool (decide (((indexV (Vl.mk 5 0 0 false [] (asc (strOfNums (textI n))) 0)).2) = 3))),
     ve (.bool (decide (((indexV (Vl.mk 5 0 0 false [] (asc (strOfNums (textI n))) 0)).2) = 3))),
     ve (.bool (decide (((indexV (Vl.mk 5 0 0 false [] (asc (strOfNums (textI n))) 0)).2) = 3)))] hs314 (.eq (.eq (.eq (.eq (.eq (.eq (.nil))))))) ?_ ?_
  refine .o1 (ck rfl rfl rfl (fun _ w hn k => ⟨#[], rfl, fun _ => by kernel_rfl, first_c _⟩) fun _ => rfl) ?_
  refine .o1 (tk rfl rfl fun _ w hn k => ⟨_, v_move rfl (k.eq1 0 63 rfl), rfl⟩) ?_
  refine .o1 (tg rfl rfl rfl (fun _ _ k => k.eq1 1 64 rfl) fun _ w hn k => ⟨_, v_move rfl (k.fx 10 h320), rfl⟩) ?_
  refine .o1 (tg rfl rfl rfl (fun _ _ k => k.eq1 1 64 rfl) fun _ w hn k => ⟨_, v_bin rfl (k.eq1 2 65 rfl) rfl (fun _ => rfl) (r_eql rfl), rfl⟩) ?_
  refine .o1 (tk rfl rfl fun _ w hn k => ⟨_, v_pickT rfl (k.eq1 1 64 rfl) (k.eq1 3 66 rfl), rfl⟩) ?_
  refine .o1 (tk rfl rfl fun _ w hn k => ⟨_, v_assign rfl (k.eq1 4 67 rfl), rfl⟩) ?_
  exact .nil
  intro a324 w325 hn326 ha327
  obtain ⟨hs328, hd329, hN331⟩ := aft ha327 hs314 hd315 hN322 hn326
  have h330 := ha327.ge 5 4 rfl
  refine st_nil (hK323 _ _ ?_)
  refine wp_ret (ret_k hd329 (v := .bool (decide (((indexV (Vl.mk 5 0 0 false [] (asc (strOfNums (textI n))) 0)).2) = 3))) (res_t rfl h330 _) ?_)
  exact ⟨congrArg (fun b => Ending.returned (.bool b)) (decide_eq_true (by omega)), hN331⟩
  have hv332 : a30.eval (.tmp 15) = .bool true := h38.trans (congrArg Value.bool (by rw [ht41]; rfl))
  refine wp_cond_true hv332 ?_
  refine wp_seq_k fun K333 hK333 => ?_
  refine wp_g0 [true, true] [] 98
    [ve (.bool true),
     ve (.bool true)] hs34 (.eq (.eq (.nil))) ?_ ?_
  refine .o1 (ck rfl rfl rfl (fun _ w hn k => ⟨#[], rfl, fun _ => by kernel_rfl, first_c _⟩) fun _ => rfl) ?_
  refine .o1 (tk rfl rfl fun _ w hn k => ⟨_, v_assign rfl (k.eq1 0 16 rfl), rfl⟩) ?_
  exact .nil
  intro a334 w335 hn336 ha337
  obtain ⟨hs338, hd339, hN341⟩ := aft ha337 hs34 hd35 hN40 hn336
  have h340 := ha337.ge 1 4 rfl
  refine st_nil (hK333 _ _ ?_)
  refine wp_ret (ret_k hd339 (v := .bool true) (res_t rfl h340 _) ?_)
  exact ⟨rfl, hN341⟩
end Go.Proofs.Ytecgdgjlmlpcnaa
