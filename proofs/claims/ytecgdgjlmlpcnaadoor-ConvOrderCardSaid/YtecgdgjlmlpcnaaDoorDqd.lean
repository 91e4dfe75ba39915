import Derived.Test.YtecgdgjlmlpcnaaDoorDqc
namespace Go.Proofs.YtecgdgjlmlpcnaaDoor
open Go.RowKit
set_option linter.unusedSimpArgs false
set_option linter.unusedVariables false
set_option maxHeartbeats 16000000
set_option maxRecDepth 100000
theorem order_w (v : Vl) (Av : Option Addr) (cv : Nat) (Bv : Option Addr) (dv : Nat) (u : Vl) (Au : Option Addr) (cu : Nat) (Bu : Option Addr) (du : Nat) (x : Vl) (Ax : Option Addr) (cx : Nat) (Bx : Option Addr) (dx : Nat) (w : World) (hmv : SRow w .u32 Av v.mag cv) (hsv : SRow w .u16 Bv v.s dv) (hmu : SRow w .u32 Au u.mag cu) (hsu : SRow w .u16 Bu u.s du) (hmx : SRow w .u32 Ax x.mag cx) (hsx : SRow w .u16 Bx x.s dx) (hlv : Limbs v.mag) (huv : U16s v.s) (hbv : -9223372036854775808 ≤ v.nn ∧ v.nn ≤ 9223372036854775807 ∧ -9223372036854775808 ≤ v.ref ∧ v.ref ≤ 9223372036854775807) (hlu : Limbs u.mag) (huu : U16s u.s) (hbu : -9223372036854775808 ≤ u.nn ∧ u.nn ≤ 9223372036854775807 ∧ -9223372036854775808 ≤ u.ref ∧ u.ref ≤ 9223372036854775807) (hlx : Limbs x.mag) (hux : U16s x.s) (hbx : -9223372036854775808 ≤ x.nn ∧ x.nn ≤ 9223372036854775807 ∧ -9223372036854775808 ≤ x.ref ∧ x.ref ≤ 9223372036854775807) (HT : ItoaOk w) : Calls Tryd.prog 4 #[vv v Av cv Bv dv, vv u Au cu Bu du, vv x Ax cx Bx dx] w (IsRet (.bool true) w) := by
 refine enter_abs Tryd.func4 rfl fun a0 bh ee hp => ?_
 have bh : a0.tmps.size = 98 := bh
 have bi : New w w := Upd.refl _ _
 have hp0 : a0.eval (.tmp 0) = vv v Av cv Bv dv := hp 0 _ rfl
 have hp1 : a0.eval (.tmp 1) = vv u Au cu Bu du := hp 1 _ rfl
 have hp2 : a0.eval (.tmp 2) = vv x Ax cx Bx dx := hp 2 _ rfl
 refine wp_seq_k fun K1 ef => ?_
 refine wp_g [true, true, true, true] [] [] 98
   [IsNew w 29 [iv v.k, iv v.nk, iv v.nn, .bool v.neg, sv Av v.mag cv, sv Bv v.s dv, iv v.ref], IsNew w 29 [iv u.k, iv u.nk, iv u.nn, .bool u.neg, sv Au u.mag cu, sv Bu u.s du, iv u.ref], IsNew w 29 [iv x.k, iv x.nk, iv x.nn, .bool x.neg, sv Ax x.mag cx, sv Bx x.s dx, iv x.ref], vF]
   [0, 1, 2] (newsCons (fun v w h => IsNew.old h) (newsCons (fun v w h => IsNew.old h) (newsCons (fun v w h => IsNew.old h) newsNil))) bh (.nw (.nw (.nw (.eq (.nil))))) ?_ (fun i h => by cases h) ?_
 exact .o2 (step_allocN (cs := [iv v.k, iv v.nk, iv v.nn, .bool v.neg, sv Av v.mag cv, sv Bv v.s dv, iv v.ref]) (t := 29) rfl (noG rfl) (fun _ w hn k => v_box rfl (k.fx 0 hp0) (fun w => rfl)) (fun q _ hq hb => ⟨q, rfl, hq, hb⟩)) <| .o2 (step_allocN (cs := [iv u.k, iv u.nk, iv u.nn, .bool u.neg, sv Au u.mag cu, sv Bu u.s du, iv u.ref]) (t := 29) rfl (noG rfl) (fun _ w hn k => v_box rfl (k.fx 1 hp1) (fun w => rfl)) (fun q _ hq hb => ⟨q, rfl, hq, hb⟩)) <| .o2 (step_allocN (cs := [iv x.k, iv x.nk, iv x.nn, .bool x.neg, sv Ax x.mag cx, sv Bx x.s dx, iv x.ref]) (t := 29) rfl (noG rfl) (fun _ w hn k => v_box rfl (k.fx 2 hp2) (fun w => rfl)) (fun q _ hq hb => ⟨q, rfl, hq, hb⟩)) <| .t (fun _ w hn k => ⟨_, v_assign rfl rfl, rfl⟩) .nil
 refine aftI bh ee bi fun a2 w3 db eg df fU bN => ?_
 obtain ⟨q9, h8, dg, dh⟩ : IsNew _ _ _ _ _ := bN.got 0 3 rfl (by kernel_rfl)
 obtain ⟨dc, eh, di, dj⟩ : IsNew _ _ _ _ _ := bN.got 1 4 rfl (by kernel_rfl)
 obtain ⟨fV, ei, dk, dl⟩ : IsNew _ _ _ _ _ := bN.got 2 5 rfl (by kernel_rfl)
 have e5 := Nat.le_trans bi.size dg
 have e6 := Nat.le_trans bi.size di
 have e8 := Nat.le_trans bi.size dk
 refine st_nil (ef _ _ (wp_seq_k fun fW dm => ?_))
 refine wp_seq_k fun fX dn => ?_
 refine wp_g0 [true, true] [] 98
   [vT, vF] db (.eq (.eq (.nil))) ?_ ?_
 exact .o1 (ck rfl rfl rfl (fun _ w hn k => ⟨#[], rfl, fun _ => by kernel_rfl, first_c _⟩) fun _ => rfl) <| .t (fun _ w hn k => ⟨_, v_not rfl (k.eq1 0 15 rfl), rfl⟩) .nil
 refine aftI db eg df fun fY fZ ay a8 ac a9 aQ => ?_
 have aP := aQ.fx 3 h8
 have a7 := aQ.fx 4 eh
 have bj := aQ.fx 5 ei
 have ej := aQ.ge 1 16 rfl
 have az := dh.new_ a9
 have aJ := dj.new_ a9
 have aR := dl.new_ a9
 refine st_nil (dn _ _ ?_)
 refine wp_cond_false ej ?_
 refine wp_skip ?_
 refine dm _ _ ?_
 refine wp_seq_k fun f0 dp => ?_
 refine wp_seq_k fun f1 ba => ?_
 rcases bc (!(decide ((v.s.length : Int) ≤ 20000) && decide ((v.mag.length : Int) ≤ 40))) with aj | aj
 refine wp_g0 (.replicate 13 true) [] 98
   [ve (vv v Av cv Bv dv), ve (.bool (decide ((v.s.length : Int) ≤ 20000) && decide ((v.mag.length : Int) ≤ 40))), vT, vT, vU, vU, vU, vT, vT, vU, vU, vU, vT] ay (.eq (.eq (.eq (.eq (.eq (.eq (.eq (.eq (.eq (.eq (.eq (.eq (.eq (.nil)))))))))))))) ?_ ?_
 exact .t (fun _ w hn k => ⟨_, v_load rfl (k.fx 3 aP) (l_agg Tryd.isAgg29 Tryd.sizeOf29 (az.new_ hn) rfl), rfl⟩) <| .o1 (ck rfl rfl rfl (fun _ w hn k => ⟨#[vv v Av cv Bv dv], args1 (k.eq1 0 17 rfl), fun _ => by kernel_rfl, few_c v _ _ _ _ _ (hmv.new_ (ac.transNew hn)) (hsv.new_ (ac.transNew hn))⟩) fun _ => rfl) <| .o1 (tk rfl rfl fun _ w hn k => ⟨_, v_not rfl (k.eq1 1 18 rfl), congrArg Value.bool aj⟩) <| .m (fun k => k.eq1 2 19 rfl) <| .s (fun k => k.eq1 3 20 rfl) <| .s (fun k => k.eq1 3 20 rfl) <| .s (fun k => k.eq1 3 20 rfl) <| .t (fun _ w hn k => ⟨_, v_pickT rfl (k.eq1 3 20 rfl) rfl, rfl⟩) <| .m (fun k => k.eq1 7 24 rfl) <| .s (fun k => k.eq1 8 25 rfl) <| .s (fun k => k.eq1 8 25 rfl) <| .s (fun k => k.eq1 8 25 rfl) <| .t (fun _ w hn k => ⟨_, v_pickT rfl (k.eq1 8 25 rfl) rfl, rfl⟩) .nil
 refine aftI ay a8 ac fun f2 f3 bO dq dr bb aS => ?_
 have f4 := aS.fx 3 aP
 have f5 := aS.fx 4 a7
 have f6 := aS.fx 5 bj
 have ek := aS.ge 12 29 rfl
 have e9 := az.new_ bb
 have fa := aJ.new_ bb
 have fb := aR.new_ bb
 refine st_nil (ba _ _ ?_)
 refine wp_cond_true ek ?_
 refine wp_seq_k fun f7 ds => ?_
 refine wp_g0 [true, true] [] 98
   [vT, vT] bO (.eq (.eq (.nil))) ?_ ?_
 exact .o1 (ck rfl rfl rfl (fun _ w hn k => ⟨#[], rfl, fun _ => by kernel_rfl, first_c _⟩) fun _ => rfl) <| .a (fun k => k.eq1 0 30 rfl) .nil
 refine aftI bO dq dr fun f8 f9 fc dt dw fd dy => ?_
 have el := dy.ge 1 6 rfl
 refine st_nil (ds _ _ ?_)
 refine wp_ret (ret_k dt (v := .bool true) (res_t rfl el _) ?_)
 exact ⟨rfl, dw⟩
 rcases bc (!(decide ((u.s.length : Int) ≤ 20000) && decide ((u.mag.length : Int) ≤ 40))) with ap | ap
 refine wp_g0 (.replicate 13 true) [] 98
   [ve (vv v Av cv Bv dv), ve (.bool (decide ((v.s.length : Int) ≤ 20000) && decide ((v.mag.length : Int) ≤ 40))), vF, vF, ve (vv u Au cu Bu du), ve (.bool (decide ((u.s.length : Int) ≤ 20000) && decide ((u.mag.length : Int) ≤ 40))), vT, vT, vT, vU, vU, vU, vT] ay (.eq (.eq (.eq (.eq (.eq (.eq (.eq (.eq (.eq (.eq (.eq (.eq (.eq (.nil)))))))))))))) ?_ ?_
 exact .t (fun _ w hn k => ⟨_, v_load rfl (k.fx 3 aP) (l_agg Tryd.isAgg29 Tryd.sizeOf29 (az.new_ hn) rfl), rfl⟩) <| .o1 (ck rfl rfl rfl (fun _ w hn k => ⟨#[vv v Av cv Bv dv], args1 (k.eq1 0 17 rfl), fun _ => by kernel_rfl, few_c v _ _ _ _ _ (hmv.new_ (ac.transNew hn)) (hsv.new_ (ac.transNew hn))⟩) fun _ => rfl) <| .o1 (tk rfl rfl fun _ w hn k => ⟨_, v_not rfl (k.eq1 1 18 rfl), congrArg Value.bool aj⟩) <| .m (fun k => k.eq1 2 19 rfl) <| .g (fun k => k.eq1 3 20 rfl) (fun _ w hn k => ⟨_, v_load rfl (k.fx 4 a7) (l_agg Tryd.isAgg29 Tryd.sizeOf29 (aJ.new_ hn) rfl), rfl⟩) <| .o1 (cg rfl rfl rfl (fun _ _ k => k.eq1 3 20 rfl) rfl (fun _ w hn k => ⟨#[vv u Au cu Bu du], args1 (k.eq1 4 21 rfl), fun _ => by kernel_rfl, few_c u _ _ _ _ _ (hmu.new_ (ac.transNew hn)) (hsu.new_ (ac.transNew hn))⟩) fun _ => rfl) <| .o1 (tg rfl rfl rfl (fun _ _ k => k.eq1 3 20 rfl) fun _ w hn k => ⟨_, v_not rfl (k.eq1 5 22 rfl), congrArg Value.bool ap⟩) <| .t (fun _ w hn k => ⟨_, v_pickF rfl (k.eq1 3 20 rfl) (k.eq1 6 23 rfl), rfl⟩) <| .m (fun k => k.eq1 7 24 rfl) <| .s (fun k => k.eq1 8 25 rfl) <| .s (fun k => k.eq1 8 25 rfl) <| .s (fun k => k.eq1 8 25 rfl) <| .t (fun _ w hn k => ⟨_, v_pickT rfl (k.eq1 8 25 rfl) rfl, rfl⟩) .nil
 refine aftI ay a8 ac fun ga gb bP dz dA bd aT => ?_
 have gc := aT.fx 3 aP
 have gd := aT.fx 4 a7
 have gf := aT.fx 5 bj
 have em := aT.ge 12 29 rfl
 have fe := az.new_ bd
 have ff := aJ.new_ bd
 have fg := aR.new_ bd
 refine st_nil (ba _ _ ?_)
 refine wp_cond_true em ?_
 refine wp_seq_k fun gg dB => ?_
 refine wp_g0 [true, true] [] 98
   [vT, vT] bP (.eq (.eq (.nil))) ?_ ?_
 exact .o1 (ck rfl rfl rfl (fun _ w hn k => ⟨#[], rfl, fun _ => by kernel_rfl, first_c _⟩) fun _ => rfl) <| .a (fun k => k.eq1 0 30 rfl) .nil
 refine aftI bP dz dA fun gh gi fh dC dD fi dE => ?_
 have en := dE.ge 1 6 rfl
 refine st_nil (dB _ _ ?_)
 refine wp_ret (ret_k dC (v := .bool true) (res_t rfl en _) ?_)
 exact ⟨rfl, dD⟩
 refine wp_g0 (.replicate 13 true) [] 98
   [ve (vv v Av cv Bv dv), ve (.bool (decide ((v.s.length : Int) ≤ 20000) && decide ((v.mag.length : Int) ≤ 40))), vF, vF, ve (vv u Au cu Bu du), ve (.bool (decide ((u.s.length : Int) ≤ 20000) && decide ((u.mag.length : Int) ≤ 40))), vF, vF, vF, ve (vv x Ax cx Bx dx), ve (.bool (decide ((x.s.length : Int) ≤ 20000) && decide ((x.mag.length : Int) ≤ 40))), ve (.bool (!(decide ((x.s.length : Int) ≤ 20000) && decide ((x.mag.length : Int) ≤ 40)))), ve (.bool (!(decide ((x.s.length : Int) ≤ 20000) && decide ((x.mag.length : Int) ≤ 40))))] ay (.eq (.eq (.eq (.eq (.eq (.eq (.eq (.eq (.eq (.eq (.eq (.eq (.eq (.nil)))))))))))))) ?_ ?_
 exact .t (fun _ w hn k => ⟨_, v_load rfl (k.fx 3 aP) (l_agg Tryd.isAgg29 Tryd.sizeOf29 (az.new_ hn) rfl), rfl⟩) <| .o1 (ck rfl rfl rfl (fun _ w hn k => ⟨#[vv v Av cv Bv dv], args1 (k.eq1 0 17 rfl), fun _ => by kernel_rfl, few_c v _ _ _ _ _ (hmv.new_ (ac.transNew hn)) (hsv.new_ (ac.transNew hn))⟩) fun _ => rfl) <| .o1 (tk rfl rfl fun _ w hn k => ⟨_, v_not rfl (k.eq1 1 18 rfl), congrArg Value.bool aj⟩) <| .m (fun k => k.eq1 2 19 rfl) <| .g (fun k => k.eq1 3 20 rfl) (fun _ w hn k => ⟨_, v_load rfl (k.fx 4 a7) (l_agg Tryd.isAgg29 Tryd.sizeOf29 (aJ.new_ hn) rfl), rfl⟩) <| .o1 (cg rfl rfl rfl (fun _ _ k => k.eq1 3 20 rfl) rfl (fun _ w hn k => ⟨#[vv u Au cu Bu du], args1 (k.eq1 4 21 rfl), fun _ => by kernel_rfl, few_c u _ _ _ _ _ (hmu.new_ (ac.transNew hn)) (hsu.new_ (ac.transNew hn))⟩) fun _ => rfl) <| .o1 (tg rfl rfl rfl (fun _ _ k => k.eq1 3 20 rfl) fun _ w hn k => ⟨_, v_not rfl (k.eq1 5 22 rfl), congrArg Value.bool ap⟩) <| .t (fun _ w hn k => ⟨_, v_pickF rfl (k.eq1 3 20 rfl) (k.eq1 6 23 rfl), rfl⟩) <| .m (fun k => k.eq1 7 24 rfl) <| .g (fun k => k.eq1 8 25 rfl) (fun _ w hn k => ⟨_, v_load rfl (k.fx 5 bj) (l_agg Tryd.isAgg29 Tryd.sizeOf29 (aR.new_ hn) rfl), rfl⟩) <| .o1 (cg rfl rfl rfl (fun _ _ k => k.eq1 8 25 rfl) rfl (fun _ w hn k => ⟨#[vv x Ax cx Bx dx], args1 (k.eq1 9 26 rfl), fun _ => by kernel_rfl, few_c x _ _ _ _ _ (hmx.new_ (ac.transNew hn)) (hsx.new_ (ac.transNew hn))⟩) fun _ => rfl) <| .g (fun k => k.eq1 8 25 rfl) (fun _ w hn k => ⟨_, v_not rfl (k.eq1 10 27 rfl), rfl⟩) <| .t (fun _ w hn k => ⟨_, v_pickF rfl (k.eq1 8 25 rfl) (k.eq1 11 28 rfl), rfl⟩) .nil
 refine aftI ay a8 ac fun dd gj ak aU ab be aV => ?_
 have aK := aV.fx 3 aP
 have aA := aV.fx 4 a7
 have bQ := aV.fx 5 bj
 have de := aV.ge 12 29 rfl
 have ah := az.new_ be
 have af := aJ.new_ be
 have aW := aR.new_ be
 refine st_nil (ba _ _ ?_)
 rcases bc (decide ((x.s.length : Int) ≤ 20000) && decide ((x.mag.length : Int) ≤ 40)) with ai | ai
 have b9 : dd.eval (.tmp 29) = .bool false := de.trans (congrArg Value.bool (by rw [ai]; rfl))
 refine wp_cond_false b9 ?_
 refine wp_skip ?_
 refine dp _ _ ?_
 refine wp_seq_k fun fj ca => ?_
 refine wp_seq_j (fun (aa : Act) (ww : World) => aa.tmps.size = 98 ∧ aa.defers = [] ∧ New w ww ∧ aa.eval (.tmp 44) = .bool false ∧ aa.eval (.tmp 3) = pv q9 ∧ aa.eval (.tmp 4) = pv dc ∧ Blk ww dc 29 [iv u.k, iv u.nk, iv u.nn, .bool u.neg, sv Au u.mag cu, sv Bu u.s du, iv u.ref] ∧ Blk ww q9 29 [iv v.k, iv v.nk, iv v.nn, .bool v.neg, sv Av v.mag cv, sv Bv v.s dv, iv v.ref]) ?_ ?_
 rintro fk fl ⟨bk, cb, aq, dF, bR, bS, bl, bm⟩
 have hvv : VOk v := few_ok (v := v) (by first | exact aj | simpa using aj) hlv huv hbv.1 hbv.2.1 hbv.2.2.1 hbv.2.2.2
 have hvu : VOk u := few_ok (v := u) (by first | exact ap | simpa using ap) hlu huu hbu.1 hbu.2.1 hbu.2.2.1 hbu.2.2.2
 have hvx : VOk x := few_ok (v := x) (by first | exact ai | simpa using ai) hlx hux hbx.1 hbx.2.1 hbx.2.2.1 hbx.2.2.2
 refine wp_cond_false dF ?_
 refine wp_skip ?_
 refine ca _ _ ?_
 refine wp_seq_k fun fm cc => ?_
 refine wp_seq_k fun fn cd => ?_
 refine wp_g0 [true, true, true, true] [] 98
   [ve (vv v Av cv Bv dv), ve (vv u Au cu Bu du), ve (.bool (strictV v u)), ve (.bool (!(strictV v u)))] bk (.eq (.eq (.eq (.eq (.nil))))) ?_ ?_
 exact .t (fun _ w hn k => ⟨_, v_load rfl (k.fx 3 bR) (l_agg Tryd.isAgg29 Tryd.sizeOf29 (bm.new_ hn) rfl), rfl⟩) <| .t (fun _ w hn k => ⟨_, v_load rfl (k.fx 4 bS) (l_agg Tryd.isAgg29 Tryd.sizeOf29 (bl.new_ hn) rfl), rfl⟩) <| .o1 (ck rfl rfl rfl (fun _ w hn k => ⟨#[vv v Av cv Bv dv, vv u Au cu Bu du], args2 (k.eq1 0 45 rfl) (k.eq1 1 46 rfl), fun _ => by kernel_rfl, cstrict_c v _ _ _ _ u _ _ _ _ _ (hmv.new_ (aq.transNew hn)) (hsv.new_ (aq.transNew hn)) (hmu.new_ (aq.transNew hn)) (hsu.new_ (aq.transNew hn))⟩) fun _ => rfl) <| .t (fun _ w hn k => ⟨_, v_not rfl (k.eq1 2 47 rfl), rfl⟩) .nil
 refine aftI bk cb aq fun bT fo aB bn ar bo aX => ?_
 have bU := aX.fx 3 bR
 have dG := aX.fx 4 bS
 have bV := aX.ge 3 48 rfl
 have ce := bl.new_ bo
 have bp := bm.new_ bo
 refine st_nil (cd _ _ ?_)
 rcases bc (strictV v u) with aC | aC
 have cf : bT.eval (.tmp 48) = .bool false := bV.trans (congrArg Value.bool (by rw [aC]; rfl))
 refine wp_cond_false cf ?_
 refine wp_skip ?_
 refine cc _ _ ?_
 refine wp_seq_k fun fp ch => ?_
 obtain ⟨hal1, hal2, hal3⟩ := strict_alike aC
 refine wp_g0 [true, true, true, true, true, true, true] [] 98
   [ve (vv v Av cv Bv dv), (fun (v_ : Value) (W : World) => ∃ (A3 : Option Addr) (c4 : Nat), v_ = .tuple #[sv A3 ((textV v).1) c4, iv ((textV v).2)] ∧ SRow W .u16 A3 ((textV v).1) c4), (fun (v_ : Value) (W : World) => ∃ (A9 : Option Addr) (am : Nat), v_ = .tuple #[sv A9 ((textV v).1) am, iv ((textV v).2)] ∧ SRow W .u16 A9 ((textV v).1) am),
    (RP .u16 ((textV v).1)), ve (iv ((textV v).2)),
    (RP .u16 ((textV v).1)), ve (iv ((textV v).2))] aB (.eq (.cons (fun _ _ _ n ⟨_, _, e, h⟩ => ⟨_, _, e, h.new_ n⟩) (.cons (fun v W W' hn ⟨A9, am, he, h0⟩ => ⟨A9, am, he, h0.new_ hn⟩) (.cons (fun _ _ _ n ⟨_, _, e, h⟩ => ⟨_, _, e, h.new_ n⟩) (.eq (.cons (fun _ _ _ n ⟨_, _, e, h⟩ => ⟨_, _, e, h.new_ n⟩) (.eq (.nil)))))))) ?_ ?_
 refine .t (fun _ w hn k => ⟨_, v_load rfl (k.fx 3 bU) (l_agg Tryd.isAgg29 Tryd.sizeOf29 (bp.new_ hn) rfl), rfl⟩) ?_
 refine .o1 (tkC rfl (noG rfl) rfl fun _ w hn k => (by
       refine ⟨#[vv v Av cv Bv dv], _, args1 (k.eq1 0 51 rfl), fun w => by kernel_rfl, ctext_c v _ _ _ _ _ (hmv.new_ (ar.transNew hn)) (hsv.new_ (ar.transNew hn)) hvv (HT.up (ar.transNew hn)), ?_⟩
       rintro e w' ⟨A1, c2, rfl, hmo0, hm⟩
       exact ⟨_, rfl, hm, ⟨A1, c2, rfl, hmo0⟩⟩)) ?_
 refine .o1 (tk rfl rfl fun _ w hn k => (by
       obtain ⟨A5, c6, e7, et⟩ : (fun (v_ : Value) (W : World) => ∃ (A3 : Option Addr) (c4 : Nat), v_ = .tuple #[sv A3 ((textV v).1) c4, iv ((textV v).2)] ∧ SRow W .u16 A3 ((textV v).1) c4) _ _ := k.dep 1 52 (by kernel_rfl) (by kernel_rfl)
       exact ⟨_, v_move rfl e7, ⟨A5, c6, rfl, et⟩⟩)) ?_
 refine .o1 (tk rfl rfl fun _ w hn k => (by
       obtain ⟨eu, ev, ew, dH⟩ : (fun (v_ : Value) (W : World) => ∃ (A9 : Option Addr) (am : Nat), v_ = .tuple #[sv A9 ((textV v).1) am, iv ((textV v).2)] ∧ SRow W .u16 A9 ((textV v).1) am) _ _ := k.dep 2 50 (by kernel_rfl) (by kernel_rfl)
       exact ⟨_, v_extract rfl ew rfl, ⟨eu, ev, rfl, dH⟩⟩)) ?_
 refine .o1 (tk rfl rfl fun _ w hn k => (by
       obtain ⟨gk, gl, ex, fq⟩ : (fun (v_ : Value) (W : World) => ∃ (A9 : Option Addr) (am : Nat), v_ = .tuple #[sv A9 ((textV v).1) am, iv ((textV v).2)] ∧ SRow W .u16 A9 ((textV v).1) am) _ _ := k.dep 2 50 (by kernel_rfl) (by kernel_rfl)
       exact ⟨_, v_extract rfl ex rfl, rfl⟩)) ?_
 refine .o1 (tk rfl rfl fun _ w hn k => (by
       obtain ⟨ey, ez, eA, dI⟩ : (RP .u16 ((textV v).1)) _ _ := k.dep 3 53 (by kernel_rfl) (by kernel_rfl)
       exact ⟨_, v_assign rfl eA, ⟨ey, ez, rfl, dI⟩⟩)) ?_
 exact .a (fun k => k.eq1 4 54 rfl) .nil
 refine aftI aB bn ar fun dJ fr bq ci aD br aE => ?_
 have dK := aE.fx 3 bU
 have bW := aE.fx 4 dG
 obtain ⟨aL, au, bf, cj⟩ : (RP .u16 ((textV v).1)) _ _ := aE.got 5 7 rfl (by kernel_rfl)
 have bf : dJ.eval (.tmp 7) = sv aL ((textV v).1) au := bf
 have dL := aE.ge 6 8 rfl
 have bs := ce.new_ br
 have cl := bp.new_ br
 refine st_nil (ch _ _ (wp_seq_k fun fs cm => ?_))
 refine wp_g0 [true, true, true, true, true, true, true] [] 98
   [ve (vv u Au cu Bu du), (fun (v_ : Value) (W : World) => ∃ (aM : Option Addr) (aN : Nat), v_ = .tuple #[sv aM ((textV u).1) aN, iv ((textV u).2)] ∧ SRow W .u16 aM ((textV u).1) aN), (fun (v_ : Value) (W : World) => ∃ (an : Option Addr) (ao : Nat), v_ = .tuple #[sv an ((textV u).1) ao, iv ((textV u).2)] ∧ SRow W .u16 an ((textV u).1) ao),
    (RP .u16 ((textV u).1)), ve (iv ((textV u).2)),
    (RP .u16 ((textV u).1)), ve (iv ((textV u).2))] bq (.eq (.cons (fun _ _ _ n ⟨_, _, e, h⟩ => ⟨_, _, e, h.new_ n⟩) (.cons (fun v W W' hn ⟨an, ao, he, h0⟩ => ⟨an, ao, he, h0.new_ hn⟩) (.cons (fun _ _ _ n ⟨_, _, e, h⟩ => ⟨_, _, e, h.new_ n⟩) (.eq (.cons (fun _ _ _ n ⟨_, _, e, h⟩ => ⟨_, _, e, h.new_ n⟩) (.eq (.nil)))))))) ?_ ?_
 refine .t (fun _ w hn k => ⟨_, v_load rfl (k.fx 4 bW) (l_agg Tryd.isAgg29 Tryd.sizeOf29 (bs.new_ hn) rfl), rfl⟩) ?_
 refine .o1 (tkC rfl (noG rfl) rfl fun _ w hn k => (by
       refine ⟨#[vv u Au cu Bu du], _, args1 (k.eq1 0 56 rfl), fun w => by kernel_rfl, ctext_c u _ _ _ _ _ (hmu.new_ (aD.transNew hn)) (hsu.new_ (aD.transNew hn)) hvu (HT.up (aD.transNew hn)), ?_⟩
       rintro e w' ⟨eF, eG, rfl, hmo0, hm⟩
       exact ⟨_, rfl, hm, ⟨eF, eG, rfl, hmo0⟩⟩)) ?_
 refine .o1 (tk rfl rfl fun _ w hn k => (by
       obtain ⟨eH, eI, eJ, dM⟩ : (fun (v_ : Value) (W : World) => ∃ (aM : Option Addr) (aN : Nat), v_ = .tuple #[sv aM ((textV u).1) aN, iv ((textV u).2)] ∧ SRow W .u16 aM ((textV u).1) aN) _ _ := k.dep 1 57 (by kernel_rfl) (by kernel_rfl)
       exact ⟨_, v_move rfl eJ, ⟨eH, eI, rfl, dM⟩⟩)) ?_
 refine .o1 (tk rfl rfl fun _ w hn k => (by
       obtain ⟨eK, eL, eM, dN⟩ : (fun (v_ : Value) (W : World) => ∃ (an : Option Addr) (ao : Nat), v_ = .tuple #[sv an ((textV u).1) ao, iv ((textV u).2)] ∧ SRow W .u16 an ((textV u).1) ao) _ _ := k.dep 2 55 (by kernel_rfl) (by kernel_rfl)
       exact ⟨_, v_extract rfl eM rfl, ⟨eK, eL, rfl, dN⟩⟩)) ?_
 refine .o1 (tk rfl rfl fun _ w hn k => (by
       obtain ⟨gn, go, eN, ft⟩ : (fun (v_ : Value) (W : World) => ∃ (an : Option Addr) (ao : Nat), v_ = .tuple #[sv an ((textV u).1) ao, iv ((textV u).2)] ∧ SRow W .u16 an ((textV u).1) ao) _ _ := k.dep 2 55 (by kernel_rfl) (by kernel_rfl)
       exact ⟨_, v_extract rfl eN rfl, rfl⟩)) ?_
 refine .o1 (tk rfl rfl fun _ w hn k => (by
       obtain ⟨eO, eP, eQ, dO⟩ : (RP .u16 ((textV u).1)) _ _ := k.dep 3 58 (by kernel_rfl) (by kernel_rfl)
       exact ⟨_, v_assign rfl eQ, ⟨eO, eP, rfl, dO⟩⟩)) ?_
 exact .a (fun k => k.eq1 4 59 rfl) .nil
 refine aftI bq ci aD fun dP fu bt cn aY aZ al => ?_
 have bX := al.fx 3 dK
 have dQ := al.fx 4 bW
 have dR := al.fx 7 bf
 have dS := al.fx 8 dL
 obtain ⟨aO, av, bg, co⟩ : (RP .u16 ((textV u).1)) _ _ := al.got 5 9 rfl (by kernel_rfl)
 have bg : dP.eval (.tmp 9) = sv aO ((textV u).1) av := bg
 have dT := al.ge 6 10 rfl
 have cp := bs.new_ aZ
 have bu := cl.new_ aZ
 have cq := cj.new_ aZ
 refine st_nil (cm _ _ (wp_seq_k fun fv cr => ?_))
 refine wp_g0 [true, true, true, true, true, true, true] [] 98
   [ve (vv v Av cv Bv dv), ve (.tuple #[iv ((indexV v).1), iv ((indexV v).2)]), ve (.tuple #[iv ((indexV v).1), iv ((indexV v).2)]), ve (iv ((indexV v).1)), ve (iv ((indexV v).2)), ve (iv ((indexV v).1)), ve (iv ((indexV v).2))] bt (.eq (.eq (.eq (.eq (.eq (.eq (.eq (.nil)))))))) ?_ ?_
 exact .t (fun _ w hn k => ⟨_, v_load rfl (k.fx 3 bX) (l_agg Tryd.isAgg29 Tryd.sizeOf29 (bu.new_ hn) rfl), rfl⟩) <| .o1 (ck rfl rfl rfl (fun _ w hn k => ⟨#[vv v Av cv Bv dv], args1 (k.eq1 0 61 rfl), fun _ => by kernel_rfl, cindex_c v _ _ _ _ _ (hmv.new_ (aY.transNew hn)) (hsv.new_ (aY.transNew hn)) hvv⟩) fun _ => rfl) <| .m (fun k => k.eq1 1 62 rfl) <| .t (fun _ w hn k => ⟨_, v_extract rfl (k.eq1 2 60 rfl) rfl, rfl⟩) <| .t (fun _ w hn k => ⟨_, v_extract rfl (k.eq1 2 60 rfl) rfl, rfl⟩) <| .a (fun k => k.eq1 3 63 rfl) <| .a (fun k => k.eq1 4 64 rfl) .nil
 refine aftI bt cn aY fun fw fy bv ct a1 aF ag => ?_
 have dU := ag.fx 3 bX
 have bY := ag.fx 4 dQ
 have dV := ag.fx 7 dR
 have dW := ag.fx 8 dS
 have dX := ag.fx 9 bg
 have dY := ag.fx 10 dT
 have dZ := ag.ge 5 11 rfl
 have d0 := ag.ge 6 12 rfl
 have bw := cp.new_ aF
 have cw := bu.new_ aF
 have cy := cq.new_ aF
 have cz := co.new_ aF
 refine st_nil (cr _ _ (wp_seq_k fun fz cA => ?_))
 refine wp_g0 [true, true, true, true, true, true, true] [] 98
   [ve (vv u Au cu Bu du), ve (.tuple #[iv ((indexV u).1), iv ((indexV u).2)]), ve (.tuple #[iv ((indexV u).1), iv ((indexV u).2)]), ve (iv ((indexV u).1)), ve (iv ((indexV u).2)), ve (iv ((indexV u).1)), ve (iv ((indexV u).2))] bv (.eq (.eq (.eq (.eq (.eq (.eq (.eq (.nil)))))))) ?_ ?_
 exact .t (fun _ w hn k => ⟨_, v_load rfl (k.fx 4 bY) (l_agg Tryd.isAgg29 Tryd.sizeOf29 (bw.new_ hn) rfl), rfl⟩) <| .o1 (ck rfl rfl rfl (fun _ w hn k => ⟨#[vv u Au cu Bu du], args1 (k.eq1 0 66 rfl), fun _ => by kernel_rfl, cindex_c u _ _ _ _ _ (hmu.new_ (a1.transNew hn)) (hsu.new_ (a1.transNew hn)) hvu⟩) fun _ => rfl) <| .m (fun k => k.eq1 1 67 rfl) <| .t (fun _ w hn k => ⟨_, v_extract rfl (k.eq1 2 65 rfl) rfl, rfl⟩) <| .t (fun _ w hn k => ⟨_, v_extract rfl (k.eq1 2 65 rfl) rfl, rfl⟩) <| .a (fun k => k.eq1 3 68 rfl) <| .a (fun k => k.eq1 4 69 rfl) .nil
 refine aftI bv ct a1 fun fA fB aG bx ad aH ae => ?_
 have bZ := ae.fx 3 dU
 have b0 := ae.fx 4 bY
 have b1 := ae.fx 7 dV
 have b2 := ae.fx 8 dW
 have b3 := ae.fx 9 dX
 have b4 := ae.fx 10 dY
 have b5 := ae.fx 11 dZ
 have b6 := ae.fx 12 d0
 have b7 := ae.ge 5 13 rfl
 have b8 := ae.ge 6 14 rfl
 have bz := bw.new_ aH
 have bA := cw.new_ aH
 have bB := cy.new_ aH
 have bC := cz.new_ aH
 refine st_nil (cA _ _ (wp_seq_k fun fC bD => ?_))
 rcases bc (boolV v) with aw | aw
 have cB : (boolV u) = true := hal1.symm.trans aw
 have bE : (decide (((textV v).1) = ((textV u).1))) = true := decide_eq_true (congrArg Prod.fst hal2)
 have eR := oT bE
 have bF : (decide (((textV v).2) = ((textV u).2))) = true := decide_eq_true (congrArg Prod.snd hal2)
 have eS := oT bF
 have bG : (decide (((indexV v).1) = ((indexV u).1))) = true := decide_eq_true (congrArg Prod.fst hal3)
 have eT := oT bG
 refine wp_g0 (.replicate 29 true) [] 98
   [vT, vT, ve (vv v Av cv Bv dv), vT, ve (vv u Au cu Bu du), vT, vT, vT, vT, ve (sv aL ((textV v).1) au), ve (sv aO ((textV u).1) av), vT, vT, vT, ve (iv ((textV v).2)), ve (iv ((textV u).2)), vT, vT, vT, ve (iv ((indexV v).1)), ve (iv ((indexV u).1)), vT, vT, vT, ve (iv ((indexV v).2)), ve (iv ((indexV u).2)), ve (.bool (decide (((indexV v).2) = ((indexV u).2)))), ve (.bool (decide (((indexV v).2) = ((indexV u).2)))), ve (.bool (decide (((indexV v).2) = ((indexV u).2))))] aG (.eq (.eq (.eq (.eq (.eq (.eq (.eq (.eq (.eq (.eq (.eq (.eq (.eq (.eq (.eq (.eq (.eq (.eq (.eq (.eq (.eq (.eq (.eq (.eq (.eq (.eq (.eq (.eq (.eq (.nil)))))))))))))))))))))))))))))) ?_ ?_
 exact .o1 (ck rfl rfl rfl (fun _ w hn k => ⟨#[], rfl, fun _ => by kernel_rfl, first_c _⟩) fun _ => rfl) <| .m (fun k => k.eq1 0 70 rfl) <| .g (fun k => k.eq1 1 71 rfl) (fun _ w hn k => ⟨_, v_load rfl (k.fx 3 bZ) (l_agg Tryd.isAgg29 Tryd.sizeOf29 (bA.new_ hn) rfl), rfl⟩) <| .o1 (cg rfl rfl rfl (fun _ _ k => k.eq1 1 71 rfl) rfl (fun _ w hn k => ⟨#[vv v Av cv Bv dv], args1 (k.eq1 2 72 rfl), fun _ => by kernel_rfl, cbool_c v _ _ _ _ _ (hmv.new_ (ad.transNew hn)) (hsv.new_ (ad.transNew hn))⟩) fun _ => congrArg Value.bool aw) <| .g (fun k => k.eq1 1 71 rfl) (fun _ w hn k => ⟨_, v_load rfl (k.fx 4 b0) (l_agg Tryd.isAgg29 Tryd.sizeOf29 (bz.new_ hn) rfl), rfl⟩) <| .o1 (cg rfl rfl rfl (fun _ _ k => k.eq1 1 71 rfl) rfl (fun _ w hn k => ⟨#[vv u Au cu Bu du], args1 (k.eq1 4 74 rfl), fun _ => by kernel_rfl, cbool_c u _ _ _ _ _ (hmu.new_ (ad.transNew hn)) (hsu.new_ (ad.transNew hn))⟩) fun _ => congrArg Value.bool cB) <| .g (fun k => k.eq1 1 71 rfl) (fun _ w hn k => ⟨_, v_bin rfl (k.eq1 3 73 rfl) (k.eq1 5 75 rfl) (fun _ => rfl) (fun w => by kernel_rfl), rfl⟩) <| .t (fun _ w hn k => ⟨_, v_pickT rfl (k.eq1 1 71 rfl) (k.eq1 6 76 rfl), rfl⟩) <| .m (fun k => k.eq1 7 77 rfl) <| .gm (fun k => k.eq1 8 78 rfl) (fun k => k.fx 7 b1) <| .gm (fun k => k.eq1 8 78 rfl) (fun k => k.fx 9 b3) <| .o1 (cg rfl rfl rfl (fun _ _ k => k.eq1 8 78 rfl) rfl (fun _ w hn k => ⟨#[sv aL ((textV v).1) au, sv aO ((textV u).1) av], args2 (k.eq1 9 79 rfl) (k.eq1 10 80 rfl), fun _ => by kernel_rfl, rlist16_c _ ((textV v).1) _ _ ((textV u).1) _ _ (bB.new_ hn) (bC.new_ hn)⟩) fun _ => congrArg Value.bool bE) <| .t (fun _ w hn k => ⟨_, v_pickT rfl (k.eq1 8 78 rfl) (k.eq1 11 81 rfl), rfl⟩) <| .m (fun k => k.eq1 12 82 rfl) <| .gm (fun k => k.eq1 13 83 rfl) (fun k => k.fx 8 b2) <| .gm (fun k => k.eq1 13 83 rfl) (fun k => k.fx 10 b4) <| .g (fun k => k.eq1 13 83 rfl) (fun _ w hn k => ⟨_, v_bin rfl (k.eq1 14 84 rfl) (k.eq1 15 85 rfl) (fun _ => rfl) (r_eql bF), rfl⟩) <| .t (fun _ w hn k => ⟨_, v_pickT rfl (k.eq1 13 83 rfl) (k.eq1 16 86 rfl), rfl⟩) <| .m (fun k => k.eq1 17 87 rfl) <| .gm (fun k => k.eq1 18 88 rfl) (fun k => k.fx 11 b5) <| .gm (fun k => k.eq1 18 88 rfl) (fun k => k.fx 13 b7) <| .g (fun k => k.eq1 18 88 rfl) (fun _ w hn k => ⟨_, v_bin rfl (k.eq1 19 89 rfl) (k.eq1 20 90 rfl) (fun _ => rfl) (r_eql bG), rfl⟩) <| .t (fun _ w hn k => ⟨_, v_pickT rfl (k.eq1 18 88 rfl) (k.eq1 21 91 rfl), rfl⟩) <| .m (fun k => k.eq1 22 92 rfl) <| .gm (fun k => k.eq1 23 93 rfl) (fun k => k.fx 12 b6) <| .gm (fun k => k.eq1 23 93 rfl) (fun k => k.fx 14 b8) <| .g (fun k => k.eq1 23 93 rfl) (fun _ w hn k => ⟨_, v_bin rfl (k.eq1 24 94 rfl) (k.eq1 25 95 rfl) (fun _ => rfl) (r_eql rfl), rfl⟩) <| .t (fun _ w hn k => ⟨_, v_pickT rfl (k.eq1 23 93 rfl) (k.eq1 26 96 rfl), rfl⟩) <| .a (fun k => k.eq1 27 97 rfl) .nil
 refine aftI aG bx ad fun fD fE eX cC cD eY cE => ?_
 have d1 := cE.ge 28 6 rfl
 refine st_nil (bD _ _ ?_)
 refine wp_ret (ret_k cC (v := .bool (decide (((indexV v).2) = ((indexV u).2)))) (res_t rfl d1 _) ?_)
 exact ⟨congrArg (fun b => Ending.returned (.bool b)) (show (decide (((indexV v).2) = ((indexV u).2))) = true from decide_eq_true (congrArg Prod.snd hal3)), cD⟩
 have cF : (boolV u) = false := hal1.symm.trans aw
 have bH : (decide (((textV v).1) = ((textV u).1))) = true := decide_eq_true (congrArg Prod.fst hal2)
 have eU := oT bH
 have bI : (decide (((textV v).2) = ((textV u).2))) = true := decide_eq_true (congrArg Prod.snd hal2)
 have eV := oT bI
 have bJ : (decide (((indexV v).1) = ((indexV u).1))) = true := decide_eq_true (congrArg Prod.fst hal3)
 have eW := oT bJ
 refine wp_g0 (.replicate 29 true) [] 98
   [vT, vT, ve (vv v Av cv Bv dv), vF, ve (vv u Au cu Bu du), vF, vT, vT, vT, ve (sv aL ((textV v).1) au), ve (sv aO ((textV u).1) av), vT, vT, vT, ve (iv ((textV v).2)), ve (iv ((textV u).2)), vT, vT, vT, ve (iv ((indexV v).1)), ve (iv ((indexV u).1)), vT, vT, vT, ve (iv ((indexV v).2)), ve (iv ((indexV u).2)), ve (.bool (decide (((indexV v).2) = ((indexV u).2)))), ve (.bool (decide (((indexV v).2) = ((indexV u).2)))), ve (.bool (decide (((indexV v).2) = ((indexV u).2))))] aG (.eq (.eq (.eq (.eq (.eq (.eq (.eq (.eq (.eq (.eq (.eq (.eq (.eq (.eq (.eq (.eq (.eq (.eq (.eq (.eq (.eq (.eq (.eq (.eq (.eq (.eq (.eq (.eq (.eq (.nil)))))))))))))))))))))))))))))) ?_ ?_
 exact .o1 (ck rfl rfl rfl (fun _ w hn k => ⟨#[], rfl, fun _ => by kernel_rfl, first_c _⟩) fun _ => rfl) <| .m (fun k => k.eq1 0 70 rfl) <| .g (fun k => k.eq1 1 71 rfl) (fun _ w hn k => ⟨_, v_load rfl (k.fx 3 bZ) (l_agg Tryd.isAgg29 Tryd.sizeOf29 (bA.new_ hn) rfl), rfl⟩) <| .o1 (cg rfl rfl rfl (fun _ _ k => k.eq1 1 71 rfl) rfl (fun _ w hn k => ⟨#[vv v Av cv Bv dv], args1 (k.eq1 2 72 rfl), fun _ => by kernel_rfl, cbool_c v _ _ _ _ _ (hmv.new_ (ad.transNew hn)) (hsv.new_ (ad.transNew hn))⟩) fun _ => congrArg Value.bool aw) <| .g (fun k => k.eq1 1 71 rfl) (fun _ w hn k => ⟨_, v_load rfl (k.fx 4 b0) (l_agg Tryd.isAgg29 Tryd.sizeOf29 (bz.new_ hn) rfl), rfl⟩) <| .o1 (cg rfl rfl rfl (fun _ _ k => k.eq1 1 71 rfl) rfl (fun _ w hn k => ⟨#[vv u Au cu Bu du], args1 (k.eq1 4 74 rfl), fun _ => by kernel_rfl, cbool_c u _ _ _ _ _ (hmu.new_ (ad.transNew hn)) (hsu.new_ (ad.transNew hn))⟩) fun _ => congrArg Value.bool cF) <| .g (fun k => k.eq1 1 71 rfl) (fun _ w hn k => ⟨_, v_bin rfl (k.eq1 3 73 rfl) (k.eq1 5 75 rfl) (fun _ => rfl) (fun w => by kernel_rfl), rfl⟩) <| .t (fun _ w hn k => ⟨_, v_pickT rfl (k.eq1 1 71 rfl) (k.eq1 6 76 rfl), rfl⟩) <| .m (fun k => k.eq1 7 77 rfl) <| .gm (fun k => k.eq1 8 78 rfl) (fun k => k.fx 7 b1) <| .gm (fun k => k.eq1 8 78 rfl) (fun k => k.fx 9 b3) <| .o1 (cg rfl rfl rfl (fun _ _ k => k.eq1 8 78 rfl) rfl (fun _ w hn k => ⟨#[sv aL ((textV v).1) au, sv aO ((textV u).1) av], args2 (k.eq1 9 79 rfl) (k.eq1 10 80 rfl), fun _ => by kernel_rfl, rlist16_c _ ((textV v).1) _ _ ((textV u).1) _ _ (bB.new_ hn) (bC.new_ hn)⟩) fun _ => congrArg Value.bool bH) <| .t (fun _ w hn k => ⟨_, v_pickT rfl (k.eq1 8 78 rfl) (k.eq1 11 81 rfl), rfl⟩) <| .m (fun k => k.eq1 12 82 rfl) <| .gm (fun k => k.eq1 13 83 rfl) (fun k => k.fx 8 b2) <| .gm (fun k => k.eq1 13 83 rfl) (fun k => k.fx 10 b4) <| .g (fun k => k.eq1 13 83 rfl) (fun _ w hn k => ⟨_, v_bin rfl (k.eq1 14 84 rfl) (k.eq1 15 85 rfl) (fun _ => rfl) (r_eql bI), rfl⟩) <| .t (fun _ w hn k => ⟨_, v_pickT rfl (k.eq1 13 83 rfl) (k.eq1 16 86 rfl), rfl⟩) <| .m (fun k => k.eq1 17 87 rfl) <| .gm (fun k => k.eq1 18 88 rfl) (fun k => k.fx 11 b5) <| .gm (fun k => k.eq1 18 88 rfl) (fun k => k.fx 13 b7) <| .g (fun k => k.eq1 18 88 rfl) (fun _ w hn k => ⟨_, v_bin rfl (k.eq1 19 89 rfl) (k.eq1 20 90 rfl) (fun _ => rfl) (r_eql bJ), rfl⟩) <| .t (fun _ w hn k => ⟨_, v_pickT rfl (k.eq1 18 88 rfl) (k.eq1 21 91 rfl), rfl⟩) <| .m (fun k => k.eq1 22 92 rfl) <| .gm (fun k => k.eq1 23 93 rfl) (fun k => k.fx 12 b6) <| .gm (fun k => k.eq1 23 93 rfl) (fun k => k.fx 14 b8) <| .g (fun k => k.eq1 23 93 rfl) (fun _ w hn k => ⟨_, v_bin rfl (k.eq1 24 94 rfl) (k.eq1 25 95 rfl) (fun _ => rfl) (r_eql rfl), rfl⟩) <| .t (fun _ w hn k => ⟨_, v_pickT rfl (k.eq1 23 93 rfl) (k.eq1 26 96 rfl), rfl⟩) <| .a (fun k => k.eq1 27 97 rfl) .nil
 refine aftI aG bx ad fun fF fG eZ cG cH e0 cI => ?_
 have d2 := cI.ge 28 6 rfl
 refine st_nil (bD _ _ ?_)
 refine wp_ret (ret_k cG (v := .bool (decide (((indexV v).2) = ((indexV u).2)))) (res_t rfl d2 _) ?_)
 exact ⟨congrArg (fun b => Ending.returned (.bool b)) (show (decide (((indexV v).2) = ((indexV u).2))) = true from decide_eq_true (congrArg Prod.snd hal3)), cH⟩
 have cJ : bT.eval (.tmp 48) = .bool true := bV.trans (congrArg Value.bool (by rw [aC]; rfl))
 refine wp_cond_true cJ ?_
 refine wp_seq_k fun fH cK => ?_
 refine wp_g0 [true, true] [] 98
   [vT, vT] aB (.eq (.eq (.nil))) ?_ ?_
 exact .o1 (ck rfl rfl rfl (fun _ w hn k => ⟨#[], rfl, fun _ => by kernel_rfl, first_c _⟩) fun _ => rfl) <| .a (fun k => k.eq1 0 49 rfl) .nil
 refine aftI aB bn ar fun fI fJ e1 cL cM e2 cN => ?_
 have d3 := cN.ge 1 6 rfl
 refine st_nil (cK _ _ ?_)
 refine wp_ret (ret_k cL (v := .bool true) (res_t rfl d3 _) ?_)
 exact ⟨rfl, cM⟩
 intro fK a3
 have hvv : VOk v := few_ok (v := v) (by first | exact aj | simpa using aj) hlv huv hbv.1 hbv.2.1 hbv.2.2.1 hbv.2.2.2
 have hvu : VOk u := few_ok (v := u) (by first | exact ap | simpa using ap) hlu huu hbu.1 hbu.2.1 hbu.2.2.1 hbu.2.2.2
 have hvx : VOk x := few_ok (v := x) (by first | exact ai | simpa using ai) hlx hux hbx.1 hbx.2.1 hbx.2.2.1 hbx.2.2.2
 rcases bc (strictV v u) with ax | ax
 rcases bc (strictV u x) with aI | aI
 refine wp_g0 (.replicate 14 true) [] 98
   [ve (vv v Av cv Bv dv), ve (vv u Au cu Bu du), vT, vT, ve (vv u Au cu Bu du), ve (vv x Ax cx Bx dx), vT, vT, vT, ve (vv v Av cv Bv dv), ve (vv x Ax cx Bx dx), ve (.bool (strictV v x)), ve (.bool (!(strictV v x))), ve (.bool (!(strictV v x)))] ak (.eq (.eq (.eq (.eq (.eq (.eq (.eq (.eq (.eq (.eq (.eq (.eq (.eq (.eq (.nil))))))))))))))) ?_ ?_
 exact .t (fun _ w hn k => ⟨_, v_load rfl (k.fx 3 aK) (l_agg Tryd.isAgg29 Tryd.sizeOf29 (ah.new_ hn) rfl), rfl⟩) <| .t (fun _ w hn k => ⟨_, v_load rfl (k.fx 4 aA) (l_agg Tryd.isAgg29 Tryd.sizeOf29 (af.new_ hn) rfl), rfl⟩) <| .o1 (ck rfl rfl rfl (fun _ w hn k => ⟨#[vv v Av cv Bv dv, vv u Au cu Bu du], args2 (k.eq1 0 31 rfl) (k.eq1 1 32 rfl), fun _ => by kernel_rfl, cstrict_c v _ _ _ _ u _ _ _ _ _ (hmv.new_ (ab.transNew hn)) (hsv.new_ (ab.transNew hn)) (hmu.new_ (ab.transNew hn)) (hsu.new_ (ab.transNew hn))⟩) fun _ => congrArg Value.bool ax) <| .m (fun k => k.eq1 2 33 rfl) <| .g (fun k => k.eq1 3 34 rfl) (fun _ w hn k => ⟨_, v_load rfl (k.fx 4 aA) (l_agg Tryd.isAgg29 Tryd.sizeOf29 (af.new_ hn) rfl), rfl⟩) <| .g (fun k => k.eq1 3 34 rfl) (fun _ w hn k => ⟨_, v_load rfl (k.fx 5 bQ) (l_agg Tryd.isAgg29 Tryd.sizeOf29 (aW.new_ hn) rfl), rfl⟩) <| .o1 (cg rfl rfl rfl (fun _ _ k => k.eq1 3 34 rfl) rfl (fun _ w hn k => ⟨#[vv u Au cu Bu du, vv x Ax cx Bx dx], args2 (k.eq1 4 35 rfl) (k.eq1 5 36 rfl), fun _ => by kernel_rfl, cstrict_c u _ _ _ _ x _ _ _ _ _ (hmu.new_ (ab.transNew hn)) (hsu.new_ (ab.transNew hn)) (hmx.new_ (ab.transNew hn)) (hsx.new_ (ab.transNew hn))⟩) fun _ => congrArg Value.bool aI) <| .t (fun _ w hn k => ⟨_, v_pickT rfl (k.eq1 3 34 rfl) (k.eq1 6 37 rfl), rfl⟩) <| .m (fun k => k.eq1 7 38 rfl) <| .g (fun k => k.eq1 8 39 rfl) (fun _ w hn k => ⟨_, v_load rfl (k.fx 3 aK) (l_agg Tryd.isAgg29 Tryd.sizeOf29 (ah.new_ hn) rfl), rfl⟩) <| .g (fun k => k.eq1 8 39 rfl) (fun _ w hn k => ⟨_, v_load rfl (k.fx 5 bQ) (l_agg Tryd.isAgg29 Tryd.sizeOf29 (aW.new_ hn) rfl), rfl⟩) <| .o1 (cg rfl rfl rfl (fun _ _ k => k.eq1 8 39 rfl) rfl (fun _ w hn k => ⟨#[vv v Av cv Bv dv, vv x Ax cx Bx dx], args2 (k.eq1 9 40 rfl) (k.eq1 10 41 rfl), fun _ => by kernel_rfl, cstrict_c v _ _ _ _ x _ _ _ _ _ (hmv.new_ (ab.transNew hn)) (hsv.new_ (ab.transNew hn)) (hmx.new_ (ab.transNew hn)) (hsx.new_ (ab.transNew hn))⟩) fun _ => rfl) <| .g (fun k => k.eq1 8 39 rfl) (fun _ w hn k => ⟨_, v_not rfl (k.eq1 11 42 rfl), rfl⟩) <| .t (fun _ w hn k => ⟨_, v_pickT rfl (k.eq1 8 39 rfl) (k.eq1 12 43 rfl), rfl⟩) .nil
 refine aftI ak aU ab fun fL fM cO cP cQ bK a4 => ?_
 have d4 := a4.fx 3 aK
 have d5 := a4.fx 4 aA
 have d6 := a4.ge 13 44 rfl
 have cR := ah.new_ bK
 have cS := af.new_ bK
 refine st_nil ?_
 exact a3 _ _ ⟨cO, cP, cQ, (d6.trans (congrArg Value.bool (by rw [show (strictV v x) = true from strict_trans ax aI]; rfl))), d4, d5, cS, cR⟩
 refine wp_g0 (.replicate 14 true) [] 98
   [ve (vv v Av cv Bv dv), ve (vv u Au cu Bu du), vT, vT, ve (vv u Au cu Bu du), ve (vv x Ax cx Bx dx), vF, vF, vF, vU, vU, vU, vU, vF] ak (.eq (.eq (.eq (.eq (.eq (.eq (.eq (.eq (.eq (.eq (.eq (.eq (.eq (.eq (.nil))))))))))))))) ?_ ?_
 exact .t (fun _ w hn k => ⟨_, v_load rfl (k.fx 3 aK) (l_agg Tryd.isAgg29 Tryd.sizeOf29 (ah.new_ hn) rfl), rfl⟩) <| .t (fun _ w hn k => ⟨_, v_load rfl (k.fx 4 aA) (l_agg Tryd.isAgg29 Tryd.sizeOf29 (af.new_ hn) rfl), rfl⟩) <| .o1 (ck rfl rfl rfl (fun _ w hn k => ⟨#[vv v Av cv Bv dv, vv u Au cu Bu du], args2 (k.eq1 0 31 rfl) (k.eq1 1 32 rfl), fun _ => by kernel_rfl, cstrict_c v _ _ _ _ u _ _ _ _ _ (hmv.new_ (ab.transNew hn)) (hsv.new_ (ab.transNew hn)) (hmu.new_ (ab.transNew hn)) (hsu.new_ (ab.transNew hn))⟩) fun _ => congrArg Value.bool ax) <| .m (fun k => k.eq1 2 33 rfl) <| .g (fun k => k.eq1 3 34 rfl) (fun _ w hn k => ⟨_, v_load rfl (k.fx 4 aA) (l_agg Tryd.isAgg29 Tryd.sizeOf29 (af.new_ hn) rfl), rfl⟩) <| .g (fun k => k.eq1 3 34 rfl) (fun _ w hn k => ⟨_, v_load rfl (k.fx 5 bQ) (l_agg Tryd.isAgg29 Tryd.sizeOf29 (aW.new_ hn) rfl), rfl⟩) <| .o1 (cg rfl rfl rfl (fun _ _ k => k.eq1 3 34 rfl) rfl (fun _ w hn k => ⟨#[vv u Au cu Bu du, vv x Ax cx Bx dx], args2 (k.eq1 4 35 rfl) (k.eq1 5 36 rfl), fun _ => by kernel_rfl, cstrict_c u _ _ _ _ x _ _ _ _ _ (hmu.new_ (ab.transNew hn)) (hsu.new_ (ab.transNew hn)) (hmx.new_ (ab.transNew hn)) (hsx.new_ (ab.transNew hn))⟩) fun _ => congrArg Value.bool aI) <| .t (fun _ w hn k => ⟨_, v_pickT rfl (k.eq1 3 34 rfl) (k.eq1 6 37 rfl), rfl⟩) <| .m (fun k => k.eq1 7 38 rfl) <| .s (fun k => k.eq1 8 39 rfl) <| .s (fun k => k.eq1 8 39 rfl) <| .s (fun k => k.eq1 8 39 rfl) <| .s (fun k => k.eq1 8 39 rfl) <| .t (fun _ w hn k => ⟨_, v_pickF rfl (k.eq1 8 39 rfl) rfl, rfl⟩) .nil
 refine aftI ak aU ab fun fN fO cT cU cV bL a5 => ?_
 have d7 := a5.fx 3 aK
 have d8 := a5.fx 4 aA
 have d9 := a5.ge 13 44 rfl
 have cW := ah.new_ bL
 have cX := af.new_ bL
 refine st_nil ?_
 exact a3 _ _ ⟨cT, cU, cV, d9, d7, d8, cX, cW⟩
 refine wp_g0 (.replicate 14 true) [] 98
   [ve (vv v Av cv Bv dv), ve (vv u Au cu Bu du), vF, vF, vU, vU, vU, vF, vF, vU, vU, vU, vU, vF] ak (.eq (.eq (.eq (.eq (.eq (.eq (.eq (.eq (.eq (.eq (.eq (.eq (.eq (.eq (.nil))))))))))))))) ?_ ?_
 exact .t (fun _ w hn k => ⟨_, v_load rfl (k.fx 3 aK) (l_agg Tryd.isAgg29 Tryd.sizeOf29 (ah.new_ hn) rfl), rfl⟩) <| .t (fun _ w hn k => ⟨_, v_load rfl (k.fx 4 aA) (l_agg Tryd.isAgg29 Tryd.sizeOf29 (af.new_ hn) rfl), rfl⟩) <| .o1 (ck rfl rfl rfl (fun _ w hn k => ⟨#[vv v Av cv Bv dv, vv u Au cu Bu du], args2 (k.eq1 0 31 rfl) (k.eq1 1 32 rfl), fun _ => by kernel_rfl, cstrict_c v _ _ _ _ u _ _ _ _ _ (hmv.new_ (ab.transNew hn)) (hsv.new_ (ab.transNew hn)) (hmu.new_ (ab.transNew hn)) (hsu.new_ (ab.transNew hn))⟩) fun _ => congrArg Value.bool ax) <| .m (fun k => k.eq1 2 33 rfl) <| .s (fun k => k.eq1 3 34 rfl) <| .s (fun k => k.eq1 3 34 rfl) <| .s (fun k => k.eq1 3 34 rfl) <| .t (fun _ w hn k => ⟨_, v_pickF rfl (k.eq1 3 34 rfl) rfl, rfl⟩) <| .m (fun k => k.eq1 7 38 rfl) <| .s (fun k => k.eq1 8 39 rfl) <| .s (fun k => k.eq1 8 39 rfl) <| .s (fun k => k.eq1 8 39 rfl) <| .s (fun k => k.eq1 8 39 rfl) <| .t (fun _ w hn k => ⟨_, v_pickF rfl (k.eq1 8 39 rfl) rfl, rfl⟩) .nil
 refine aftI ak aU ab fun fP fQ cY cZ c0 bM a6 => ?_
 have ea := a6.fx 3 aK
 have eb := a6.fx 4 aA
 have ec := a6.ge 13 44 rfl
 have c1 := ah.new_ bM
 have c3 := af.new_ bM
 refine st_nil ?_
 exact a3 _ _ ⟨cY, cZ, c0, ec, ea, eb, c3, c1⟩
 have c5 : dd.eval (.tmp 29) = .bool true := de.trans (congrArg Value.bool (by rw [ai]; rfl))
 refine wp_cond_true c5 ?_
 refine wp_seq_k fun fR c7 => ?_
 refine wp_g0 [true, true] [] 98
   [vT, vT] ak (.eq (.eq (.nil))) ?_ ?_
 exact .o1 (ck rfl rfl rfl (fun _ w hn k => ⟨#[], rfl, fun _ => by kernel_rfl, first_c _⟩) fun _ => rfl) <| .a (fun k => k.eq1 0 30 rfl) .nil
 refine aftI ak aU ab fun fS fT e3 c8 c9 e4 da => ?_
 have ed := da.ge 1 6 rfl
 refine st_nil (c7 _ _ ?_)
 refine wp_ret (ret_k c8 (v := .bool true) (res_t rfl ed _) ?_)
 exact ⟨rfl, c9⟩
end Go.Proofs.YtecgdgjlmlpcnaaDoor
