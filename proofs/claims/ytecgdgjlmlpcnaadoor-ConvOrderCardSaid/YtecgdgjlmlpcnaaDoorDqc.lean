import Derived.Test.YtecgdgjlmlpcnaaDoorDqb
namespace Go.Proofs.YtecgdgjlmlpcnaaDoor
open Go.RowKit
set_option linter.unusedSimpArgs false
set_option linter.unusedVariables false
set_option maxHeartbeats 16000000
set_option maxRecDepth 100000
theorem cnumber_c (v : Vl) (Av : Option Addr) (cv : Nat) (Bv : Option Addr) (dv : Nat) (w : World) (hmv : SRow w .u32 Av v.mag cv) (hsv : SRow w .u16 Bv v.s dv) (hvv : VOk v) : Calls Tryd.prog 12 #[vv v Av cv Bv dv] w (IsRet (.tuple #[nv ((numberV v).1), iv ((numberV v).2)]) w) := by
 refine enter_abs Tryd.func12 rfl fun a0 aY gf hp => ?_
 have aY : a0.tmps.size = 37 := aY
 have bG : New w w := Upd.refl _ _
 have hp0 : a0.eval (.tmp 0) = vv v Av cv Bv dv := hp 0 _ rfl
 refine wp_seq_k fun K1 gg => ?_
 refine wp_g [true, true, true] [] [] 37
   [IsNew w 29 [iv v.k, iv v.nk, iv v.nn, .bool v.neg, sv Av v.mag cv, sv Bv v.s dv, iv v.ref], IsNew w 23 [iv 0, iv 0], ve (iv 0)]
   [0, 1] (newsCons (fun v w h => IsNew.old h) (newsCons (fun v w h => IsNew.old h) newsNil)) aY (.nw (.nw (.eq (.nil)))) ?_ (fun i h => by cases h) ?_
 exact .o2 (step_allocN (cs := [iv v.k, iv v.nk, iv v.nn, .bool v.neg, sv Av v.mag cv, sv Bv v.s dv, iv v.ref]) (t := 29) rfl (noG rfl) (fun _ w hn k => v_box rfl (k.fx 0 hp0) (fun w => rfl)) (fun q _ hq hb => ⟨q, rfl, hq, hb⟩)) <| .o2 (step_allocN (cs := [iv 0, iv 0]) (t := 23) rfl (noG rfl) (fun _ w hn k => rfl) (fun q _ hq hb => ⟨q, rfl, hq, hb⟩)) <| .t (fun _ w hn k => ⟨_, v_assign rfl rfl, rfl⟩) .nil
 refine aftI aY gf bG fun a2 w3 eW gh aS hO bH => ?_
 obtain ⟨q9, h8, e6, bI⟩ : IsNew _ _ _ _ _ := bH.got 0 1 rfl (by kernel_rfl)
 obtain ⟨eX, eY, e7, e8⟩ : IsNew _ _ _ _ _ := bH.got 1 2 rfl (by kernel_rfl)
 have hne16 : q9 ≠ eX := bH.ne 0 1 1 2 h8 eY
 have gF := Nat.le_trans bG.size e6
 have gG := Nat.le_trans bG.size e7
 refine st_nil (gg _ _ (wp_seq_k fun hP e9 => ?_))
 refine wp_g0 [true, true, false] [(2, false)] 37
   [ve (vv v Av cv Bv dv),
    (VP (cleanV v)), vt] eW (.eq (.cons (fun v W W' hn ⟨A5, c6, A7, c8, he, h0, h1⟩ => ⟨A5, c6, A7, c8, he, h0.new_ hn, h1.new_ hn⟩) (.tt (.nil)))) ?_ ?_
 refine .t (fun _ w hn k => ⟨_, v_load rfl (k.fx 1 h8) (l_agg Tryd.isAgg29 Tryd.sizeOf29 (bI.new_ hn) rfl), rfl⟩) ?_
 refine .o1 (tkC rfl (noG rfl) rfl fun _ w hn k => (by
       refine ⟨#[vv v Av cv Bv dv], _, args1 (k.eq1 0 6 rfl), fun w => by kernel_rfl, clean_c v _ _ _ _ _ (hmv.new_ (aS.transNew hn)) (hsv.new_ (aS.transNew hn)), ?_⟩
       rintro e w' ⟨A1, c2, A3, c4, rfl, hmo0, hmo1, hm⟩
       exact ⟨_, rfl, hm, ⟨A1, c2, A3, c4, rfl, hmo0, hmo1⟩⟩)) ?_
 exact .off .nil
 refine aftI eW gh aS fun gi hQ bJ fa fb bK aT => ?_
 have bL := aT.fx 1 h8
 have gj := aT.fx 2 eY
 obtain ⟨bM, aU, aR, aI, bN, fc, fd⟩ : (VP (cleanV v)) _ _ := aT.got 1 7 rfl (by kernel_rfl)
 have bN : gi.eval (.tmp 7) = vv (cleanV v) bM aU aR aI := bN
 have aV := bI.new_ bK
 have fe := e8.new_ bK
 obtain ⟨gk, cU, cV, aW, ff⟩ := s_many (P := Tryd.prog) (t := 29) (i := 0) [iv ((cleanV v).k), iv ((cleanV v).nk), iv ((cleanV v).nn), .bool ((cleanV v).neg), sv bM ((cleanV v).mag) aU, sv aR ((cleanV v).s) aI, iv ((cleanV v).ref)] Tryd.sizeOf29 rfl rfl rfl aV lb
 have bO : Blk gk q9 29 [iv ((cleanV v).k), iv ((cleanV v).nk), iv ((cleanV v).nn), .bool ((cleanV v).neg), sv bM ((cleanV v).mag) aU, sv aR ((cleanV v).s) aI, iv ((cleanV v).ref)] := cV
 refine st_act rfl rfl fun hR fg => a_store' rfl bL bN cU (fg _ _ trivial ?_)
 have fh := fc.far aV aW (by first | rfl | decide | simp [notK])
 have fi := fd.far aV aW (by first | rfl | decide | simp [notK])
 have fj := ff _ _ _ (fun h => hne16 h.symm) fe
 have fk := fb.trans aW (fun _ h b => by subst b; omega)
 refine st_nil (e9 _ _ (wp_seq_k fun hS bP => ?_))
 refine wp_seq_k fun hT fl => ?_
 refine wp_g0 [true, true] [] 37
   [ve (pv q9), ve (iv ((cleanV v).k))] bJ (.eq (.eq (.nil))) ?_ ?_
 exact .f (fun k => k.fx 1 bL) <| .t (fun _ w hn k => ⟨_, v_load rfl (k.eq1 0 8 rfl) (l_one Tryd.isAgg3 ((bO.new_ hn).cell 0)), rfl⟩) .nil
 refine aftI bJ fa fk fun hU hV bQ fm fn aJ aX => ?_
 have gl := aX.fx 1 bL
 have gm := aX.fx 2 gj
 have eZ := aX.ge 1 9 rfl
 have fo := bO.new_ aJ
 have fp := fj.new_ aJ
 have fq := fh.new_ aJ
 have fr := fi.new_ aJ
 refine st_nil (fl _ _ ?_)
 refine wp_block ?_
 refine wp_seq_k fun hW fs => ?_
 refine wp_g0 [true, true] [] 37
   [ve (.bool (decide (((cleanV v).k) = 0))), ve (.bool (decide (((cleanV v).k) = 0)))] bQ (.eq (.eq (.nil))) ?_ ?_
 exact .t (fun _ w hn k => ⟨_, v_bin rfl (k.fx 9 eZ) rfl (fun _ => rfl) (r_eql rfl), rfl⟩) <| .a (fun k => k.eq1 0 11 rfl) .nil
 refine aftI bQ fm fn fun hX hY aK bR bS aL aM => ?_
 have gn := aM.fx 1 gl
 have e0 := aM.fx 2 gm
 have e1 := aM.fx 9 eZ
 have e2 := aM.ge 1 10 rfl
 have ft := fo.new_ aL
 have bT := fp.new_ aL
 have fu := fq.new_ aL
 have fv := fr.new_ aL
 refine st_nil (fs _ _ ?_)
 rcases bc (decide (((cleanV v).k) = 0)) with ac | ac
 have cW := oT ac
 have fw := hB e2 ac
 refine wp_cond_true fw ?_
 refine wp_seq_k fun hZ fy => ?_
 refine wp_g0 [true, false, false] [(1, false), (2, true)] 37
   [ve (nv (Nm.mk 2 0)), vt, vt] aK (.eq (.tt (.tt (.nil)))) ?_ ?_
 exact .t (fun _ w hn k => ⟨_, v_build (ps := [(0, iv 2)]) rfl (parts1 rfl) (by kernel_rfl), rfl⟩) <| .off <| .off .nil
 refine aftI aK bR bS fun e3 h3 bU fz fA fB bV => ?_
 have e4 := bV.fx 2 e0
 have e5 := bV.ge 0 12 rfl
 have fC := bT.new_ fB
 obtain ⟨h4, -, cX, fD, fE, gH⟩ := s_two (v0 := iv 2) (v1 := iv 0) Tryd.sizeOf23 rfl rfl rfl fC
 refine st_act rfl rfl fun gI cY => a_store' rfl e4 e5 cX (cY _ _ trivial ?_)
 have cZ := fA.trans fE (fun _ h b => by subst b; omega)
 refine st_take rfl rfl (y_assign (v := iv 0) rfl rfl) rfl ?_
 obtain ⟨fF, ah⟩ : ∃ a', a' = e3.put (some 3) (iv 0) := ⟨_, rfl⟩
 have go := pz ah bU
 have c0 := pd ah fz
 have fG := pn ah e4 (by decide)
 have gJ := pn ah e5 (by decide)
 have fH : fF.eval (.tmp 3) = iv 0 := by rw [ah]; exact put_same _ _ _ (by rw [bU]; decide)
 show stepsTo _ _ _ _ _ (e3.put (some 3) (iv 0)) _
 rw [← ah]
 refine st_nil (fy _ _ ?_)
 refine wp_ret (ret_k c0 (v := .tuple #[nv (Nm.mk 2 0), iv 0]) (res_ct rfl fG fH (l_two Tryd.isAgg23 Tryd.sizeOf23 fD)) ?_)
 refine ⟨?_, cZ⟩
 show Ending.returned (.tuple #[nv (Nm.mk 2 0), iv 0]) = Ending.returned (.tuple #[nv ((numberV v).1), iv ((numberV v).2)])
 first | rfl | (simp only [numberV, ac, bsm] <;> rfl) | (exfalso; omega)
 have cW := oF ac
 have c1 := hB e2 ac
 refine wp_cond_false c1 ?_
 refine wp_seq_k fun gK aZ => ?_
 refine wp_seq_k fun gL c3 => ?_
 refine wp_g0 [true, true] [] 37
   [ve (.bool (decide (((cleanV v).k) = 1))), ve (.bool (decide (((cleanV v).k) = 1)))] aK (.eq (.eq (.nil))) ?_ ?_
 exact .t (fun _ w hn k => ⟨_, v_bin rfl (k.fx 9 e1) rfl (fun _ => rfl) (r_eql rfl), rfl⟩) <| .a (fun k => k.eq1 0 14 rfl) .nil
 refine aftI aK bR bS fun gM gN aq a1 a3 ar au => ?_
 have bW := au.fx 1 gn
 have bX := au.fx 2 e0
 have bY := au.fx 9 e1
 have bZ := au.ge 1 13 rfl
 have a4 := ft.new_ ar
 have a5 := bT.new_ ar
 have c5 := fu.new_ ar
 have c7 := fv.new_ ar
 refine st_nil (c3 _ _ ?_)
 rcases bc (decide (((cleanV v).k) = 1)) with aa | aa
 have b0 := oT aa
 have a6 := hB bZ aa
 refine wp_cond_true a6 ?_
 refine wp_skip ?_
 refine aZ _ _ ?_
 refine wp_cond_true a6 ?_
 refine wp_seq_k fun gO c9 => ?_
 refine wp_g0 [true, true, true, false, false] [(3, false), (4, true)] 37
   [ve (.pointer (some ⟨q9, 6, none⟩)), ve (iv ((cleanV v).ref)), ve (nv (Nm.mk 0 ((cleanV v).ref))), vt, vt] aq (.eq (.eq (.eq (.tt (.tt (.nil)))))) ?_ ?_
 exact .f (fun k => k.fx 1 bW) <| .t (fun _ w hn k => ⟨_, v_load rfl (k.eq1 0 16 rfl) (l_one Tryd.isAgg3 ((a4.new_ hn).cell 6)), rfl⟩) <| .t (fun _ w hn k => ⟨_, v_build (ps := [(1, iv ((cleanV v).ref))]) rfl (parts1 (k.eq1 1 17 rfl)) (by kernel_rfl), rfl⟩) <| .off <| .off .nil
 refine aftI aq a1 a3 fun b1 gP a7 da db dc a8 => ?_
 have b2 := a8.fx 2 bX
 have b3 := a8.ge 2 18 rfl
 have dd := a5.new_ dc
 obtain ⟨gQ, -, b4, de, df, gp⟩ := s_two (v0 := iv 0) (v1 := iv ((cleanV v).ref)) Tryd.sizeOf23 rfl rfl rfl dd
 refine st_act rfl rfl fun gR dg => a_store' rfl b2 b3 b4 (dg _ _ trivial ?_)
 have dh := db.trans df (fun _ h b => by subst b; omega)
 refine st_take rfl rfl (y_assign (v := iv 0) rfl rfl) rfl ?_
 obtain ⟨fI, ai⟩ : ∃ a', a' = b1.put (some 3) (iv 0) := ⟨_, rfl⟩
 have gq := pz ai a7
 have di := pd ai da
 have fJ := pn ai b2 (by decide)
 have gS := pn ai b3 (by decide)
 have fK : fI.eval (.tmp 3) = iv 0 := by rw [ai]; exact put_same _ _ _ (by rw [a7]; decide)
 show stepsTo _ _ _ _ _ (b1.put (some 3) (iv 0)) _
 rw [← ai]
 refine st_nil (c9 _ _ ?_)
 refine wp_ret (ret_k di (v := .tuple #[nv (Nm.mk 0 ((cleanV v).ref)), iv 0]) (res_ct rfl fJ fK (l_two Tryd.isAgg23 Tryd.sizeOf23 de)) ?_)
 refine ⟨?_, dh⟩
 show Ending.returned (.tuple #[nv (Nm.mk 0 ((cleanV v).ref)), iv 0]) = Ending.returned (.tuple #[nv ((numberV v).1), iv ((numberV v).2)])
 first | rfl | (simp only [numberV, ac, aa, bsm] <;> rfl) | (exfalso; omega)
 have b0 := oF aa
 have dj := hB bZ aa
 refine wp_cond_false dj ?_
 refine wp_g0 [true, true] [] 37
   [ve (.bool (decide (((cleanV v).k) = 2))), ve (.bool (decide (((cleanV v).k) = 2)))] aq (.eq (.eq (.nil))) ?_ ?_
 exact .t (fun _ w hn k => ⟨_, v_bin rfl (k.fx 9 bY) rfl (fun _ => rfl) (r_eql rfl), rfl⟩) <| .a (fun k => k.eq1 0 15 rfl) .nil
 refine aftI aq a1 a3 fun gT gU av a9 ba aw ax => ?_
 have b5 := ax.fx 1 bW
 have b6 := ax.fx 2 bX
 have b7 := ax.fx 9 bY
 have b8 := ax.ge 1 13 rfl
 have bb := a4.new_ aw
 have bd := a5.new_ aw
 have dk := c5.new_ aw
 have dl := c7.new_ aw
 refine st_nil (aZ _ _ ?_)
 rcases bc (decide (((cleanV v).k) = 2)) with ab | ab
 have b9 := oT ab
 have dm := hB b8 ab
 refine wp_cond_true dm ?_
 refine wp_seq_k fun gV dn => ?_
 refine wp_g0 [true, true, true, false, false] [(3, false), (4, true)] 37
   [ve (.pointer (some ⟨q9, 6, none⟩)), ve (iv ((cleanV v).ref)), ve (nv (Nm.mk 0 ((cleanV v).ref))), vt, vt] av (.eq (.eq (.eq (.tt (.tt (.nil)))))) ?_ ?_
 exact .f (fun k => k.fx 1 b5) <| .t (fun _ w hn k => ⟨_, v_load rfl (k.eq1 0 16 rfl) (l_one Tryd.isAgg3 ((bb.new_ hn).cell 6)), rfl⟩) <| .t (fun _ w hn k => ⟨_, v_build (ps := [(1, iv ((cleanV v).ref))]) rfl (parts1 (k.eq1 1 17 rfl)) (by kernel_rfl), rfl⟩) <| .off <| .off .nil
 refine aftI av a9 ba fun ca gW be dp dq dr bf => ?_
 have cb := bf.fx 2 b6
 have cc := bf.ge 2 18 rfl
 have ds := bd.new_ dr
 obtain ⟨gX, -, cd, dt, du, gr⟩ := s_two (v0 := iv 0) (v1 := iv ((cleanV v).ref)) Tryd.sizeOf23 rfl rfl rfl ds
 refine st_act rfl rfl fun gY dw => a_store' rfl cb cc cd (dw _ _ trivial ?_)
 have dx := dq.trans du (fun _ h b => by subst b; omega)
 refine st_take rfl rfl (y_assign (v := iv 0) rfl rfl) rfl ?_
 obtain ⟨fL, aj⟩ : ∃ a', a' = ca.put (some 3) (iv 0) := ⟨_, rfl⟩
 have gs := pz aj be
 have dy := pd aj dp
 have fM := pn aj cb (by decide)
 have gZ := pn aj cc (by decide)
 have fN : fL.eval (.tmp 3) = iv 0 := by rw [aj]; exact put_same _ _ _ (by rw [be]; decide)
 show stepsTo _ _ _ _ _ (ca.put (some 3) (iv 0)) _
 rw [← aj]
 refine st_nil (dn _ _ ?_)
 refine wp_ret (ret_k dy (v := .tuple #[nv (Nm.mk 0 ((cleanV v).ref)), iv 0]) (res_ct rfl fM fN (l_two Tryd.isAgg23 Tryd.sizeOf23 dt)) ?_)
 refine ⟨?_, dx⟩
 show Ending.returned (.tuple #[nv (Nm.mk 0 ((cleanV v).ref)), iv 0]) = Ending.returned (.tuple #[nv ((numberV v).1), iv ((numberV v).2)])
 first | rfl | (simp only [numberV, ac, aa, ab, bsm] <;> rfl) | (exfalso; omega)
 have b9 := oF ab
 have dz := hB b8 ab
 refine wp_cond_false dz ?_
 refine wp_seq_k fun g0 dA => ?_
 refine wp_g0 [true, true] [] 37
   [ve (.bool (decide (((cleanV v).k) = 3))), ve (.bool (decide (((cleanV v).k) = 3)))] av (.eq (.eq (.nil))) ?_ ?_
 exact .t (fun _ w hn k => ⟨_, v_bin rfl (k.fx 9 b7) rfl (fun _ => rfl) (r_eql rfl), rfl⟩) <| .a (fun k => k.eq1 0 20 rfl) .nil
 refine aftI av a9 ba fun g1 g2 ay bg bh az aA => ?_
 have ce := aA.fx 1 b5
 have cf := aA.fx 2 b6
 have ch := aA.fx 9 b7
 have ci := aA.ge 1 19 rfl
 have bi := bb.new_ az
 have bj := bd.new_ az
 have dB := dk.new_ az
 have dC := dl.new_ az
 refine st_nil (dA _ _ ?_)
 rcases bc (decide (((cleanV v).k) = 3)) with ad | ad
 have cj := oT ad
 have dD := hB ci ad
 refine wp_cond_true dD ?_
 refine wp_seq_k fun g3 dE => ?_
 refine wp_g0 [true, true, false, false] [(2, false), (3, true)] 37
   [ve (.pointer (some ⟨q9, 1, none⟩)), ve (nv (Nm.mk ((cleanV v).nk) ((cleanV v).nn))), vt, vt] ay (.eq (.eq (.tt (.tt (.nil))))) ?_ ?_
 exact .f (fun k => k.fx 1 ce) <| .t (fun _ w hn k => ⟨_, v_load rfl (k.eq1 0 21 rfl) (l_part Tryd.isAgg23 Tryd.sizeOf23 (bi.new_ hn) lb), rfl⟩) <| .off <| .off .nil
 refine aftI ay bg bh fun cl g4 bk dF dG dH bl => ?_
 have cm := bl.fx 2 cf
 have cn := bl.ge 1 22 rfl
 have dI := bj.new_ dH
 obtain ⟨g5, -, co, dJ, dK, gt⟩ := s_two (v0 := iv ((cleanV v).nk)) (v1 := iv ((cleanV v).nn)) Tryd.sizeOf23 rfl rfl rfl dI
 refine st_act rfl rfl fun g6 dL => a_store' rfl cm cn co (dL _ _ trivial ?_)
 have dM := dG.trans dK (fun _ h b => by subst b; omega)
 refine st_take rfl rfl (y_assign (v := iv 0) rfl rfl) rfl ?_
 obtain ⟨fO, ak⟩ : ∃ a', a' = cl.put (some 3) (iv 0) := ⟨_, rfl⟩
 have gu := pz ak bk
 have dN := pd ak dF
 have fP := pn ak cm (by decide)
 have g7 := pn ak cn (by decide)
 have fQ : fO.eval (.tmp 3) = iv 0 := by rw [ak]; exact put_same _ _ _ (by rw [bk]; decide)
 show stepsTo _ _ _ _ _ (cl.put (some 3) (iv 0)) _
 rw [← ak]
 refine st_nil (dE _ _ ?_)
 refine wp_ret (ret_k dN (v := .tuple #[nv (Nm.mk ((cleanV v).nk) ((cleanV v).nn)), iv 0]) (res_ct rfl fP fQ (l_two Tryd.isAgg23 Tryd.sizeOf23 dJ)) ?_)
 refine ⟨?_, dM⟩
 show Ending.returned (.tuple #[nv (Nm.mk ((cleanV v).nk) ((cleanV v).nn)), iv 0]) = Ending.returned (.tuple #[nv ((numberV v).1), iv ((numberV v).2)])
 first | rfl | (simp only [numberV, ac, aa, ab, ad, bsm] <;> rfl) | (exfalso; omega)
 have cj := oF ad
 have dO := hB ci ad
 refine wp_cond_false dO ?_
 refine wp_seq_k fun g8 dP => ?_
 refine wp_g0 [true, true] [] 37
   [ve (.bool (decide (((cleanV v).k) = 4))), ve (.bool (decide (((cleanV v).k) = 4)))] ay (.eq (.eq (.nil))) ?_ ?_
 exact .t (fun _ w hn k => ⟨_, v_bin rfl (k.fx 9 ch) rfl (fun _ => rfl) (r_eql rfl), rfl⟩) <| .a (fun k => k.eq1 0 24 rfl) .nil
 refine aftI ay bg bh fun g9 ha aB bm bn aC aD => ?_
 have fR := aD.fx 1 ce
 have cp := aD.fx 2 cf
 have fS := aD.fx 9 ch
 have cq := aD.ge 1 23 rfl
 have dQ := bi.new_ aC
 have bo := bj.new_ aC
 have dR := dB.new_ aC
 have dS := dC.new_ aC
 refine st_nil (dP _ _ ?_)
 rcases bc (decide (((cleanV v).k) = 4)) with ae | ae
 have cr := oT ae
 have dT := hB cq ae
 refine wp_cond_true dT ?_
 refine wp_seq_k fun hc dU => ?_
 refine wp_g0 [true, false, false] [(1, false), (2, true)] 37
   [ve (nv (Nm.mk 0 0)), vt, vt] aB (.eq (.tt (.tt (.nil)))) ?_ ?_
 exact .t (fun _ w hn k => ⟨_, v_build (ps := []) rfl parts0 (by kernel_rfl), rfl⟩) <| .off <| .off .nil
 refine aftI aB bm bn fun ct hd bp dV dW dX bq => ?_
 have cu := bq.fx 2 cp
 have cw := bq.ge 0 25 rfl
 have dY := bo.new_ dX
 obtain ⟨hf, -, cx, dZ, d0, gv⟩ := s_two (v0 := iv 0) (v1 := iv 0) Tryd.sizeOf23 rfl rfl rfl dY
 refine st_act rfl rfl fun hg d1 => a_store' rfl cu cw cx (d1 _ _ trivial ?_)
 have d2 := dW.trans d0 (fun _ h b => by subst b; omega)
 refine st_take rfl rfl (y_assign (v := iv 1) rfl rfl) rfl ?_
 obtain ⟨fT, al⟩ : ∃ a', a' = ct.put (some 3) (iv 1) := ⟨_, rfl⟩
 have gw := pz al bp
 have d3 := pd al dV
 have fU := pn al cu (by decide)
 have hh := pn al cw (by decide)
 have fV : fT.eval (.tmp 3) = iv 1 := by rw [al]; exact put_same _ _ _ (by rw [bp]; decide)
 show stepsTo _ _ _ _ _ (ct.put (some 3) (iv 1)) _
 rw [← al]
 refine st_nil (dU _ _ ?_)
 refine wp_ret (ret_k d3 (v := .tuple #[nv (Nm.mk 0 0), iv 1]) (res_ct rfl fU fV (l_two Tryd.isAgg23 Tryd.sizeOf23 dZ)) ?_)
 refine ⟨?_, d2⟩
 show Ending.returned (.tuple #[nv (Nm.mk 0 0), iv 1]) = Ending.returned (.tuple #[nv ((numberV v).1), iv ((numberV v).2)])
 first | rfl | (simp only [numberV, ac, aa, ab, ad, ae, bsm] <;> rfl) | (exfalso; omega)
 have cr := oF ae
 have d4 := hB cq ae
 refine wp_cond_false d4 ?_
 refine wp_seq_k fun hi d5 => ?_
 refine wp_g0 [true, true] [] 37
   [ve (.bool (decide (((cleanV v).k) = 5))), ve (.bool (decide (((cleanV v).k) = 5)))] aB (.eq (.eq (.nil))) ?_ ?_
 exact .t (fun _ w hn k => ⟨_, v_bin rfl (k.fx 9 fS) rfl (fun _ => rfl) (r_eql rfl), rfl⟩) <| .a (fun k => k.eq1 0 27 rfl) .nil
 refine aftI aB bm bn fun hj fW aE br aN aF aO => ?_
 have fX := aO.fx 1 fR
 have cy := aO.fx 2 cp
 have cz := aO.ge 1 26 rfl
 have d6 := dQ.new_ aF
 have aP := bo.new_ aF
 have gx := dR.new_ aF
 have d7 := dS.new_ aF
 refine st_nil (d5 _ _ ?_)
 rcases bc (decide (((cleanV v).k) = 5)) with af | af
 have cA := oT af
 have d8 := hB cz af
 refine wp_cond_true d8 ?_
 refine wp_seq_k fun hl d9 => ?_
 refine wp_g [true, true, true, true, true, true, true, false, false] [5] [(7, false), (8, true)] 37
   [ve (.pointer (some ⟨q9, 5, none⟩)), ve (sv aR ((cleanV v).s) aI), ve (.tuple #[nv ((numT ((cleanV v).s)).1), .bool ((numT ((cleanV v).s)).2)]), ve (.tuple #[nv ((numT ((cleanV v).s)).1), .bool ((numT ((cleanV v).s)).2)]), ve (nv ((numT ((cleanV v).s)).1)), ve (.bool ((numT ((cleanV v).s)).2)), IsNew fW 23 [iv 0, iv 0], vt, vt]
   [6] (newsCons (fun v w h => IsNew.old h) newsNil) aE (.eq (.eq (.eq (.eq (.eq (.eq (.nw (.tt (.tt (.nil)))))))))) ?_ ?_ ?_
 refine .f (fun k => k.fx 1 fX) <| .t (fun _ w hn k => ⟨_, v_load rfl (k.eq1 0 29 rfl) (l_one Tryd.isAgg27 ((d6.new_ hn).cell 5)), rfl⟩) <| .o1 (ck rfl rfl rfl (fun _ w hn k => ⟨#[sv aR ((cleanV v).s) aI], args1 (k.eq1 1 30 rfl), fun _ => by kernel_rfl, tnumber_c _ ((cleanV v).s) _ _ (d7.new_ hn) hvv.clean.units⟩) fun _ => rfl) <| .m (fun k => k.eq1 2 31 rfl) <| .t (fun _ w hn k => ⟨_, v_extract rfl (k.eq1 3 28 rfl) rfl, rfl⟩) ?_
 refine .o3 ?_
 exact .o2 (step_allocN (cs := [iv 0, iv 0]) (t := 23) rfl (noG rfl) (fun _ w hn k => rfl) (fun q _ hq hb => ⟨q, rfl, hq, hb⟩)) <| .off <| .off .nil
 intro i h
 simp only [List.contains_eq_mem, List.mem_cons, List.not_mem_nil, or_false, decide_eq_true_eq] at h
 subst h
 exact eager_take rfl rfl fun _ w hn k => ⟨.bool ((numT ((cleanV v).s)).2), fun w => v_extract rfl (k.eq1 3 28 rfl) rfl, rfl⟩
 refine aftI aE br aN fun cB ho bs ea eb ec aG => ?_
 have fY := aG.fx 2 cy
 have cC := aG.ge 4 32 rfl
 have cD := aG.ge 5 33 rfl
 obtain ⟨fZ, cE, bt, ed⟩ : IsNew _ _ _ _ _ := aG.got 6 4 rfl (by kernel_rfl)
 have ee := aP.new_ ec
 have hne323 : eX ≠ fZ := by have h1 := aP.lt; have h2 := bt; omega
 have gy := Nat.le_trans aN.size bt
 obtain ⟨hr, -, cF, ef, eg, eh⟩ := s_two (v0 := iv ((numT ((cleanV v).s)).1.k)) (v1 := iv ((numT ((cleanV v).s)).1.n)) Tryd.sizeOf23 rfl rfl rfl ed
 refine st_act rfl rfl fun hs ei => a_store' rfl cE cC cF (ei _ _ trivial ?_)
 have ej := eh _ _ _ (hne323) ee
 have ek := eb.trans eg (fun _ h b => by subst b; omega)
 refine st_take rfl rfl (y_assign (v := .bool ((numT ((cleanV v).s)).2)) rfl cD) rfl ?_
 obtain ⟨f0, ag⟩ : ∃ a', a' = cB.put (some 5) (.bool ((numT ((cleanV v).s)).2)) := ⟨_, rfl⟩
 have bu := pz ag bs
 have el := pd ag ea
 have f1 := pn ag fY (by decide)
 have ht := pn ag cC (by decide)
 have hu := pn ag cD (by decide)
 have f2 := pn ag cE (by decide)
 have f3 : f0.eval (.tmp 5) = .bool ((numT ((cleanV v).s)).2) := by rw [ag]; exact put_same _ _ _ (by rw [bs]; decide)
 show stepsTo _ _ _ _ _ (cB.put (some 5) (.bool ((numT ((cleanV v).s)).2))) _
 rw [← ag]
 refine st_nil (d9 _ _ (wp_seq_k fun hv em => ?_))
 refine wp_g0 [true] [] 37
   [ve (.bool ((numT ((cleanV v).s)).2))] bu (.eq (.nil)) ?_ ?_
 exact .m (fun k => k.fx 5 f3) .nil
 refine aftI bu el ek fun hw hx aH bv bw bx aQ => ?_
 have cG := aQ.fx 2 f1
 have f4 := aQ.fx 4 f2
 have cH := aQ.ge 0 34 rfl
 have bz := ej.new_ bx
 have en := ef.new_ bx
 refine st_nil (em _ _ ?_)
 rcases bc ((numT ((cleanV v).s)).2) with ap | ap
 have eo := hB cH ap
 refine wp_cond_true eo ?_
 refine wp_seq_k fun hy ep => ?_
 refine wp_g0 [true, false, false] [(1, false), (2, true)] 37
   [ve (nv ((numT ((cleanV v).s)).1)), vt, vt] aH (.eq (.tt (.tt (.nil)))) ?_ ?_
 exact .t (fun _ w hn k => ⟨_, v_load rfl (k.fx 4 f4) (l_two Tryd.isAgg23 Tryd.sizeOf23 (en.new_ hn)), rfl⟩) <| .off <| .off .nil
 refine aftI aH bv bw fun cI hz bA er es et bB => ?_
 have cJ := bB.fx 2 cG
 have cK := bB.ge 0 35 rfl
 have eu := bz.new_ et
 obtain ⟨hA, -, cL, ev, ew, gz⟩ := s_two (v0 := iv ((numT ((cleanV v).s)).1.k)) (v1 := iv ((numT ((cleanV v).s)).1.n)) Tryd.sizeOf23 rfl rfl rfl eu
 refine st_act rfl rfl fun hC ex => a_store' rfl cJ cK cL (ex _ _ trivial ?_)
 have ey := es.trans ew (fun _ h b => by subst b; omega)
 refine st_take rfl rfl (y_assign (v := iv 0) rfl rfl) rfl ?_
 obtain ⟨f5, am⟩ : ∃ a', a' = cI.put (some 3) (iv 0) := ⟨_, rfl⟩
 have gA := pz am bA
 have ez := pd am er
 have f6 := pn am cJ (by decide)
 have hD := pn am cK (by decide)
 have f7 : f5.eval (.tmp 3) = iv 0 := by rw [am]; exact put_same _ _ _ (by rw [bA]; decide)
 show stepsTo _ _ _ _ _ (cI.put (some 3) (iv 0)) _
 rw [← am]
 refine st_nil (ep _ _ ?_)
 refine wp_ret (ret_k ez (v := .tuple #[nv ((numT ((cleanV v).s)).1), iv 0]) (res_ct rfl f6 f7 (l_two Tryd.isAgg23 Tryd.sizeOf23 ev)) ?_)
 refine ⟨?_, ey⟩
 show Ending.returned (.tuple #[nv ((numT ((cleanV v).s)).1), iv 0]) = Ending.returned (.tuple #[nv ((numberV v).1), iv ((numberV v).2)])
 first | rfl | (simp only [numberV, ac, aa, ab, ad, ae, af, ap, bsm] <;> rfl) | (exfalso; omega)
 have eA := hB cH ap
 refine wp_cond_false eA ?_
 refine wp_skip ?_
 refine bP _ _ ?_
 refine wp_seq_k fun hE eB => ?_
 refine wp_g0 [true, false, false] [(1, false), (2, true)] 37
   [ve (nv (Nm.mk 0 0)), vt, vt] aH (.eq (.tt (.tt (.nil)))) ?_ ?_
 exact .t (fun _ w hn k => ⟨_, v_build (ps := []) rfl parts0 (by kernel_rfl), rfl⟩) <| .off <| .off .nil
 refine aftI aH bv bw fun cM hF bC eC eD eE bD => ?_
 have cN := bD.fx 2 cG
 have cO := bD.ge 0 36 rfl
 have eF := bz.new_ eE
 obtain ⟨hG, -, cP, eG, eH, gB⟩ := s_two (v0 := iv 0) (v1 := iv 0) Tryd.sizeOf23 rfl rfl rfl eF
 refine st_act rfl rfl fun hH eI => a_store' rfl cN cO cP (eI _ _ trivial ?_)
 have eJ := eD.trans eH (fun _ h b => by subst b; omega)
 refine st_take rfl rfl (y_assign (v := iv 3) rfl rfl) rfl ?_
 obtain ⟨f8, an⟩ : ∃ a', a' = cM.put (some 3) (iv 3) := ⟨_, rfl⟩
 have gC := pz an bC
 have eK := pd an eC
 have f9 := pn an cN (by decide)
 have hI := pn an cO (by decide)
 have ga : f8.eval (.tmp 3) = iv 3 := by rw [an]; exact put_same _ _ _ (by rw [bC]; decide)
 show stepsTo _ _ _ _ _ (cM.put (some 3) (iv 3)) _
 rw [← an]
 refine st_nil (eB _ _ ?_)
 refine wp_ret (ret_k eK (v := .tuple #[nv (Nm.mk 0 0), iv 3]) (res_ct rfl f9 ga (l_two Tryd.isAgg23 Tryd.sizeOf23 eG)) ?_)
 refine ⟨?_, eJ⟩
 show Ending.returned (.tuple #[nv (Nm.mk 0 0), iv 3]) = Ending.returned (.tuple #[nv ((numberV v).1), iv ((numberV v).2)])
 first | rfl | (simp only [numberV, ac, aa, ab, ad, ae, af, ap, bsm] <;> rfl) | (exfalso; omega)
 have cA := oF af
 have eL := hB cz af
 refine wp_cond_false eL ?_
 refine wp_skip ?_
 refine bP _ _ ?_
 refine wp_seq_k fun hJ eM => ?_
 refine wp_g0 [true, false, false] [(1, false), (2, true)] 37
   [ve (nv (Nm.mk 0 0)), vt, vt] aE (.eq (.tt (.tt (.nil)))) ?_ ?_
 exact .t (fun _ w hn k => ⟨_, v_build (ps := []) rfl parts0 (by kernel_rfl), rfl⟩) <| .off <| .off .nil
 refine aftI aE br aN fun cQ hK bE eN eO eP bF => ?_
 have cR := bF.fx 2 cy
 have cS := bF.ge 0 36 rfl
 have eQ := aP.new_ eP
 obtain ⟨hL, -, cT, eR, eS, gD⟩ := s_two (v0 := iv 0) (v1 := iv 0) Tryd.sizeOf23 rfl rfl rfl eQ
 refine st_act rfl rfl fun hM eT => a_store' rfl cR cS cT (eT _ _ trivial ?_)
 have eU := eO.trans eS (fun _ h b => by subst b; omega)
 refine st_take rfl rfl (y_assign (v := iv 3) rfl rfl) rfl ?_
 obtain ⟨gb, ao⟩ : ∃ a', a' = cQ.put (some 3) (iv 3) := ⟨_, rfl⟩
 have gE := pz ao bE
 have eV := pd ao eN
 have gc := pn ao cR (by decide)
 have hN := pn ao cS (by decide)
 have gd : gb.eval (.tmp 3) = iv 3 := by rw [ao]; exact put_same _ _ _ (by rw [bE]; decide)
 show stepsTo _ _ _ _ _ (cQ.put (some 3) (iv 3)) _
 rw [← ao]
 refine st_nil (eM _ _ ?_)
 refine wp_ret (ret_k eV (v := .tuple #[nv (Nm.mk 0 0), iv 3]) (res_ct rfl gc gd (l_two Tryd.isAgg23 Tryd.sizeOf23 eR)) ?_)
 refine ⟨?_, eU⟩
 show Ending.returned (.tuple #[nv (Nm.mk 0 0), iv 3]) = Ending.returned (.tuple #[nv ((numberV v).1), iv ((numberV v).2)])
 first | rfl | (simp only [numberV, ac, aa, ab, ad, ae, af, bsm] <;> rfl) | (exfalso; omega)
theorem cindex_c (v : Vl) (Av : Option Addr) (cv : Nat) (Bv : Option Addr) (dv : Nat) (w : World) (hmv : SRow w .u32 Av v.mag cv) (hsv : SRow w .u16 Bv v.s dv) (hvv : VOk v) : Calls Tryd.prog 16 #[vv v Av cv Bv dv] w (IsRet (.tuple #[iv ((indexV v).1), iv ((indexV v).2)]) w) := by
 refine enter_abs Tryd.func16 rfl fun a0 av ci hp => ?_
 have av : a0.tmps.size = 29 := av
 have bs : New w w := Upd.refl _ _
 have hp0 : a0.eval (.tmp 0) = vv v Av cv Bv dv := hp 0 _ rfl
 refine wp_seq_k fun K1 cj => ?_
 refine wp_g [true, true, true] [] [] 29
   [IsNew w 29 [iv v.k, iv v.nk, iv v.nn, .bool v.neg, sv Av v.mag cv, sv Bv v.s dv, iv v.ref], ve (iv 0), ve (iv 0)]
   [0] (newsCons (fun v w h => IsNew.old h) newsNil) av (.nw (.eq (.eq (.nil)))) ?_ (fun i h => by cases h) ?_
 exact .o2 (step_allocN (cs := [iv v.k, iv v.nk, iv v.nn, .bool v.neg, sv Av v.mag cv, sv Bv v.s dv, iv v.ref]) (t := 29) rfl (noG rfl) (fun _ w hn k => v_box rfl (k.fx 0 hp0) (fun w => rfl)) (fun q _ hq hb => ⟨q, rfl, hq, hb⟩)) <| .t (fun _ w hn k => ⟨_, v_assign rfl rfl, rfl⟩) <| .t (fun _ w hn k => ⟨_, v_assign rfl rfl, rfl⟩) .nil
 refine aftI av ci bs fun a2 w3 bt cl an dc cm => ?_
 obtain ⟨q9, h8, bB, aI⟩ : IsNew _ _ _ _ _ := cm.got 0 1 rfl (by kernel_rfl)
 have cF := Nat.le_trans bs.size bB
 refine st_nil (cj _ _ (wp_seq_k fun dd bC => ?_))
 refine wp_g0 [true, true, false] [(2, false)] 29
   [ve (vv v Av cv Bv dv),
    (VP (cleanV v)), vt] bt (.eq (.cons (fun v W W' hn ⟨A5, c6, A7, c8, he, h0, h1⟩ => ⟨A5, c6, A7, c8, he, h0.new_ hn, h1.new_ hn⟩) (.tt (.nil)))) ?_ ?_
 refine .t (fun _ w hn k => ⟨_, v_load rfl (k.fx 1 h8) (l_agg Tryd.isAgg29 Tryd.sizeOf29 (aI.new_ hn) rfl), rfl⟩) ?_
 refine .o1 (tkC rfl (noG rfl) rfl fun _ w hn k => (by
       refine ⟨#[vv v Av cv Bv dv], _, args1 (k.eq1 0 8 rfl), fun w => by kernel_rfl, clean_c v _ _ _ _ _ (hmv.new_ (an.transNew hn)) (hsv.new_ (an.transNew hn)), ?_⟩
       rintro e w' ⟨A1, c2, A3, c4, rfl, hmo0, hmo1, hm⟩
       exact ⟨_, rfl, hm, ⟨A1, c2, A3, c4, rfl, hmo0, hmo1⟩⟩)) ?_
 exact .off .nil
 refine aftI bt cl an fun cn de aJ bD bE bF aK => ?_
 have aL := aK.fx 1 h8
 obtain ⟨al, af, am, ag, aM, bG, bH⟩ : (VP (cleanV v)) _ _ := aK.got 1 9 rfl (by kernel_rfl)
 have aM : cn.eval (.tmp 9) = vv (cleanV v) al af am ag := aM
 have ao := aI.new_ bF
 obtain ⟨co, aY, aZ, ap, cG⟩ := s_many (P := Tryd.prog) (t := 29) (i := 0) [iv ((cleanV v).k), iv ((cleanV v).nk), iv ((cleanV v).nn), .bool ((cleanV v).neg), sv al ((cleanV v).mag) af, sv am ((cleanV v).s) ag, iv ((cleanV v).ref)] Tryd.sizeOf29 rfl rfl rfl ao lb
 have aN : Blk co q9 29 [iv ((cleanV v).k), iv ((cleanV v).nk), iv ((cleanV v).nn), .bool ((cleanV v).neg), sv al ((cleanV v).mag) af, sv am ((cleanV v).s) ag, iv ((cleanV v).ref)] := aZ
 refine st_act rfl rfl fun df bI => a_store' rfl aL aM aY (bI _ _ trivial ?_)
 have bJ := bG.far ao ap (by first | rfl | decide | simp [notK])
 have bK := bH.far ao ap (by first | rfl | decide | simp [notK])
 have bL := bE.trans ap (fun _ h b => by subst b; omega)
 refine st_nil (bC _ _ (wp_seq_k fun dg bM => ?_))
 refine wp_seq_k fun dh bN => ?_
 refine wp_g0 [true, true, true] [] 29
   [ve (pv q9), ve (iv ((cleanV v).k)), ve (.bool (decide (((cleanV v).k) = 0)))] aJ (.eq (.eq (.eq (.nil)))) ?_ ?_
 exact .f (fun k => k.fx 1 aL) <| .t (fun _ w hn k => ⟨_, v_load rfl (k.eq1 0 10 rfl) (l_one Tryd.isAgg3 ((aN.new_ hn).cell 0)), rfl⟩) <| .t (fun _ w hn k => ⟨_, v_bin rfl (k.eq1 1 11 rfl) rfl (fun _ => rfl) (r_eql rfl), rfl⟩) .nil
 refine aftI aJ bD bL fun di cp ah aO aq ar aP => ?_
 have cq := aP.fx 1 aL
 have bu := aP.ge 2 12 rfl
 have bO := aN.new_ ar
 have bP := bJ.new_ ar
 have bQ := bK.new_ ar
 refine st_nil (bN _ _ ?_)
 rcases bc (decide (((cleanV v).k) = 0)) with ab | ab
 have a1 := oT ab
 have bR := hB bu ab
 refine wp_cond_true bR ?_
 refine wp_seq_k fun dj bS => ?_
 refine wp_g0 [true, true] [] 29
   [ve (iv 0), ve (iv 0)] ah (.eq (.eq (.nil))) ?_ ?_
 exact .t (fun _ w hn k => ⟨_, v_assign rfl rfl, rfl⟩) <| .t (fun _ w hn k => ⟨_, v_assign rfl rfl, rfl⟩) .nil
 refine aftI ah aO aq fun dk dl cH bT bU cI aQ => ?_
 have cr := aQ.ge 0 2 rfl
 have ct := aQ.ge 1 3 rfl
 refine st_nil (bS _ _ ?_)
 refine wp_ret (ret_k bT (v := .tuple #[iv 0, iv 0]) (res_tt rfl cr ct _) ?_)
 refine ⟨?_, bU⟩
 show Ending.returned (.tuple #[iv 0, iv 0]) = Ending.returned (.tuple #[iv ((indexV v).1), iv ((indexV v).2)])
 first | rfl | (simp only [indexV, ab, bsm] <;> rfl) | (exfalso; omega)
 have a1 := oF ab
 have bV := hB bu ab
 refine wp_cond_false bV ?_
 refine wp_skip ?_
 refine bM _ _ ?_
 refine wp_seq_k fun dm bW => ?_
 refine wp_g [true, true, true, true, true, true, false, false] [4] [(6, false), (7, true)] 29
   [ve (vv (cleanV v) al af am ag), ve (.tuple #[nv ((numberV (cleanV v)).1), iv ((numberV (cleanV v)).2)]), ve (.tuple #[nv ((numberV (cleanV v)).1), iv ((numberV (cleanV v)).2)]), ve (nv ((numberV (cleanV v)).1)), ve (iv ((numberV (cleanV v)).2)), IsNew cp 23 [iv 0, iv 0], vt, vt]
   [5] (newsCons (fun v w h => IsNew.old h) newsNil) ah (.eq (.eq (.eq (.eq (.eq (.nw (.tt (.tt (.nil))))))))) ?_ ?_ ?_
 refine .t (fun _ w hn k => ⟨_, v_load rfl (k.fx 1 cq) (l_agg Tryd.isAgg29 Tryd.sizeOf29 (bO.new_ hn) rfl), rfl⟩) <| .o1 (ck rfl rfl rfl (fun _ w hn k => ⟨#[vv (cleanV v) al af am ag], args1 (k.eq1 0 14 rfl), fun _ => by kernel_rfl, cnumber_c (cleanV v) _ _ _ _ _ (bP.new_ hn) (bQ.new_ hn) hvv.clean⟩) fun _ => rfl) <| .m (fun k => k.eq1 1 15 rfl) <| .t (fun _ w hn k => ⟨_, v_extract rfl (k.eq1 2 13 rfl) rfl, rfl⟩) ?_
 refine .o3 ?_
 exact .o2 (step_allocN (cs := [iv 0, iv 0]) (t := 23) rfl (noG rfl) (fun _ w hn k => rfl) (fun q _ hq hb => ⟨q, rfl, hq, hb⟩)) <| .off <| .off .nil
 intro i h
 simp only [List.contains_eq_mem, List.mem_cons, List.not_mem_nil, or_false, decide_eq_true_eq] at h
 subst h
 exact eager_take rfl rfl fun _ w hn k => ⟨iv ((numberV (cleanV v)).2), fun w => v_extract rfl (k.eq1 2 13 rfl) rfl, rfl⟩
 refine aftI ah aO aq fun bv dn aR bX bY cJ au => ?_
 have bw := au.ge 3 16 rfl
 have bx := au.ge 4 17 rfl
 obtain ⟨dp, bz, bZ, b0⟩ : IsNew _ _ _ _ _ := au.got 5 4 rfl (by kernel_rfl)
 have cK := Nat.le_trans aq.size bZ
 obtain ⟨dq, -, a3, aS, b1, cL⟩ := s_two (v0 := iv ((numberV (cleanV v)).1.k)) (v1 := iv ((numberV (cleanV v)).1.n)) Tryd.sizeOf23 rfl rfl rfl b0
 refine st_act rfl rfl fun dr b2 => a_store' rfl bz bw a3 (b2 _ _ trivial ?_)
 have aT := bY.trans b1 (fun _ h b => by subst b; omega)
 refine st_take rfl rfl (y_assign (v := iv ((numberV (cleanV v)).2)) rfl bx) rfl ?_
 obtain ⟨cu, ac⟩ : ∃ a', a' = bv.put (some 5) (iv ((numberV (cleanV v)).2)) := ⟨_, rfl⟩
 have ai := pz ac aR
 have aU := pd ac bX
 have ds := pn ac bw (by decide)
 have dt := pn ac bx (by decide)
 have bA := pn ac bz (by decide)
 have aw : cu.eval (.tmp 5) = iv ((numberV (cleanV v)).2) := by rw [ac]; exact put_same _ _ _ (by rw [aR]; decide)
 show stepsTo _ _ _ _ _ (bv.put (some 5) (iv ((numberV (cleanV v)).2))) _
 rw [← ac]
 refine st_nil (bW _ _ (wp_seq_k fun du b3 => ?_))
 refine wp_seq_k fun cM ax => ?_
 rcases bc (decide (((numberV (cleanV v)).2) = 0)) with aa | aa
 have aV := oT aa
 refine wp_g0 [true, true] [] 29
   [ve (iv ((numberV (cleanV v)).2)), vF] ai (.eq (.eq (.nil))) ?_ ?_
 exact .m (fun k => k.fx 5 aw) <| .t (fun _ w hn k => ⟨_, v_bin rfl (k.eq1 0 18 rfl) rfl (fun _ => rfl) (r_neq aa), rfl⟩) .nil
 refine aftI ai aU aT fun cN cO ay a4 a5 a6 aj => ?_
 have b4 := aj.fx 4 bA
 have cP := aj.fx 5 aw
 have b5 := aj.ge 1 19 rfl
 have a7 := aS.new_ a6
 refine st_nil (ax _ _ ?_)
 refine wp_cond_false b5 ?_
 refine wp_skip ?_
 refine b3 _ _ ?_
 refine wp_seq_k fun cQ a8 => ?_
 refine wp_g0 [true, true, true, true, true, true, true] [] 29
   [ve (nv ((numberV (cleanV v)).1)), ve (.tuple #[iv ((indexM ((numberV (cleanV v)).1)).1), .bool ((indexM ((numberV (cleanV v)).1)).2)]), ve (.tuple #[iv ((indexM ((numberV (cleanV v)).1)).1), .bool ((indexM ((numberV (cleanV v)).1)).2)]), ve (iv ((indexM ((numberV (cleanV v)).1)).1)), ve (.bool ((indexM ((numberV (cleanV v)).1)).2)), ve (iv ((indexM ((numberV (cleanV v)).1)).1)), ve (.bool ((indexM ((numberV (cleanV v)).1)).2))] ay (.eq (.eq (.eq (.eq (.eq (.eq (.eq (.nil)))))))) ?_ ?_
 exact .t (fun _ w hn k => ⟨_, v_load rfl (k.fx 4 b4) (l_two Tryd.isAgg23 Tryd.sizeOf23 (a7.new_ hn)), rfl⟩) <| .o1 (ck rfl rfl rfl (fun _ w hn k => ⟨#[nv ((numberV (cleanV v)).1)], args1 (k.eq1 0 22 rfl), fun _ => by kernel_rfl, nindex_c ((numberV (cleanV v)).1) _ ⟩) fun _ => rfl) <| .m (fun k => k.eq1 1 23 rfl) <| .t (fun _ w hn k => ⟨_, v_extract rfl (k.eq1 2 21 rfl) rfl, rfl⟩) <| .t (fun _ w hn k => ⟨_, v_extract rfl (k.eq1 2 21 rfl) rfl, rfl⟩) <| .a (fun k => k.eq1 3 24 rfl) <| .a (fun k => k.eq1 4 25 rfl) .nil
 refine aftI ay a4 a5 fun cR cS az a9 ba cw aA => ?_
 have b6 := aA.ge 5 6 rfl
 have b7 := aA.ge 6 7 rfl
 refine st_nil (a8 _ _ (wp_seq_k fun cT bb => ?_))
 refine wp_seq_k fun cU bd => ?_
 refine wp_g0 [true, true] [] 29
   [ve (.bool ((indexM ((numberV (cleanV v)).1)).2)), ve (.bool (!((indexM ((numberV (cleanV v)).1)).2)))] az (.eq (.eq (.nil))) ?_ ?_
 exact .m (fun k => k.fx 7 b7) <| .t (fun _ w hn k => ⟨_, v_not rfl (k.eq1 0 26 rfl), rfl⟩) .nil
 refine aftI az a9 ba fun aW cV ae aB aC cx aD => ?_
 have b8 := aD.fx 6 b6
 have aX := aD.ge 1 27 rfl
 refine st_nil (bd _ _ ?_)
 rcases bc ((indexM ((numberV (cleanV v)).1)).2) with ad | ad
 have be : aW.eval (.tmp 27) = .bool false := aX.trans (congrArg Value.bool (by rw [ad]; rfl))
 refine wp_cond_false be ?_
 refine wp_skip ?_
 refine bb _ _ ?_
 refine wp_seq_k fun cW bf => ?_
 refine wp_g0 [true, true, true] [] 29
   [ve (iv ((indexM ((numberV (cleanV v)).1)).1)), ve (iv ((indexM ((numberV (cleanV v)).1)).1)), ve (iv 0)] ae (.eq (.eq (.eq (.nil)))) ?_ ?_
 exact .m (fun k => k.fx 6 b8) <| .a (fun k => k.eq1 0 28 rfl) <| .t (fun _ w hn k => ⟨_, v_assign rfl rfl, rfl⟩) .nil
 refine aftI ae aB aC fun cX cY cy bg bh cz aE => ?_
 have b9 := aE.ge 1 2 rfl
 have ca := aE.ge 2 3 rfl
 refine st_nil (bf _ _ ?_)
 refine wp_ret (ret_k bg (v := .tuple #[iv ((indexM ((numberV (cleanV v)).1)).1), iv 0]) (res_tt rfl b9 ca _) ?_)
 refine ⟨?_, bh⟩
 show Ending.returned (.tuple #[iv ((indexM ((numberV (cleanV v)).1)).1), iv 0]) = Ending.returned (.tuple #[iv ((indexV v).1), iv ((indexV v).2)])
 first | rfl | (simp only [indexV, ab, aa, ad, bsm] <;> rfl) | (exfalso; omega)
 have bi : aW.eval (.tmp 27) = .bool true := aX.trans (congrArg Value.bool (by rw [ad]; rfl))
 refine wp_cond_true bi ?_
 refine wp_seq_k fun cZ bj => ?_
 refine wp_g0 [true, true] [] 29
   [ve (iv 0), ve (iv 2)] ae (.eq (.eq (.nil))) ?_ ?_
 exact .t (fun _ w hn k => ⟨_, v_assign rfl rfl, rfl⟩) <| .t (fun _ w hn k => ⟨_, v_assign rfl rfl, rfl⟩) .nil
 refine aftI ae aB aC fun c0 c1 cA bk bl cB aF => ?_
 have cb := aF.ge 0 2 rfl
 have cc := aF.ge 1 3 rfl
 refine st_nil (bj _ _ ?_)
 refine wp_ret (ret_k bk (v := .tuple #[iv 0, iv 2]) (res_tt rfl cb cc _) ?_)
 refine ⟨?_, bl⟩
 show Ending.returned (.tuple #[iv 0, iv 2]) = Ending.returned (.tuple #[iv ((indexV v).1), iv ((indexV v).2)])
 first | rfl | (simp only [indexV, ab, aa, ad, bsm] <;> rfl) | (exfalso; omega)
 have aV := oF aa
 refine wp_g0 [true, true] [] 29
   [ve (iv ((numberV (cleanV v)).2)), vT] ai (.eq (.eq (.nil))) ?_ ?_
 exact .m (fun k => k.fx 5 aw) <| .t (fun _ w hn k => ⟨_, v_bin rfl (k.eq1 0 18 rfl) rfl (fun _ => rfl) (r_neq aa), rfl⟩) .nil
 refine aftI ai aU aT fun c3 c5 aG bm bn bo ak => ?_
 have c7 := ak.fx 4 bA
 have cd := ak.fx 5 aw
 have ce := ak.ge 1 19 rfl
 have cC := aS.new_ bo
 refine st_nil (ax _ _ ?_)
 refine wp_cond_true ce ?_
 refine wp_seq_k fun c9 bp => ?_
 refine wp_g0 [true, true, true] [] 29
   [ve (iv ((numberV (cleanV v)).2)), ve (iv 0), ve (iv ((numberV (cleanV v)).2))] aG (.eq (.eq (.eq (.nil)))) ?_ ?_
 exact .m (fun k => k.fx 5 cd) <| .t (fun _ w hn k => ⟨_, v_assign rfl rfl, rfl⟩) <| .a (fun k => k.eq1 0 20 rfl) .nil
 refine aftI aG bm bn fun da db cD bq br cE aH => ?_
 have cf := aH.ge 1 2 rfl
 have ch := aH.ge 2 3 rfl
 refine st_nil (bp _ _ ?_)
 refine wp_ret (ret_k bq (v := .tuple #[iv 0, iv ((numberV (cleanV v)).2)]) (res_tt rfl cf ch _) ?_)
 refine ⟨?_, br⟩
 show Ending.returned (.tuple #[iv 0, iv ((numberV (cleanV v)).2)]) = Ending.returned (.tuple #[iv ((indexV v).1), iv ((indexV v).2)])
 first | rfl | (simp only [indexV, ab, aa, bsm] <;> rfl) | (exfalso; omega)
theorem cstrict_c (v : Vl) (Av : Option Addr) (cv : Nat) (Bv : Option Addr) (dv : Nat) (u : Vl) (Au : Option Addr) (cu : Nat) (Bu : Option Addr) (du : Nat) (w : World) (hmv : SRow w .u32 Av v.mag cv) (hsv : SRow w .u16 Bv v.s dv) (hmu : SRow w .u32 Au u.mag cu) (hsu : SRow w .u16 Bu u.s du) : Calls Tryd.prog 9 #[vv v Av cv Bv dv, vv u Au cu Bu du] w (IsRet (.bool (strictV v u)) w) := by
 refine enter_abs Tryd.func9 rfl fun a0 aF b8 hp => ?_
 have aF : a0.tmps.size = 27 := aF
 have aK : New w w := Upd.refl _ _
 have hp0 : a0.eval (.tmp 0) = vv v Av cv Bv dv := hp 0 _ rfl
 have hp1 : a0.eval (.tmp 1) = vv u Au cu Bu du := hp 1 _ rfl
 refine wp_seq_k fun K1 b9 => ?_
 refine wp_g [true, true, true] [] [] 27
   [IsNew w 29 [iv v.k, iv v.nk, iv v.nn, .bool v.neg, sv Av v.mag cv, sv Bv v.s dv, iv v.ref], IsNew w 29 [iv u.k, iv u.nk, iv u.nn, .bool u.neg, sv Au u.mag cu, sv Bu u.s du, iv u.ref], vF]
   [0, 1] (newsCons (fun v w h => IsNew.old h) (newsCons (fun v w h => IsNew.old h) newsNil)) aF (.nw (.nw (.eq (.nil)))) ?_ (fun i h => by cases h) ?_
 exact .o2 (step_allocN (cs := [iv v.k, iv v.nk, iv v.nn, .bool v.neg, sv Av v.mag cv, sv Bv v.s dv, iv v.ref]) (t := 29) rfl (noG rfl) (fun _ w hn k => v_box rfl (k.fx 0 hp0) (fun w => rfl)) (fun q _ hq hb => ⟨q, rfl, hq, hb⟩)) <| .o2 (step_allocN (cs := [iv u.k, iv u.nk, iv u.nn, .bool u.neg, sv Au u.mag cu, sv Bu u.s du, iv u.ref]) (t := 29) rfl (noG rfl) (fun _ w hn k => v_box rfl (k.fx 1 hp1) (fun w => rfl)) (fun q _ hq hb => ⟨q, rfl, hq, hb⟩)) <| .t (fun _ w hn k => ⟨_, v_assign rfl rfl, rfl⟩) .nil
 refine aftI aF b8 aK fun a2 w3 bw ca af cS aL => ?_
 obtain ⟨q9, h8, bC, aM⟩ : IsNew _ _ _ _ _ := aL.got 0 2 rfl (by kernel_rfl)
 obtain ⟨aw, aN, bD, aO⟩ : IsNew _ _ _ _ _ := aL.got 1 3 rfl (by kernel_rfl)
 have hne16 : q9 ≠ aw := aL.ne 0 1 2 3 h8 aN
 have cD := Nat.le_trans aK.size bC
 have cE := Nat.le_trans aK.size bD
 refine st_nil (b9 _ _ (wp_seq_k fun cT bE => ?_))
 refine wp_g0 [true, true, true, true, false, false] [(4, false), (5, false)] 27
   [ve (vv v Av cv Bv dv),
    (VP (cleanV v)), ve (vv u Au cu Bu du),
    (VP (cleanV u)), vt, vt] bw (.eq (.cons (fun v W W' hn ⟨A5, c6, A7, c8, he, h0, h1⟩ => ⟨A5, c6, A7, c8, he, h0.new_ hn, h1.new_ hn⟩) (.eq (.cons (fun v W W' hn ⟨cb, cc, cd, ce, he, h0, h1⟩ => ⟨cb, cc, cd, ce, he, h0.new_ hn, h1.new_ hn⟩) (.tt (.tt (.nil))))))) ?_ ?_
 refine .t (fun _ w hn k => ⟨_, v_load rfl (k.fx 2 h8) (l_agg Tryd.isAgg29 Tryd.sizeOf29 (aM.new_ hn) rfl), rfl⟩) ?_
 refine .o1 (tkC rfl (noG rfl) rfl fun _ w hn k => (by
       refine ⟨#[vv v Av cv Bv dv], _, args1 (k.eq1 0 5 rfl), fun w => by kernel_rfl, clean_c v _ _ _ _ _ (hmv.new_ (af.transNew hn)) (hsv.new_ (af.transNew hn)), ?_⟩
       rintro e w' ⟨A1, c2, A3, c4, rfl, hmo0, hmo1, hm⟩
       exact ⟨_, rfl, hm, ⟨A1, c2, A3, c4, rfl, hmo0, hmo1⟩⟩)) ?_
 refine .t (fun _ w hn k => ⟨_, v_load rfl (k.fx 3 aN) (l_agg Tryd.isAgg29 Tryd.sizeOf29 (aO.new_ hn) rfl), rfl⟩) ?_
 refine .o1 (tkC rfl (noG rfl) rfl fun _ w hn k => (by
       refine ⟨#[vv u Au cu Bu du], _, args1 (k.eq1 2 7 rfl), fun w => by kernel_rfl, clean_c u _ _ _ _ _ (hmu.new_ (af.transNew hn)) (hsu.new_ (af.transNew hn)), ?_⟩
       rintro e w' ⟨A9, cf, ch, ci, rfl, hmo0, hmo1, hm⟩
       exact ⟨_, rfl, hm, ⟨A9, cf, ch, ci, rfl, hmo0, hmo1⟩⟩)) ?_
 exact .off <| .off .nil
 refine aftI bw ca af fun bx cU ao aP bF aQ ap => ?_
 have ax := ap.fx 2 h8
 have ay := ap.fx 3 aN
 obtain ⟨az, ag, aA, ah, aR, bG, bH⟩ : (VP (cleanV v)) _ _ := ap.got 1 6 rfl (by kernel_rfl)
 have aR : bx.eval (.tmp 6) = vv (cleanV v) az ag aA ah := aR
 obtain ⟨aB, ai, aC, aj, aS, bI, bJ⟩ : (VP (cleanV u)) _ _ := ap.got 3 8 rfl (by kernel_rfl)
 have aS : bx.eval (.tmp 8) = vv (cleanV u) aB ai aC aj := aS
 have ak := aM.new_ aQ
 have bK := aO.new_ aQ
 obtain ⟨cj, a6, a7, al, bL⟩ := s_many (P := Tryd.prog) (t := 29) (i := 0) [iv ((cleanV v).k), iv ((cleanV v).nk), iv ((cleanV v).nn), .bool ((cleanV v).neg), sv az ((cleanV v).mag) ag, sv aA ((cleanV v).s) ah, iv ((cleanV v).ref)] Tryd.sizeOf29 rfl rfl rfl ak lb
 have bM : Blk cj q9 29 [iv ((cleanV v).k), iv ((cleanV v).nk), iv ((cleanV v).nn), .bool ((cleanV v).neg), sv az ((cleanV v).mag) ag, sv aA ((cleanV v).s) ah, iv ((cleanV v).ref)] := a7
 refine st_act rfl rfl fun cV bN => a_store' rfl ax aR a6 (bN _ _ trivial ?_)
 have bO := bG.far ak al (by first | rfl | decide | simp [notK])
 have bP := bH.far ak al (by first | rfl | decide | simp [notK])
 have bQ := bI.far ak al (by first | rfl | decide | simp [notK])
 have bR := bJ.far ak al (by first | rfl | decide | simp [notK])
 have am := bL _ _ _ (fun h => hne16 h.symm) bK
 have bS := bF.trans al (fun _ h b => by subst b; omega)
 obtain ⟨cl, a8, a9, an, bT⟩ := s_many (P := Tryd.prog) (t := 29) (i := 0) [iv ((cleanV u).k), iv ((cleanV u).nk), iv ((cleanV u).nn), .bool ((cleanV u).neg), sv aB ((cleanV u).mag) ai, sv aC ((cleanV u).s) aj, iv ((cleanV u).ref)] Tryd.sizeOf29 rfl rfl rfl am lb
 have aq : Blk cl aw 29 [iv ((cleanV u).k), iv ((cleanV u).nk), iv ((cleanV u).nn), .bool ((cleanV u).neg), sv aB ((cleanV u).mag) ai, sv aC ((cleanV u).s) aj, iv ((cleanV u).ref)] := a9
 refine st_act rfl rfl fun cW bU => a_store' rfl ay aS a8 (bU _ _ trivial ?_)
 have aT := bO.far am an (by first | rfl | decide | simp [notK])
 have aU := bP.far am an (by first | rfl | decide | simp [notK])
 have aV := bQ.far am an (by first | rfl | decide | simp [notK])
 have aW := bR.far am an (by first | rfl | decide | simp [notK])
 have ar := bT _ _ _ (hne16) bM
 have aX := bS.trans an (fun _ h b => by subst b; omega)
 refine st_nil (bE _ _ (wp_seq_k fun cX bV => ?_))
 refine wp_block ?_
 refine wp_seq_k fun cY aY => ?_
 rcases bc (decide (((cleanV v).k) = ((cleanV u).k))) with ab | ab
 have ba := oT ab
 refine wp_g0 [true, true, true, true, true, true] [] 27
   [ve (pv q9), ve (iv ((cleanV v).k)), ve (pv aw), ve (iv ((cleanV u).k)), vF, vF] ao (.eq (.eq (.eq (.eq (.eq (.eq (.nil))))))) ?_ ?_
 exact .f (fun k => k.fx 2 ax) <| .t (fun _ w hn k => ⟨_, v_load rfl (k.eq1 0 10 rfl) (l_one Tryd.isAgg3 ((ar.new_ hn).cell 0)), rfl⟩) <| .f (fun k => k.fx 3 ay) <| .t (fun _ w hn k => ⟨_, v_load rfl (k.eq1 2 12 rfl) (l_one Tryd.isAgg3 ((aq.new_ hn).cell 0)), rfl⟩) <| .t (fun _ w hn k => ⟨_, v_bin rfl (k.eq1 1 11 rfl) (k.eq1 3 13 rfl) (fun _ => rfl) (r_neq ab), rfl⟩) <| .a (fun k => k.eq1 4 14 rfl) .nil
 refine aftI ao aP aX fun cZ c0 aZ bW bX ad aD => ?_
 have bz := aD.fx 2 ax
 have cm := aD.fx 3 ay
 have cn := aD.ge 5 9 rfl
 have a1 := ar.new_ ad
 have bY := aq.new_ ad
 have bZ := aT.new_ ad
 have b0 := aU.new_ ad
 have b1 := aV.new_ ad
 have b2 := aW.new_ ad
 refine st_nil (aY _ _ ?_)
 refine wp_cond_false cn ?_
 refine wp_seq_k fun c1 b3 => ?_
 refine wp_g0 [true, true, true, true] [] 27
   [ve (pv q9), ve (iv ((cleanV v).k)), ve (.bool (decide (((cleanV v).k) = 3))), ve (.bool (decide (((cleanV v).k) = 3)))] aZ (.eq (.eq (.eq (.eq (.nil))))) ?_ ?_
 exact .f (fun k => k.fx 2 bz) <| .t (fun _ w hn k => ⟨_, v_load rfl (k.eq1 0 16 rfl) (l_one Tryd.isAgg3 ((a1.new_ hn).cell 0)), rfl⟩) <| .t (fun _ w hn k => ⟨_, v_bin rfl (k.eq1 1 17 rfl) rfl (fun _ => rfl) (r_eql rfl), rfl⟩) <| .a (fun k => k.eq1 2 18 rfl) .nil
 refine aftI aZ bW bX fun c3 c5 au a3 aG ae aE => ?_
 have bA := aE.fx 2 bz
 have bB := aE.fx 3 cm
 have a4 := aE.ge 3 15 rfl
 have aH := a1.new_ ae
 have aI := bY.new_ ae
 have bb := bZ.new_ ae
 have bd := b0.new_ ae
 have be := b1.new_ ae
 have bf := b2.new_ ae
 refine st_nil (b3 _ _ ?_)
 rcases bc (decide (((cleanV v).k) = 3)) with aa | aa
 have a5 := oT aa
 have bg := hB a4 aa
 refine wp_cond_true bg ?_
 refine wp_seq_k fun cF bh => ?_
 refine wp_g0 [true, true, true, true, true, true] [] 27
   [ve (.pointer (some ⟨q9, 1, none⟩)), ve (nv (Nm.mk ((cleanV v).nk) ((cleanV v).nn))), ve (.pointer (some ⟨aw, 1, none⟩)), ve (nv (Nm.mk ((cleanV u).nk) ((cleanV u).nn))), ve (.bool (equalM (Nm.mk ((cleanV v).nk) ((cleanV v).nn)) (Nm.mk ((cleanV u).nk) ((cleanV u).nn)))), ve (.bool (equalM (Nm.mk ((cleanV v).nk) ((cleanV v).nn)) (Nm.mk ((cleanV u).nk) ((cleanV u).nn))))] au (.eq (.eq (.eq (.eq (.eq (.eq (.nil))))))) ?_ ?_
 exact .f (fun k => k.fx 2 bA) <| .t (fun _ w hn k => ⟨_, v_load rfl (k.eq1 0 19 rfl) (l_part Tryd.isAgg23 Tryd.sizeOf23 (aH.new_ hn) lb), rfl⟩) <| .f (fun k => k.fx 3 bB) <| .t (fun _ w hn k => ⟨_, v_load rfl (k.eq1 2 21 rfl) (l_part Tryd.isAgg23 Tryd.sizeOf23 (aI.new_ hn) lb), rfl⟩) <| .o1 (ck rfl rfl rfl (fun _ w hn k => ⟨#[nv (Nm.mk ((cleanV v).nk) ((cleanV v).nn)), nv (Nm.mk ((cleanV u).nk) ((cleanV u).nn))], args2 (k.eq1 1 20 rfl) (k.eq1 3 22 rfl), fun _ => by kernel_rfl, equal_c (Nm.mk ((cleanV v).nk) ((cleanV v).nn)) (Nm.mk ((cleanV u).nk) ((cleanV u).nn)) _ ⟩) fun _ => rfl) <| .a (fun k => k.eq1 4 23 rfl) .nil
 refine aftI au a3 aG fun cG cH co bi bj cp bk => ?_
 have b4 := bk.ge 5 4 rfl
 refine st_nil (bh _ _ ?_)
 refine wp_ret (ret_k bi (v := .bool (equalM (Nm.mk ((cleanV v).nk) ((cleanV v).nn)) (Nm.mk ((cleanV u).nk) ((cleanV u).nn)))) (res_t rfl b4 _) ?_)
 refine ⟨?_, bj⟩
 show Ending.returned (.bool (equalM (Nm.mk ((cleanV v).nk) ((cleanV v).nn)) (Nm.mk ((cleanV u).nk) ((cleanV u).nn)))) = Ending.returned (.bool (strictV v u))
 first | rfl | (simp only [strictV, ab, aa, bsm] <;> rfl) | (exfalso; omega)
 have a5 := oF aa
 have bl := hB a4 aa
 refine wp_cond_false bl ?_
 refine wp_skip ?_
 refine bV _ _ ?_
 refine wp_seq_k fun cI bm => ?_
 refine wp_g0 [true, true, true, true] [] 27
   [ve (vv (cleanV v) az ag aA ah), ve (vv (cleanV u) aB ai aC aj), ve (.bool (sameV (cleanV v) (cleanV u))), ve (.bool (sameV (cleanV v) (cleanV u)))] au (.eq (.eq (.eq (.eq (.nil))))) ?_ ?_
 exact .t (fun _ w hn k => ⟨_, v_load rfl (k.fx 2 bA) (l_agg Tryd.isAgg29 Tryd.sizeOf29 (aH.new_ hn) rfl), rfl⟩) <| .t (fun _ w hn k => ⟨_, v_load rfl (k.fx 3 bB) (l_agg Tryd.isAgg29 Tryd.sizeOf29 (aI.new_ hn) rfl), rfl⟩) <| .o1 (ck rfl rfl rfl (fun _ w hn k => ⟨#[vv (cleanV v) az ag aA ah, vv (cleanV u) aB ai aC aj], args2 (k.eq1 0 24 rfl) (k.eq1 1 25 rfl), fun _ => by kernel_rfl, vsame_c (cleanV v) _ _ _ _ (cleanV u) _ _ _ _ _ (bb.new_ hn) (bd.new_ hn) (be.new_ hn) (bf.new_ hn)⟩) fun _ => rfl) <| .a (fun k => k.eq1 2 26 rfl) .nil
 refine aftI au a3 aG fun cJ cK cq bn bo cr bp => ?_
 have b5 := bp.ge 3 4 rfl
 refine st_nil (bm _ _ ?_)
 refine wp_ret (ret_k bn (v := .bool (sameV (cleanV v) (cleanV u))) (res_t rfl b5 _) ?_)
 refine ⟨?_, bo⟩
 show Ending.returned (.bool (sameV (cleanV v) (cleanV u))) = Ending.returned (.bool (strictV v u))
 first | rfl | (simp only [strictV, ab, aa, bsm] <;> rfl) | (exfalso; omega)
 have ba := oF ab
 refine wp_g0 [true, true, true, true, true, true] [] 27
   [ve (pv q9), ve (iv ((cleanV v).k)), ve (pv aw), ve (iv ((cleanV u).k)), vT, vT] ao (.eq (.eq (.eq (.eq (.eq (.eq (.nil))))))) ?_ ?_
 exact .f (fun k => k.fx 2 ax) <| .t (fun _ w hn k => ⟨_, v_load rfl (k.eq1 0 10 rfl) (l_one Tryd.isAgg3 ((ar.new_ hn).cell 0)), rfl⟩) <| .f (fun k => k.fx 3 ay) <| .t (fun _ w hn k => ⟨_, v_load rfl (k.eq1 2 12 rfl) (l_one Tryd.isAgg3 ((aq.new_ hn).cell 0)), rfl⟩) <| .t (fun _ w hn k => ⟨_, v_bin rfl (k.eq1 1 11 rfl) (k.eq1 3 13 rfl) (fun _ => rfl) (r_neq ab), rfl⟩) <| .a (fun k => k.eq1 4 14 rfl) .nil
 refine aftI ao aP aX fun cL cM aJ bq br ac av => ?_
 have cN := av.fx 2 ax
 have cO := av.fx 3 ay
 have b6 := av.ge 5 9 rfl
 have ct := ar.new_ ac
 have cw := aq.new_ ac
 have cx := aT.new_ ac
 have cy := aU.new_ ac
 have cz := aV.new_ ac
 have cA := aW.new_ ac
 refine st_nil (aY _ _ ?_)
 refine wp_cond_true b6 ?_
 refine wp_seq_k fun cP bs => ?_
 refine wp_g0 [true] [] 27
   [vF] aJ (.eq (.nil)) ?_ ?_
 exact .t (fun _ w hn k => ⟨_, v_assign rfl rfl, rfl⟩) .nil
 refine aftI aJ bq br fun cQ cR cB bt bu cC bv => ?_
 have b7 := bv.ge 0 4 rfl
 refine st_nil (bs _ _ ?_)
 refine wp_ret (ret_k bt (v := .bool false) (res_t rfl b7 _) ?_)
 refine ⟨?_, bu⟩
 show Ending.returned (.bool false) = Ending.returned (.bool (strictV v u))
 first | rfl | (simp only [strictV, ab, bsm] <;> rfl) | (exfalso; omega)
theorem cbool_c (v : Vl) (Av : Option Addr) (cv : Nat) (Bv : Option Addr) (dv : Nat) (w : World) (hmv : SRow w .u32 Av v.mag cv) (hsv : SRow w .u16 Bv v.s dv) : Calls Tryd.prog 17 #[vv v Av cv Bv dv] w (IsRet (.bool (boolV v)) w) := by
 refine enter_abs Tryd.func17 rfl fun a0 aN cD hp => ?_
 have aN : a0.tmps.size = 41 := aN
 have bO : New w w := Upd.refl _ _
 have hp0 : a0.eval (.tmp 0) = vv v Av cv Bv dv := hp 0 _ rfl
 refine wp_seq_k fun K1 cE => ?_
 refine wp_g [true, true] [] [] 41
   [IsNew w 29 [iv v.k, iv v.nk, iv v.nn, .bool v.neg, sv Av v.mag cv, sv Bv v.s dv, iv v.ref], vF]
   [0] (newsCons (fun v w h => IsNew.old h) newsNil) aN (.nw (.eq (.nil))) ?_ (fun i h => by cases h) ?_
 exact .o2 (step_allocN (cs := [iv v.k, iv v.nk, iv v.nn, .bool v.neg, sv Av v.mag cv, sv Bv v.s dv, iv v.ref]) (t := 29) rfl (noG rfl) (fun _ w hn k => v_box rfl (k.fx 0 hp0) (fun w => rfl)) (fun q _ hq hb => ⟨q, rfl, hq, hb⟩)) <| .t (fun _ w hn k => ⟨_, v_assign rfl rfl, rfl⟩) .nil
 refine aftI aN cD bO fun a2 w3 bP cF aB dx cG => ?_
 obtain ⟨q9, h8, bW, aS⟩ : IsNew _ _ _ _ _ := cG.got 0 1 rfl (by kernel_rfl)
 have c1 := Nat.le_trans bO.size bW
 refine st_nil (cE _ _ (wp_seq_k fun dy bX => ?_))
 refine wp_g0 [true, true, false] [(2, false)] 41
   [ve (vv v Av cv Bv dv),
    (VP (cleanV v)), vt] bP (.eq (.cons (fun v W W' hn ⟨A5, c6, A7, c8, he, h0, h1⟩ => ⟨A5, c6, A7, c8, he, h0.new_ hn, h1.new_ hn⟩) (.tt (.nil)))) ?_ ?_
 refine .t (fun _ w hn k => ⟨_, v_load rfl (k.fx 1 h8) (l_agg Tryd.isAgg29 Tryd.sizeOf29 (aS.new_ hn) rfl), rfl⟩) ?_
 refine .o1 (tkC rfl (noG rfl) rfl fun _ w hn k => (by
       refine ⟨#[vv v Av cv Bv dv], _, args1 (k.eq1 0 3 rfl), fun w => by kernel_rfl, clean_c v _ _ _ _ _ (hmv.new_ (aB.transNew hn)) (hsv.new_ (aB.transNew hn)), ?_⟩
       rintro e w' ⟨A1, c2, A3, c4, rfl, hmo0, hmo1, hm⟩
       exact ⟨_, rfl, hm, ⟨A1, c2, A3, c4, rfl, hmo0, hmo1⟩⟩)) ?_
 exact .off .nil
 refine aftI bP cF aB fun cH dz aT bY bZ b0 aU => ?_
 have aV := aU.fx 1 h8
 obtain ⟨az, ak, aA, al, aW, b1, b2⟩ : (VP (cleanV v)) _ _ := aU.got 1 4 rfl (by kernel_rfl)
 have aW : cH.eval (.tmp 4) = vv (cleanV v) az ak aA al := aW
 have aC := aS.new_ b0
 obtain ⟨cI, bd, be, aD, c3⟩ := s_many (P := Tryd.prog) (t := 29) (i := 0) [iv ((cleanV v).k), iv ((cleanV v).nk), iv ((cleanV v).nn), .bool ((cleanV v).neg), sv az ((cleanV v).mag) ak, sv aA ((cleanV v).s) al, iv ((cleanV v).ref)] Tryd.sizeOf29 rfl rfl rfl aC lb
 have aX : Blk cI q9 29 [iv ((cleanV v).k), iv ((cleanV v).nk), iv ((cleanV v).nn), .bool ((cleanV v).neg), sv az ((cleanV v).mag) ak, sv aA ((cleanV v).s) al, iv ((cleanV v).ref)] := be
 refine st_act rfl rfl fun dA b3 => a_store' rfl aV aW bd (b3 _ _ trivial ?_)
 have b4 := b1.far aC aD (by first | rfl | decide | simp [notK])
 have b5 := b2.far aC aD (by first | rfl | decide | simp [notK])
 have b6 := bZ.trans aD (fun _ h b => by subst b; omega)
 refine st_nil (bX _ _ (wp_seq_k fun dB b7 => ?_))
 refine wp_seq_k fun dC b8 => ?_
 refine wp_g0 [true, true] [] 41
   [ve (pv q9), ve (iv ((cleanV v).k))] aT (.eq (.eq (.nil))) ?_ ?_
 exact .f (fun k => k.fx 1 aV) <| .t (fun _ w hn k => ⟨_, v_load rfl (k.eq1 0 5 rfl) (l_one Tryd.isAgg3 ((aX.new_ hn).cell 0)), rfl⟩) .nil
 refine aftI aT bY b6 fun dD dE aY b9 ca aE aZ => ?_
 have cJ := aZ.fx 1 aV
 have bQ := aZ.ge 1 6 rfl
 have cb := aX.new_ aE
 have cc := b4.new_ aE
 have cd := b5.new_ aE
 refine st_nil (b8 _ _ ?_)
 refine wp_block ?_
 refine wp_seq_k fun dF ce => ?_
 refine wp_g0 [true, true] [] 41
   [ve (.bool (decide (((cleanV v).k) = 2))), ve (.bool (decide (((cleanV v).k) = 2)))] aY (.eq (.eq (.nil))) ?_ ?_
 exact .t (fun _ w hn k => ⟨_, v_bin rfl (k.fx 6 bQ) rfl (fun _ => rfl) (r_eql rfl), rfl⟩) <| .a (fun k => k.eq1 0 8 rfl) .nil
 refine aftI aY b9 ca fun dG dH am a1 a3 aF aG => ?_
 have bR := aG.fx 1 cJ
 have bS := aG.fx 6 bQ
 have bT := aG.ge 1 7 rfl
 have a4 := cb.new_ aF
 have cf := cc.new_ aF
 have ch := cd.new_ aF
 refine st_nil (ce _ _ ?_)
 rcases bc (decide (((cleanV v).k) = 2)) with aa | aa
 have bf := oT aa
 have ci := hB bT aa
 refine wp_cond_true ci ?_
 refine wp_seq_k fun dI cj => ?_
 refine wp_g0 [true, true, true, true] [] 41
   [ve (.pointer (some ⟨q9, 6, none⟩)), ve (iv ((cleanV v).ref)), ve (.bool (decide (((cleanV v).ref) = 1))), ve (.bool (decide (((cleanV v).ref) = 1)))] am (.eq (.eq (.eq (.eq (.nil))))) ?_ ?_
 exact .f (fun k => k.fx 1 bR) <| .t (fun _ w hn k => ⟨_, v_load rfl (k.eq1 0 9 rfl) (l_one Tryd.isAgg3 ((a4.new_ hn).cell 6)), rfl⟩) <| .t (fun _ w hn k => ⟨_, v_bin rfl (k.eq1 1 10 rfl) rfl (fun _ => rfl) (r_eql rfl), rfl⟩) <| .a (fun k => k.eq1 2 11 rfl) .nil
 refine aftI am a1 a3 fun dJ dK c5 cl cm c7 cn => ?_
 have cK := cn.ge 3 2 rfl
 refine st_nil (cj _ _ ?_)
 refine wp_ret (ret_k cl (v := .bool (decide (((cleanV v).ref) = 1))) (res_t rfl cK _) ?_)
 refine ⟨?_, cm⟩
 show Ending.returned (.bool (decide (((cleanV v).ref) = 1))) = Ending.returned (.bool (boolV v))
 first | rfl | (simp only [boolV, aa, bsm] <;> rfl) | (exfalso; omega)
 have bf := oF aa
 have co := hB bT aa
 refine wp_cond_false co ?_
 refine wp_seq_k fun dL cp => ?_
 refine wp_g0 [true, true] [] 41
   [ve (.bool (decide (((cleanV v).k) = 3))), ve (.bool (decide (((cleanV v).k) = 3)))] am (.eq (.eq (.nil))) ?_ ?_
 exact .t (fun _ w hn k => ⟨_, v_bin rfl (k.fx 6 bS) rfl (fun _ => rfl) (r_eql rfl), rfl⟩) <| .a (fun k => k.eq1 0 13 rfl) .nil
 refine aftI am a1 a3 fun dM dN aj aH aI aJ aK => ?_
 have aO := aK.fx 1 bR
 have bU := aK.fx 6 bS
 have bV := aK.ge 1 12 rfl
 have an := a4.new_ aJ
 have cq := cf.new_ aJ
 have cr := ch.new_ aJ
 refine st_nil (cp _ _ ?_)
 rcases bc (decide (((cleanV v).k) = 3)) with ac | ac
 have bg := oT ac
 have ct := hB bV ac
 refine wp_cond_true ct ?_
 refine wp_seq_k fun dO a5 => ?_
 rcases bc (decide (((cleanV v).nk) = 2)) with ai | ai
 have bh := oT ai
 refine wp_g0 (.replicate 12 true) [] 41
   [ve (.pointer (some ⟨q9, 1, none⟩)), ve (.pointer (some ⟨q9, 1, none⟩)), ve (iv ((cleanV v).nk)), vF, vF, vU, vU, vU, vU, vU, vF, vF] aj (.eq (.eq (.eq (.eq (.eq (.eq (.eq (.eq (.eq (.eq (.eq (.eq (.nil))))))))))))) ?_ ?_
 exact .f (fun k => k.fx 1 aO) <| .f (fun k => k.eq1 0 14 rfl) <| .t (fun _ w hn k => ⟨_, v_load rfl (k.eq1 1 15 rfl) (l_one Tryd.isAgg3 ((an.new_ hn).cell 1)), rfl⟩) <| .t (fun _ w hn k => ⟨_, v_bin rfl (k.eq1 2 16 rfl) rfl (fun _ => rfl) (r_neq ai), rfl⟩) <| .m (fun k => k.eq1 3 17 rfl) <| .s (fun k => k.eq1 4 18 rfl) <| .s (fun k => k.eq1 4 18 rfl) <| .s (fun k => k.eq1 4 18 rfl) <| .s (fun k => k.eq1 4 18 rfl) <| .s (fun k => k.eq1 4 18 rfl) <| .t (fun _ w hn k => ⟨_, v_pickF rfl (k.eq1 4 18 rfl) rfl, rfl⟩) <| .a (fun k => k.eq1 10 24 rfl) .nil
 refine aftI aj aH aI fun dP c9 cL bi bj cM bk => ?_
 have cu := bk.ge 11 2 rfl
 refine st_nil (a5 _ _ ?_)
 refine wp_ret (ret_k bi (v := .bool false) (res_t rfl cu _) ?_)
 refine ⟨?_, bj⟩
 show Ending.returned (.bool false) = Ending.returned (.bool (boolV v))
 first | rfl | (simp only [boolV, aa, ac, ai, bsm] <;> rfl) | (exfalso; omega)
 have bh := oF ai
 refine wp_g0 (.replicate 12 true) [] 41
   [ve (.pointer (some ⟨q9, 1, none⟩)), ve (.pointer (some ⟨q9, 1, none⟩)), ve (iv ((cleanV v).nk)), vT, vT, ve (.pointer (some ⟨q9, 1, none⟩)), ve (nv (Nm.mk ((cleanV v).nk) ((cleanV v).nn))), ve (nv (Nm.mk 0 0)), ve (.bool (equalM (Nm.mk ((cleanV v).nk) ((cleanV v).nn)) (Nm.mk 0 0))), ve (.bool (!(equalM (Nm.mk ((cleanV v).nk) ((cleanV v).nn)) (Nm.mk 0 0)))), ve (.bool (!(equalM (Nm.mk ((cleanV v).nk) ((cleanV v).nn)) (Nm.mk 0 0)))), ve (.bool (!(equalM (Nm.mk ((cleanV v).nk) ((cleanV v).nn)) (Nm.mk 0 0))))] aj (.eq (.eq (.eq (.eq (.eq (.eq (.eq (.eq (.eq (.eq (.eq (.eq (.nil))))))))))))) ?_ ?_
 exact .f (fun k => k.fx 1 aO) <| .f (fun k => k.eq1 0 14 rfl) <| .t (fun _ w hn k => ⟨_, v_load rfl (k.eq1 1 15 rfl) (l_one Tryd.isAgg3 ((an.new_ hn).cell 1)), rfl⟩) <| .t (fun _ w hn k => ⟨_, v_bin rfl (k.eq1 2 16 rfl) rfl (fun _ => rfl) (r_neq ai), rfl⟩) <| .m (fun k => k.eq1 3 17 rfl) <| .gf (fun k => k.eq1 4 18 rfl) (fun k => k.fx 1 aO) <| .g (fun k => k.eq1 4 18 rfl) (fun _ w hn k => ⟨_, v_load rfl (k.eq1 5 19 rfl) (l_part Tryd.isAgg23 Tryd.sizeOf23 (an.new_ hn) lb), rfl⟩) <| .g (fun k => k.eq1 4 18 rfl) (fun _ w hn k => ⟨_, v_build (ps := []) rfl parts0 (by kernel_rfl), rfl⟩) <| .o1 (cg rfl rfl rfl (fun _ _ k => k.eq1 4 18 rfl) rfl (fun _ w hn k => ⟨#[nv (Nm.mk ((cleanV v).nk) ((cleanV v).nn)), nv (Nm.mk 0 0)], args2 (k.eq1 6 20 rfl) (k.eq1 7 21 rfl), fun _ => by kernel_rfl, equal_c (Nm.mk ((cleanV v).nk) ((cleanV v).nn)) (Nm.mk 0 0) _ ⟩) fun _ => rfl) <| .g (fun k => k.eq1 4 18 rfl) (fun _ w hn k => ⟨_, v_not rfl (k.eq1 8 22 rfl), rfl⟩) <| .t (fun _ w hn k => ⟨_, v_pickT rfl (k.eq1 4 18 rfl) (k.eq1 9 23 rfl), rfl⟩) <| .a (fun k => k.eq1 10 24 rfl) .nil
 refine aftI aj aH aI fun da db cN bl bm cO bn => ?_
 have cw := bn.ge 11 2 rfl
 refine st_nil (a5 _ _ ?_)
 refine wp_ret (ret_k bl (v := .bool (!(equalM (Nm.mk ((cleanV v).nk) ((cleanV v).nn)) (Nm.mk 0 0)))) (res_t rfl cw _) ?_)
 refine ⟨?_, bm⟩
 show Ending.returned (.bool (!(equalM (Nm.mk ((cleanV v).nk) ((cleanV v).nn)) (Nm.mk 0 0)))) = Ending.returned (.bool (boolV v))
 first | rfl | (simp only [boolV, aa, ac, ai, bsm] <;> rfl) | (exfalso; omega)
 have bg := oF ac
 have bo := hB bV ac
 refine wp_cond_false bo ?_
 refine wp_seq_k fun dc bp => ?_
 refine wp_g0 [true, true] [] 41
   [ve (.bool (decide (((cleanV v).k) = 4))), ve (.bool (decide (((cleanV v).k) = 4)))] aj (.eq (.eq (.nil))) ?_ ?_
 exact .t (fun _ w hn k => ⟨_, v_bin rfl (k.fx 6 bU) rfl (fun _ => rfl) (r_eql rfl), rfl⟩) <| .a (fun k => k.eq1 0 26 rfl) .nil
 refine aftI aj aH aI fun dd de ag ao ap aq ar => ?_
 have aL := ar.fx 1 aO
 have cx := ar.fx 6 bU
 have a6 := ar.ge 1 25 rfl
 have au := an.new_ aq
 have bq := cq.new_ aq
 have br := cr.new_ aq
 refine st_nil (bp _ _ ?_)
 rcases bc (decide (((cleanV v).k) = 4)) with ab | ab
 have a7 := oT ab
 have bs := hB a6 ab
 refine wp_cond_true bs ?_
 refine wp_seq_k fun df aP => ?_
 rcases bc (decide ((((cleanV v).mag).length : Int) ≤ 0)) with ae | ae
 have a8 := oT ae
 refine wp_g0 [true, true, true, true, true, true] [] 41
   [ve (.pointer (some ⟨q9, 3, none⟩)), ve (.pointer (some ⟨q9, 4, none⟩)), ve (sv az ((cleanV v).mag) ak), ve (iv (((cleanV v).mag).length : Int)), vF, vF] ag (.eq (.eq (.eq (.eq (.eq (.eq (.nil))))))) ?_ ?_
 exact .f (fun k => k.fx 1 aL) <| .f (fun k => k.eq1 0 27 rfl) <| .t (fun _ w hn k => ⟨_, v_load rfl (k.eq1 1 28 rfl) (l_one Tryd.isAgg24 ((au.new_ hn).cell 4)), rfl⟩) <| .t (fun _ w hn k => ⟨_, v_lenR rfl elW (k.eq1 2 29 rfl), rfl⟩) <| .t (fun _ w hn k => ⟨_, v_bin rfl (k.eq1 3 30 rfl) rfl (fun _ => rfl) (r_gtrK ae), rfl⟩) <| .a (fun k => k.eq1 4 31 rfl) .nil
 refine aftI ag ao ap fun dg dh cP bt bu cQ bv => ?_
 have cy := bv.ge 5 2 rfl
 refine st_nil (aP _ _ ?_)
 refine wp_ret (ret_k bt (v := .bool false) (res_t rfl cy _) ?_)
 refine ⟨?_, bu⟩
 show Ending.returned (.bool false) = Ending.returned (.bool (boolV v))
 first | rfl | (simp only [boolV, aa, ac, ab, ae, bsm] <;> rfl) | (exfalso; omega)
 have a8 := oF ae
 refine wp_g0 [true, true, true, true, true, true] [] 41
   [ve (.pointer (some ⟨q9, 3, none⟩)), ve (.pointer (some ⟨q9, 4, none⟩)), ve (sv az ((cleanV v).mag) ak), ve (iv (((cleanV v).mag).length : Int)), vT, vT] ag (.eq (.eq (.eq (.eq (.eq (.eq (.nil))))))) ?_ ?_
 exact .f (fun k => k.fx 1 aL) <| .f (fun k => k.eq1 0 27 rfl) <| .t (fun _ w hn k => ⟨_, v_load rfl (k.eq1 1 28 rfl) (l_one Tryd.isAgg24 ((au.new_ hn).cell 4)), rfl⟩) <| .t (fun _ w hn k => ⟨_, v_lenR rfl elW (k.eq1 2 29 rfl), rfl⟩) <| .t (fun _ w hn k => ⟨_, v_bin rfl (k.eq1 3 30 rfl) rfl (fun _ => rfl) (r_gtrK ae), rfl⟩) <| .a (fun k => k.eq1 4 31 rfl) .nil
 refine aftI ag ao ap fun di dj cR bw bx cS bz => ?_
 have cz := bz.ge 5 2 rfl
 refine st_nil (aP _ _ ?_)
 refine wp_ret (ret_k bw (v := .bool true) (res_t rfl cz _) ?_)
 refine ⟨?_, bx⟩
 show Ending.returned (.bool true) = Ending.returned (.bool (boolV v))
 first | rfl | (simp only [boolV, aa, ac, ab, ae, bsm] <;> rfl) | (exfalso; omega)
 have a7 := oF ab
 have bA := hB a6 ab
 refine wp_cond_false bA ?_
 refine wp_seq_k fun dk bB => ?_
 refine wp_g0 [true, true] [] 41
   [ve (.bool (decide (((cleanV v).k) = 5))), ve (.bool (decide (((cleanV v).k) = 5)))] ag (.eq (.eq (.nil))) ?_ ?_
 exact .t (fun _ w hn k => ⟨_, v_bin rfl (k.fx 6 cx) rfl (fun _ => rfl) (r_eql rfl), rfl⟩) <| .a (fun k => k.eq1 0 33 rfl) .nil
 refine aftI ag ao ap fun dl dm ah av aw ax aQ => ?_
 have aM := aQ.fx 1 aL
 have a9 := aQ.ge 1 32 rfl
 have ay := au.new_ ax
 have cT := bq.new_ ax
 have cU := br.new_ ax
 refine st_nil (bB _ _ ?_)
 rcases bc (decide (((cleanV v).k) = 5)) with ad | ad
 have ba := oT ad
 have bC := hB a9 ad
 refine wp_cond_true bC ?_
 refine wp_seq_k fun dn aR => ?_
 rcases bc (decide ((((cleanV v).s).length : Int) ≤ 0)) with af | af
 have bb := oT af
 refine wp_g0 [true, true, true, true, true] [] 41
   [ve (.pointer (some ⟨q9, 5, none⟩)), ve (sv aA ((cleanV v).s) al), ve (iv (((cleanV v).s).length : Int)), vF, vF] ah (.eq (.eq (.eq (.eq (.eq (.nil)))))) ?_ ?_
 exact .f (fun k => k.fx 1 aM) <| .t (fun _ w hn k => ⟨_, v_load rfl (k.eq1 0 34 rfl) (l_one Tryd.isAgg27 ((ay.new_ hn).cell 5)), rfl⟩) <| .t (fun _ w hn k => ⟨_, v_lenR rfl elU (k.eq1 1 35 rfl), rfl⟩) <| .t (fun _ w hn k => ⟨_, v_bin rfl (k.eq1 2 36 rfl) rfl (fun _ => rfl) (r_gtrK af), rfl⟩) <| .a (fun k => k.eq1 3 37 rfl) .nil
 refine aftI ah av aw fun dp dq cV bD bE cW bF => ?_
 have cA := bF.ge 4 2 rfl
 refine st_nil (aR _ _ ?_)
 refine wp_ret (ret_k bD (v := .bool false) (res_t rfl cA _) ?_)
 refine ⟨?_, bE⟩
 show Ending.returned (.bool false) = Ending.returned (.bool (boolV v))
 first | rfl | (simp only [boolV, aa, ac, ab, ad, af, bsm] <;> rfl) | (exfalso; omega)
 have bb := oF af
 refine wp_g0 [true, true, true, true, true] [] 41
   [ve (.pointer (some ⟨q9, 5, none⟩)), ve (sv aA ((cleanV v).s) al), ve (iv (((cleanV v).s).length : Int)), vT, vT] ah (.eq (.eq (.eq (.eq (.eq (.nil)))))) ?_ ?_
 exact .f (fun k => k.fx 1 aM) <| .t (fun _ w hn k => ⟨_, v_load rfl (k.eq1 0 34 rfl) (l_one Tryd.isAgg27 ((ay.new_ hn).cell 5)), rfl⟩) <| .t (fun _ w hn k => ⟨_, v_lenR rfl elU (k.eq1 1 35 rfl), rfl⟩) <| .t (fun _ w hn k => ⟨_, v_bin rfl (k.eq1 2 36 rfl) rfl (fun _ => rfl) (r_gtrK af), rfl⟩) <| .a (fun k => k.eq1 3 37 rfl) .nil
 refine aftI ah av aw fun dr ds cX bG bH cY bI => ?_
 have cB := bI.ge 4 2 rfl
 refine st_nil (aR _ _ ?_)
 refine wp_ret (ret_k bG (v := .bool true) (res_t rfl cB _) ?_)
 refine ⟨?_, bH⟩
 show Ending.returned (.bool true) = Ending.returned (.bool (boolV v))
 first | rfl | (simp only [boolV, aa, ac, ab, ad, af, bsm] <;> rfl) | (exfalso; omega)
 have ba := oF ad
 have bJ := hB a9 ad
 refine wp_cond_false bJ ?_
 refine wp_skip ?_
 refine b7 _ _ ?_
 refine wp_seq_k fun dt bK => ?_
 refine wp_g0 [true, true, true, true] [] 41
   [ve (pv q9), ve (iv ((cleanV v).k)), ve (.bool (decide (((cleanV v).k) = 6))), ve (.bool (decide (((cleanV v).k) = 6)))] ah (.eq (.eq (.eq (.eq (.nil))))) ?_ ?_
 exact .f (fun k => k.fx 1 aM) <| .t (fun _ w hn k => ⟨_, v_load rfl (k.eq1 0 38 rfl) (l_one Tryd.isAgg3 ((ay.new_ hn).cell 0)), rfl⟩) <| .t (fun _ w hn k => ⟨_, v_bin rfl (k.eq1 1 39 rfl) rfl (fun _ => rfl) (r_eql rfl), rfl⟩) <| .a (fun k => k.eq1 2 40 rfl) .nil
 refine aftI ah av aw fun du dw cZ bL bM c0 bN => ?_
 have cC := bN.ge 3 2 rfl
 refine st_nil (bK _ _ ?_)
 refine wp_ret (ret_k bL (v := .bool (decide (((cleanV v).k) = 6))) (res_t rfl cC _) ?_)
 refine ⟨?_, bM⟩
 show Ending.returned (.bool (decide (((cleanV v).k) = 6))) = Ending.returned (.bool (boolV v))
 first | rfl | (simp only [boolV, aa, ac, ab, ad, bsm] <;> rfl) | (exfalso; omega)
theorem cloose_c (v : Vl) (Av : Option Addr) (cv : Nat) (Bv : Option Addr) (dv : Nat) (u : Vl) (Au : Option Addr) (cu : Nat) (Bu : Option Addr) (du : Nat) (w : World) (hmv : SRow w .u32 Av v.mag cv) (hsv : SRow w .u16 Bv v.s dv) (hmu : SRow w .u32 Au u.mag cu) (hsu : SRow w .u16 Bu u.s du) (hvv : VOk v) (hvu : VOk u) : Calls Tryd.prog 8 #[vv v Av cv Bv dv, vv u Au cu Bu du] w (IsRet (.tuple #[.bool ((looseV v u).1), iv ((looseV v u).2)]) w) := by
 refine enter_abs Tryd.func8 rfl fun a0 cO jQ hp => ?_
 have cO : a0.tmps.size = 91 := cO
 have d3 : New w w := Upd.refl _ _
 have hp0 : a0.eval (.tmp 0) = vv v Av cv Bv dv := hp 0 _ rfl
 have hp1 : a0.eval (.tmp 1) = vv u Au cu Bu du := hp 1 _ rfl
 have hlv1 := hvv.clean.mlen
 have hlu1 := hvu.clean.mlen
 have hlv2 := hvv.clean.counted.mlen
 have hlu2 := hvu.clean.counted.mlen
 have mR := hvv.clean.counted.nlo
 have mS := hvv.clean.counted.nhi
 have mT := hvu.clean.counted.nlo
 have mU := hvu.clean.counted.nhi
 refine wp_seq_k fun K1 jR => ?_
 refine wp_g [true, true, true, true] [] [] 91
   [IsNew w 29 [iv v.k, iv v.nk, iv v.nn, .bool v.neg, sv Av v.mag cv, sv Bv v.s dv, iv v.ref], IsNew w 29 [iv u.k, iv u.nk, iv u.nn, .bool u.neg, sv Au u.mag cu, sv Bu u.s du, iv u.ref], vF, ve (iv 0)]
   [0, 1] (newsCons (fun v w h => IsNew.old h) (newsCons (fun v w h => IsNew.old h) newsNil)) cO (.nw (.nw (.eq (.eq (.nil))))) ?_ (fun i h => by cases h) ?_
 exact .o2 (step_allocN (cs := [iv v.k, iv v.nk, iv v.nn, .bool v.neg, sv Av v.mag cv, sv Bv v.s dv, iv v.ref]) (t := 29) rfl (noG rfl) (fun _ w hn k => v_box rfl (k.fx 0 hp0) (fun w => rfl)) (fun q _ hq hb => ⟨q, rfl, hq, hb⟩)) <| .o2 (step_allocN (cs := [iv u.k, iv u.nk, iv u.nn, .bool u.neg, sv Au u.mag cu, sv Bu u.s du, iv u.ref]) (t := 29) rfl (noG rfl) (fun _ w hn k => v_box rfl (k.fx 1 hp1) (fun w => rfl)) (fun q _ hq hb => ⟨q, rfl, hq, hb⟩)) <| .t (fun _ w hn k => ⟨_, v_assign rfl rfl, rfl⟩) <| .t (fun _ w hn k => ⟨_, v_assign rfl rfl, rfl⟩) .nil
 refine aftI cO jQ d3 fun a2 w3 ig jS bw mV d4 => ?_
 obtain ⟨q9, h8, ij, d5⟩ : IsNew _ _ _ _ _ := d4.got 0 2 rfl (by kernel_rfl)
 obtain ⟨aB, d6, ik, d7⟩ : IsNew _ _ _ _ _ := d4.got 1 3 rfl (by kernel_rfl)
 have hne16 : q9 ≠ aB := d4.ne 0 1 2 3 h8 d6
 have k5 := Nat.le_trans d3.size ij
 have k6 := Nat.le_trans d3.size ik
 refine st_nil (jR _ _ (wp_seq_k fun mW il => ?_))
 refine wp_g0 [true, true, true, true, false, false] [(4, false), (5, false)] 91
   [ve (vv v Av cv Bv dv),
    (VP (cleanV v)), ve (vv u Au cu Bu du),
    (VP (cleanV u)), vt, vt] ig (.eq (.cons (fun v W W' hn ⟨A5, c6, A7, c8, he, h0, h1⟩ => ⟨A5, c6, A7, c8, he, h0.new_ hn, h1.new_ hn⟩) (.eq (.cons (fun v W W' hn ⟨jT, jU, jV, jW, he, h0, h1⟩ => ⟨jT, jU, jV, jW, he, h0.new_ hn, h1.new_ hn⟩) (.tt (.tt (.nil))))))) ?_ ?_
 refine .t (fun _ w hn k => ⟨_, v_load rfl (k.fx 2 h8) (l_agg Tryd.isAgg29 Tryd.sizeOf29 (d5.new_ hn) rfl), rfl⟩) ?_
 refine .o1 (tkC rfl (noG rfl) rfl fun _ w hn k => (by
       refine ⟨#[vv v Av cv Bv dv], _, args1 (k.eq1 0 8 rfl), fun w => by kernel_rfl, clean_c v _ _ _ _ _ (hmv.new_ (bw.transNew hn)) (hsv.new_ (bw.transNew hn)), ?_⟩
       rintro e w' ⟨A1, c2, A3, c4, rfl, hmo0, hmo1, hm⟩
       exact ⟨_, rfl, hm, ⟨A1, c2, A3, c4, rfl, hmo0, hmo1⟩⟩)) ?_
 refine .t (fun _ w hn k => ⟨_, v_load rfl (k.fx 3 d6) (l_agg Tryd.isAgg29 Tryd.sizeOf29 (d7.new_ hn) rfl), rfl⟩) ?_
 refine .o1 (tkC rfl (noG rfl) rfl fun _ w hn k => (by
       refine ⟨#[vv u Au cu Bu du], _, args1 (k.eq1 2 10 rfl), fun w => by kernel_rfl, clean_c u _ _ _ _ _ (hmu.new_ (bw.transNew hn)) (hsu.new_ (bw.transNew hn)), ?_⟩
       rintro e w' ⟨A9, jX, jY, jZ, rfl, hmo0, hmo1, hm⟩
       exact ⟨_, rfl, hm, ⟨A9, jX, jY, jZ, rfl, hmo0, hmo1⟩⟩)) ?_
 exact .off <| .off .nil
 refine aftI ig jS bw fun ih mX d8 im io d9 bJ => ?_
 have ea := bJ.fx 2 h8
 have eb := bJ.fx 3 d6
 obtain ⟨aC, ak, aq, al, ec, ip, iq⟩ : (VP (cleanV v)) _ _ := bJ.got 1 9 rfl (by kernel_rfl)
 have ec : ih.eval (.tmp 9) = vv (cleanV v) aC ak aq al := ec
 obtain ⟨aJ, aD, aM, aE, ed, ir, it⟩ : (VP (cleanV u)) _ _ := bJ.got 3 11 rfl (by kernel_rfl)
 have ed : ih.eval (.tmp 11) = vv (cleanV u) aJ aD aM aE := ed
 have bx := d5.new_ d9
 have iu := d7.new_ d9
 obtain ⟨j0, e0, e1, bz, iw⟩ := s_many (P := Tryd.prog) (t := 29) (i := 0) [iv ((cleanV v).k), iv ((cleanV v).nk), iv ((cleanV v).nn), .bool ((cleanV v).neg), sv aC ((cleanV v).mag) ak, sv aq ((cleanV v).s) al, iv ((cleanV v).ref)] Tryd.sizeOf29 rfl rfl rfl bx lb
 have ix : Blk j0 q9 29 [iv ((cleanV v).k), iv ((cleanV v).nk), iv ((cleanV v).nn), .bool ((cleanV v).neg), sv aC ((cleanV v).mag) ak, sv aq ((cleanV v).s) al, iv ((cleanV v).ref)] := e1
 refine st_act rfl rfl fun mY iy => a_store' rfl ea ec e0 (iy _ _ trivial ?_)
 have iz := ip.far bx bz (by first | rfl | decide | simp [notK])
 have iA := iq.far bx bz (by first | rfl | decide | simp [notK])
 have iB := ir.far bx bz (by first | rfl | decide | simp [notK])
 have iC := it.far bx bz (by first | rfl | decide | simp [notK])
 have bA := iw _ _ _ (fun h => hne16 h.symm) iu
 have iD := io.trans bz (fun _ h b => by subst b; omega)
 obtain ⟨j1, e2, e3, bB, iE⟩ := s_many (P := Tryd.prog) (t := 29) (i := 0) [iv ((cleanV u).k), iv ((cleanV u).nk), iv ((cleanV u).nn), .bool ((cleanV u).neg), sv aJ ((cleanV u).mag) aD, sv aM ((cleanV u).s) aE, iv ((cleanV u).ref)] Tryd.sizeOf29 rfl rfl rfl bA lb
 have ee : Blk j1 aB 29 [iv ((cleanV u).k), iv ((cleanV u).nk), iv ((cleanV u).nn), .bool ((cleanV u).neg), sv aJ ((cleanV u).mag) aD, sv aM ((cleanV u).s) aE, iv ((cleanV u).ref)] := e3
 refine st_act rfl rfl fun mZ iF => a_store' rfl eb ed e2 (iF _ _ trivial ?_)
 have iG := iz.far bA bB (by first | rfl | decide | simp [notK])
 have iH := iA.far bA bB (by first | rfl | decide | simp [notK])
 have iI := iB.far bA bB (by first | rfl | decide | simp [notK])
 have iJ := iC.far bA bB (by first | rfl | decide | simp [notK])
 have ef := iE _ _ _ (hne16) ix
 have iK := iD.trans bB (fun _ h b => by subst b; omega)
 refine st_nil (il _ _ (wp_seq_k fun m0 iL => ?_))
 refine wp_block ?_
 refine wp_seq_k fun m1 iM => ?_
 refine wp_g0 [true, true, true, true, true, true] [] 91
   [ve (pv q9), ve (iv ((cleanV v).k)), ve (pv aB), ve (iv ((cleanV u).k)), ve (.bool (decide (((cleanV v).k) = ((cleanV u).k)))), ve (.bool (decide (((cleanV v).k) = ((cleanV u).k))))] d8 (.eq (.eq (.eq (.eq (.eq (.eq (.nil))))))) ?_ ?_
 exact .f (fun k => k.fx 2 ea) <| .t (fun _ w hn k => ⟨_, v_load rfl (k.eq1 0 13 rfl) (l_one Tryd.isAgg3 ((ef.new_ hn).cell 0)), rfl⟩) <| .f (fun k => k.fx 3 eb) <| .t (fun _ w hn k => ⟨_, v_load rfl (k.eq1 2 15 rfl) (l_one Tryd.isAgg3 ((ee.new_ hn).cell 0)), rfl⟩) <| .t (fun _ w hn k => ⟨_, v_bin rfl (k.eq1 1 14 rfl) (k.eq1 3 16 rfl) (fun _ => rfl) (r_eql rfl), rfl⟩) <| .a (fun k => k.eq1 4 17 rfl) .nil
 refine aftI d8 im iK fun m2 m3 be cC cD bf cE => ?_
 have cB := cE.fx 2 ea
 have cP := cE.fx 3 eb
 have ii := cE.ge 5 12 rfl
 have bC := ef.new_ bf
 have bK := ee.new_ bf
 have bD := iG.new_ bf
 have bE := iH.new_ bf
 have bL := iI.new_ bf
 have bM := iJ.new_ bf
 refine st_nil (iM _ _ ?_)
 rcases bc (decide (((cleanV v).k) = ((cleanV u).k))) with ad | ad
 have e4 := oT ad
 have iN := hB ii ad
 refine wp_cond_true iN ?_
 refine wp_seq_k fun m4 iO => ?_
 refine wp_g0 [true, true, true, true, true] [] 91
   [ve (vv (cleanV v) aC ak aq al), ve (vv (cleanV u) aJ aD aM aE), ve (.bool (strictV (cleanV v) (cleanV u))), ve (.bool (strictV (cleanV v) (cleanV u))), ve (iv 0)] be (.eq (.eq (.eq (.eq (.eq (.nil)))))) ?_ ?_
 exact .t (fun _ w hn k => ⟨_, v_load rfl (k.fx 2 cB) (l_agg Tryd.isAgg29 Tryd.sizeOf29 (bC.new_ hn) rfl), rfl⟩) <| .t (fun _ w hn k => ⟨_, v_load rfl (k.fx 3 cP) (l_agg Tryd.isAgg29 Tryd.sizeOf29 (bK.new_ hn) rfl), rfl⟩) <| .o1 (ck rfl rfl rfl (fun _ w hn k => ⟨#[vv (cleanV v) aC ak aq al, vv (cleanV u) aJ aD aM aE], args2 (k.eq1 0 18 rfl) (k.eq1 1 19 rfl), fun _ => by kernel_rfl, cstrict_c (cleanV v) _ _ _ _ (cleanV u) _ _ _ _ _ (bD.new_ hn) (bE.new_ hn) (bL.new_ hn) (bM.new_ hn)⟩) fun _ => rfl) <| .a (fun k => k.eq1 2 20 rfl) <| .t (fun _ w hn k => ⟨_, v_assign rfl rfl, rfl⟩) .nil
 refine aftI be cC cD fun m5 m6 k7 iP e5 k8 eg => ?_
 have j2 := eg.ge 3 4 rfl
 have iQ := eg.ge 4 5 rfl
 refine st_nil (iO _ _ ?_)
 refine wp_ret (ret_k iP (v := .tuple #[.bool (strictV (cleanV v) (cleanV u)), iv 0]) (res_tt rfl j2 iQ _) ?_)
 refine ⟨?_, e5⟩
 show Ending.returned (.tuple #[.bool (strictV (cleanV v) (cleanV u)), iv 0]) = Ending.returned (.tuple #[.bool ((looseV v u).1), iv ((looseV v u).2)])
 first | rfl | (simp only [looseV, loose1, loose2, loose3, noneV, ad, bsm] <;> rfl) | (exfalso; omega)
 have e4 := oF ad
 have e6 := hB ii ad
 refine wp_cond_false e6 ?_
 refine wp_seq_k fun k9 cQ => ?_
 rcases bc ((decide ((cleanV v).k = 0) || decide ((cleanV v).k = 1))) with aa | aa
 refine wp_g0 [true, true, true, true, true, true, true] [] 91
   [ve (vv (cleanV v) aC ak aq al), vT, vT, vU, vU, vT, vT] be (.eq (.eq (.eq (.eq (.eq (.eq (.eq (.nil)))))))) ?_ ?_
 exact .t (fun _ w hn k => ⟨_, v_load rfl (k.fx 2 cB) (l_agg Tryd.isAgg29 Tryd.sizeOf29 (bC.new_ hn) rfl), rfl⟩) <| .o1 (ck rfl rfl rfl (fun _ w hn k => ⟨#[vv (cleanV v) aC ak aq al], args1 (k.eq1 0 22 rfl), fun _ => by kernel_rfl, none_c (cleanV v) _ _ _ _ _ (bD.new_ hn) (bE.new_ hn)⟩) fun _ => congrArg Value.bool aa) <| .m (fun k => k.eq1 1 23 rfl) <| .s (fun k => k.eq1 2 24 rfl) <| .s (fun k => k.eq1 2 24 rfl) <| .t (fun _ w hn k => ⟨_, v_pickT rfl (k.eq1 2 24 rfl) rfl, rfl⟩) <| .a (fun k => k.eq1 5 27 rfl) .nil
 refine aftI be cC cD fun la lc cR e7 e8 aN bN => ?_
 have iR := bN.fx 2 cB
 have iS := bN.fx 3 cP
 have iT := bN.ge 6 21 rfl
 have e9 := bC.new_ aN
 have fa := bK.new_ aN
 have fb := bD.new_ aN
 have fc := bE.new_ aN
 have fd := bL.new_ aN
 have fe := bM.new_ aN
 refine st_nil (cQ _ _ ?_)
 refine wp_cond_true iT ?_
 refine wp_seq_k fun ld ff => ?_
 refine wp_g0 (.replicate 8 true) [] 91
   [ve (vv (cleanV v) aC ak aq al), vT, vT, ve (vv (cleanV u) aJ aD aM aE), ve (.bool (decide ((cleanV u).k = 0) || decide ((cleanV u).k = 1))), ve (.bool (decide ((cleanV u).k = 0) || decide ((cleanV u).k = 1))), ve (.bool (decide ((cleanV u).k = 0) || decide ((cleanV u).k = 1))), ve (iv 0)] cR (.eq (.eq (.eq (.eq (.eq (.eq (.eq (.eq (.nil))))))))) ?_ ?_
 exact .t (fun _ w hn k => ⟨_, v_load rfl (k.fx 2 iR) (l_agg Tryd.isAgg29 Tryd.sizeOf29 (e9.new_ hn) rfl), rfl⟩) <| .o1 (ck rfl rfl rfl (fun _ w hn k => ⟨#[vv (cleanV v) aC ak aq al], args1 (k.eq1 0 28 rfl), fun _ => by kernel_rfl, none_c (cleanV v) _ _ _ _ _ (fb.new_ hn) (fc.new_ hn)⟩) fun _ => congrArg Value.bool aa) <| .m (fun k => k.eq1 1 29 rfl) <| .g (fun k => k.eq1 2 30 rfl) (fun _ w hn k => ⟨_, v_load rfl (k.fx 3 iS) (l_agg Tryd.isAgg29 Tryd.sizeOf29 (fa.new_ hn) rfl), rfl⟩) <| .o1 (cg rfl rfl rfl (fun _ _ k => k.eq1 2 30 rfl) rfl (fun _ w hn k => ⟨#[vv (cleanV u) aJ aD aM aE], args1 (k.eq1 3 31 rfl), fun _ => by kernel_rfl, none_c (cleanV u) _ _ _ _ _ (fd.new_ hn) (fe.new_ hn)⟩) fun _ => rfl) <| .t (fun _ w hn k => ⟨_, v_pickT rfl (k.eq1 2 30 rfl) (k.eq1 4 32 rfl), rfl⟩) <| .a (fun k => k.eq1 5 33 rfl) <| .t (fun _ w hn k => ⟨_, v_assign rfl rfl, rfl⟩) .nil
 refine aftI cR e7 e8 fun le lf kh fg fh ki cS => ?_
 have iU := cS.ge 6 4 rfl
 have iV := cS.ge 7 5 rfl
 refine st_nil (ff _ _ ?_)
 refine wp_ret (ret_k fg (v := .tuple #[.bool (decide ((cleanV u).k = 0) || decide ((cleanV u).k = 1)), iv 0]) (res_tt rfl iU iV _) ?_)
 refine ⟨?_, fh⟩
 show Ending.returned (.tuple #[.bool (decide ((cleanV u).k = 0) || decide ((cleanV u).k = 1)), iv 0]) = Ending.returned (.tuple #[.bool ((looseV v u).1), iv ((looseV v u).2)])
 first | rfl | (simp only [looseV, loose1, loose2, loose3, noneV, ad, aa, bsm] <;> rfl) | (exfalso; omega)
 refine wp_g0 [true, true, true, true, true, true, true] [] 91
   [ve (vv (cleanV v) aC ak aq al), vF, vF, ve (vv (cleanV u) aJ aD aM aE), ve (.bool (decide ((cleanV u).k = 0) || decide ((cleanV u).k = 1))), ve (.bool (decide ((cleanV u).k = 0) || decide ((cleanV u).k = 1))), ve (.bool (decide ((cleanV u).k = 0) || decide ((cleanV u).k = 1)))] be (.eq (.eq (.eq (.eq (.eq (.eq (.eq (.nil)))))))) ?_ ?_
 exact .t (fun _ w hn k => ⟨_, v_load rfl (k.fx 2 cB) (l_agg Tryd.isAgg29 Tryd.sizeOf29 (bC.new_ hn) rfl), rfl⟩) <| .o1 (ck rfl rfl rfl (fun _ w hn k => ⟨#[vv (cleanV v) aC ak aq al], args1 (k.eq1 0 22 rfl), fun _ => by kernel_rfl, none_c (cleanV v) _ _ _ _ _ (bD.new_ hn) (bE.new_ hn)⟩) fun _ => congrArg Value.bool aa) <| .m (fun k => k.eq1 1 23 rfl) <| .g (fun k => k.eq1 2 24 rfl) (fun _ w hn k => ⟨_, v_load rfl (k.fx 3 cP) (l_agg Tryd.isAgg29 Tryd.sizeOf29 (bK.new_ hn) rfl), rfl⟩) <| .o1 (cg rfl rfl rfl (fun _ _ k => k.eq1 2 24 rfl) rfl (fun _ w hn k => ⟨#[vv (cleanV u) aJ aD aM aE], args1 (k.eq1 3 25 rfl), fun _ => by kernel_rfl, none_c (cleanV u) _ _ _ _ _ (bL.new_ hn) (bM.new_ hn)⟩) fun _ => rfl) <| .t (fun _ w hn k => ⟨_, v_pickF rfl (k.eq1 2 24 rfl) (k.eq1 4 26 rfl), rfl⟩) <| .a (fun k => k.eq1 5 27 rfl) .nil
 refine aftI be cC cD fun lg lh bg cT cU aO bO => ?_
 have cF := bO.fx 2 cB
 have eh := bO.fx 3 cP
 have ei := bO.ge 6 21 rfl
 have bP := bC.new_ aO
 have cV := bK.new_ aO
 have bQ := bD.new_ aO
 have bR := bE.new_ aO
 have cW := bL.new_ aO
 have cX := bM.new_ aO
 refine st_nil (cQ _ _ ?_)
 rcases bc ((decide ((cleanV u).k = 0) || decide ((cleanV u).k = 1))) with ac | ac
 have fi := hB ei ac
 refine wp_cond_true fi ?_
 refine wp_seq_k fun li fj => ?_
 refine wp_g0 (.replicate 8 true) [] 91
   [ve (vv (cleanV v) aC ak aq al), vF, vF, vU, vU, vF, vF, ve (iv 0)] bg (.eq (.eq (.eq (.eq (.eq (.eq (.eq (.eq (.nil))))))))) ?_ ?_
 exact .t (fun _ w hn k => ⟨_, v_load rfl (k.fx 2 cF) (l_agg Tryd.isAgg29 Tryd.sizeOf29 (bP.new_ hn) rfl), rfl⟩) <| .o1 (ck rfl rfl rfl (fun _ w hn k => ⟨#[vv (cleanV v) aC ak aq al], args1 (k.eq1 0 28 rfl), fun _ => by kernel_rfl, none_c (cleanV v) _ _ _ _ _ (bQ.new_ hn) (bR.new_ hn)⟩) fun _ => congrArg Value.bool aa) <| .m (fun k => k.eq1 1 29 rfl) <| .s (fun k => k.eq1 2 30 rfl) <| .s (fun k => k.eq1 2 30 rfl) <| .t (fun _ w hn k => ⟨_, v_pickF rfl (k.eq1 2 30 rfl) rfl, rfl⟩) <| .a (fun k => k.eq1 5 33 rfl) <| .t (fun _ w hn k => ⟨_, v_assign rfl rfl, rfl⟩) .nil
 refine aftI bg cT cU fun lj lk kj fk fl kk cY => ?_
 have iW := cY.ge 6 4 rfl
 have iX := cY.ge 7 5 rfl
 refine st_nil (fj _ _ ?_)
 refine wp_ret (ret_k fk (v := .tuple #[.bool false, iv 0]) (res_tt rfl iW iX _) ?_)
 refine ⟨?_, fl⟩
 show Ending.returned (.tuple #[.bool false, iv 0]) = Ending.returned (.tuple #[.bool ((looseV v u).1), iv ((looseV v u).2)])
 first | rfl | (simp only [looseV, loose1, loose2, loose3, noneV, ad, aa, ac, bsm] <;> rfl) | (exfalso; omega)
 have fm := hB ei ac
 refine wp_cond_false fm ?_
 refine wp_skip ?_
 refine iL _ _ ?_
 refine wp_seq_k fun ll fn => ?_
 refine wp_g0 [true, true, true, true, false, false] [(4, false), (5, false)] 91
   [ve (vv (cleanV v) aC ak aq al),
    (VP (countedV (cleanV v))), ve (vv (cleanV u) aJ aD aM aE),
    (VP (countedV (cleanV u))), vt, vt] bg (.eq (.cons (fun v W W' hn ⟨j3, j4, aJ, j5, he, h0, h1⟩ => ⟨j3, j4, aJ, j5, he, h0.new_ hn, h1.new_ hn⟩) (.eq (.cons (fun v W W' hn ⟨j6, j7, j8, j9, he, h0, h1⟩ => ⟨j6, j7, j8, j9, he, h0.new_ hn, h1.new_ hn⟩) (.tt (.tt (.nil))))))) ?_ ?_
 refine .t (fun _ w hn k => ⟨_, v_load rfl (k.fx 2 cF) (l_agg Tryd.isAgg29 Tryd.sizeOf29 (bP.new_ hn) rfl), rfl⟩) ?_
 refine .o1 (tkC rfl (noG rfl) rfl fun _ w hn k => (by
       refine ⟨#[vv (cleanV v) aC ak aq al], _, args1 (k.eq1 0 34 rfl), fun w => by kernel_rfl, counted_c (cleanV v) _ _ _ _ _ (bQ.new_ hn) (bR.new_ hn), ?_⟩
       rintro e w' ⟨ka, kb, aq, kc, rfl, hmo0, hmo1, hm⟩
       exact ⟨_, rfl, hm, ⟨ka, kb, aq, kc, rfl, hmo0, hmo1⟩⟩)) ?_
 refine .t (fun _ w hn k => ⟨_, v_load rfl (k.fx 3 eh) (l_agg Tryd.isAgg29 Tryd.sizeOf29 (cV.new_ hn) rfl), rfl⟩) ?_
 refine .o1 (tkC rfl (noG rfl) rfl fun _ w hn k => (by
       refine ⟨#[vv (cleanV u) aJ aD aM aE], _, args1 (k.eq1 2 36 rfl), fun w => by kernel_rfl, counted_c (cleanV u) _ _ _ _ _ (cW.new_ hn) (cX.new_ hn), ?_⟩
       rintro e w' ⟨kd, ke, kf, kg, rfl, hmo0, hmo1, hm⟩
       exact ⟨_, rfl, hm, ⟨kd, ke, kf, kg, rfl, hmo0, hmo1⟩⟩)) ?_
 exact .off <| .off .nil
 refine aftI bg cT cU fun ej lm bh cZ fo aP bi => ?_
 have bF := bi.fx 2 cF
 have bG := bi.fx 3 eh
 obtain ⟨am, ae, ar, ag, cG, fp, fq⟩ : (VP (countedV (cleanV v))) _ _ := bi.got 1 35 rfl (by kernel_rfl)
 have cG : ej.eval (.tmp 35) = vv (countedV (cleanV v)) am ae ar ag := cG
 obtain ⟨an, af, au, ah, cH, fr, fs⟩ : (VP (countedV (cleanV u))) _ _ := bi.got 3 37 rfl (by kernel_rfl)
 have cH : ej.eval (.tmp 37) = vv (countedV (cleanV u)) an af au ah := cH
 have av := bP.new_ aP
 have ft := cV.new_ aP
 have fu := bQ.new_ aP
 have fv := bR.new_ aP
 have fw := cW.new_ aP
 have fy := cX.new_ aP
 obtain ⟨iY, ek, el, aw, fz⟩ := s_many (P := Tryd.prog) (t := 29) (i := 0) [iv ((countedV (cleanV v)).k), iv ((countedV (cleanV v)).nk), iv ((countedV (cleanV v)).nn), .bool ((countedV (cleanV v)).neg), sv am ((countedV (cleanV v)).mag) ae, sv ar ((countedV (cleanV v)).s) ag, iv ((countedV (cleanV v)).ref)] Tryd.sizeOf29 rfl rfl rfl av lb
 have fA : Blk iY q9 29 [iv ((countedV (cleanV v)).k), iv ((countedV (cleanV v)).nk), iv ((countedV (cleanV v)).nn), .bool ((countedV (cleanV v)).neg), sv am ((countedV (cleanV v)).mag) ae, sv ar ((countedV (cleanV v)).s) ag, iv ((countedV (cleanV v)).ref)] := el
 refine st_act rfl rfl fun ln fB => a_store' rfl bF cG ek (fB _ _ trivial ?_)
 have fC := fu.far av aw (by first | rfl | decide | simp [notK])
 have fD := fv.far av aw (by first | rfl | decide | simp [notK])
 have fE := fw.far av aw (by first | rfl | decide | simp [notK])
 have fF := fy.far av aw (by first | rfl | decide | simp [notK])
 have fG := fp.far av aw (by first | rfl | decide | simp [notK])
 have fH := fq.far av aw (by first | rfl | decide | simp [notK])
 have fI := fr.far av aw (by first | rfl | decide | simp [notK])
 have fJ := fs.far av aw (by first | rfl | decide | simp [notK])
 have ax := fz _ _ _ (fun h => hne16 h.symm) ft
 have fK := fo.trans aw (fun _ h b => by subst b; omega)
 obtain ⟨iZ, em, en, ay, fL⟩ := s_many (P := Tryd.prog) (t := 29) (i := 0) [iv ((countedV (cleanV u)).k), iv ((countedV (cleanV u)).nk), iv ((countedV (cleanV u)).nn), .bool ((countedV (cleanV u)).neg), sv an ((countedV (cleanV u)).mag) af, sv au ((countedV (cleanV u)).s) ah, iv ((countedV (cleanV u)).ref)] Tryd.sizeOf29 rfl rfl rfl ax lb
 have bj : Blk iZ aB 29 [iv ((countedV (cleanV u)).k), iv ((countedV (cleanV u)).nk), iv ((countedV (cleanV u)).nn), .bool ((countedV (cleanV u)).neg), sv an ((countedV (cleanV u)).mag) af, sv au ((countedV (cleanV u)).s) ah, iv ((countedV (cleanV u)).ref)] := en
 refine st_act rfl rfl fun lo fM => a_store' rfl bG cH em (fM _ _ trivial ?_)
 have kl := fC.far ax ay (by first | rfl | decide | simp [notK])
 have km := fD.far ax ay (by first | rfl | decide | simp [notK])
 have kn := fE.far ax ay (by first | rfl | decide | simp [notK])
 have ko := fF.far ax ay (by first | rfl | decide | simp [notK])
 have c0 := fG.far ax ay (by first | rfl | decide | simp [notK])
 have c1 := fH.far ax ay (by first | rfl | decide | simp [notK])
 have c3 := fI.far ax ay (by first | rfl | decide | simp [notK])
 have c5 := fJ.far ax ay (by first | rfl | decide | simp [notK])
 have bk := fL _ _ _ (hne16) fA
 have c7 := fK.trans ay (fun _ h b => by subst b; omega)
 refine st_nil (fn _ _ (wp_seq_k fun lp c9 => ?_))
 refine wp_seq_k fun lq da => ?_
 rcases bc (decide (((countedV (cleanV v)).k) ≤ ((countedV (cleanV u)).k))) with ab | ab
 have eo := oT ab
 refine wp_g0 [true, true, true, true, true] [] 91
   [ve (pv q9), ve (iv ((countedV (cleanV v)).k)), ve (pv aB), ve (iv ((countedV (cleanV u)).k)), vF] bh (.eq (.eq (.eq (.eq (.eq (.nil)))))) ?_ ?_
 exact .f (fun k => k.fx 2 bF) <| .t (fun _ w hn k => ⟨_, v_load rfl (k.eq1 0 38 rfl) (l_one Tryd.isAgg3 ((bk.new_ hn).cell 0)), rfl⟩) <| .f (fun k => k.fx 3 bG) <| .t (fun _ w hn k => ⟨_, v_load rfl (k.eq1 2 40 rfl) (l_one Tryd.isAgg3 ((bj.new_ hn).cell 0)), rfl⟩) <| .t (fun _ w hn k => ⟨_, v_bin rfl (k.eq1 1 39 rfl) (k.eq1 3 41 rfl) (fun _ => rfl) (r_gtrK ab), rfl⟩) .nil
 refine aftI bh cZ c7 fun lr ls db fN fO aQ bS => ?_
 have ep := bS.fx 2 bF
 have er := bS.fx 3 bG
 have i0 := bS.ge 4 42 rfl
 have dc := bk.new_ aQ
 have dd := bj.new_ aQ
 have fP := c0.new_ aQ
 have fQ := c1.new_ aQ
 have fR := c3.new_ aQ
 have fS := c5.new_ aQ
 refine st_nil (da _ _ ?_)
 refine wp_cond_false i0 ?_
 refine wp_skip ?_
 refine c9 _ _ ?_
 refine wp_seq_k fun lu de => ?_
 refine wp_block ?_
 refine wp_seq_k fun lv fT => ?_
 refine wp_g0 [true, true, true, true, true, true] [] 91
   [ve (pv q9), ve (iv ((countedV (cleanV v)).k)), ve (pv aB), ve (iv ((countedV (cleanV u)).k)), ve (.bool (decide (((countedV (cleanV v)).k) = ((countedV (cleanV u)).k)))), ve (.bool (decide (((countedV (cleanV v)).k) = ((countedV (cleanV u)).k))))] db (.eq (.eq (.eq (.eq (.eq (.eq (.nil))))))) ?_ ?_
 exact .f (fun k => k.fx 2 ep) <| .t (fun _ w hn k => ⟨_, v_load rfl (k.eq1 0 46 rfl) (l_one Tryd.isAgg3 ((dc.new_ hn).cell 0)), rfl⟩) <| .f (fun k => k.fx 3 er) <| .t (fun _ w hn k => ⟨_, v_load rfl (k.eq1 2 48 rfl) (l_one Tryd.isAgg3 ((dd.new_ hn).cell 0)), rfl⟩) <| .t (fun _ w hn k => ⟨_, v_bin rfl (k.eq1 1 47 rfl) (k.eq1 3 49 rfl) (fun _ => rfl) (r_eql rfl), rfl⟩) <| .a (fun k => k.eq1 4 50 rfl) .nil
 refine aftI db fN fO fun lw lx aR bT bU aS bV => ?_
 have bH := bV.fx 2 ep
 have bW := bV.fx 3 er
 have es := bV.ge 5 45 rfl
 have a7 := dc.new_ aS
 have bl := dd.new_ aS
 have bX := fP.new_ aS
 have bY := fQ.new_ aS
 have bZ := fR.new_ aS
 have b0 := fS.new_ aS
 refine st_nil (fT _ _ ?_)
 rcases bc (decide (((countedV (cleanV v)).k) = ((countedV (cleanV u)).k))) with ao | ao
 have et := oT ao
 have fU := hB es ao
 refine wp_cond_true fU ?_
 refine wp_seq_k fun ly fV => ?_
 refine wp_g0 [true, true, true, true, true] [] 91
   [ve (vv (countedV (cleanV v)) am ae ar ag), ve (vv (countedV (cleanV u)) an af au ah), ve (.bool (strictV (countedV (cleanV v)) (countedV (cleanV u)))), ve (.bool (strictV (countedV (cleanV v)) (countedV (cleanV u)))), ve (iv 0)] aR (.eq (.eq (.eq (.eq (.eq (.nil)))))) ?_ ?_
 exact .t (fun _ w hn k => ⟨_, v_load rfl (k.fx 2 bH) (l_agg Tryd.isAgg29 Tryd.sizeOf29 (a7.new_ hn) rfl), rfl⟩) <| .t (fun _ w hn k => ⟨_, v_load rfl (k.fx 3 bW) (l_agg Tryd.isAgg29 Tryd.sizeOf29 (bl.new_ hn) rfl), rfl⟩) <| .o1 (ck rfl rfl rfl (fun _ w hn k => ⟨#[vv (countedV (cleanV v)) am ae ar ag, vv (countedV (cleanV u)) an af au ah], args2 (k.eq1 0 51 rfl) (k.eq1 1 52 rfl), fun _ => by kernel_rfl, cstrict_c (countedV (cleanV v)) _ _ _ _ (countedV (cleanV u)) _ _ _ _ _ (bX.new_ hn) (bY.new_ hn) (bZ.new_ hn) (b0.new_ hn)⟩) fun _ => rfl) <| .a (fun k => k.eq1 2 53 rfl) <| .t (fun _ w hn k => ⟨_, v_assign rfl rfl, rfl⟩) .nil
 refine aftI aR bT bU fun lz lA kp fW fX kq df => ?_
 have i1 := df.ge 3 4 rfl
 have i2 := df.ge 4 5 rfl
 refine st_nil (fV _ _ ?_)
 refine wp_ret (ret_k fW (v := .tuple #[.bool (strictV (countedV (cleanV v)) (countedV (cleanV u))), iv 0]) (res_tt rfl i1 i2 _) ?_)
 refine ⟨?_, fX⟩
 show Ending.returned (.tuple #[.bool (strictV (countedV (cleanV v)) (countedV (cleanV u))), iv 0]) = Ending.returned (.tuple #[.bool ((looseV v u).1), iv ((looseV v u).2)])
 first | rfl | (simp only [looseV, loose1, loose2, loose3, noneV, ad, aa, ac, ab, ao, bsm] <;> rfl) | (exfalso; omega)
 have et := oF ao
 have fY := hB es ao
 refine wp_cond_false fY ?_
 refine wp_seq_k fun lB dg => ?_
 rcases bc (decide (((countedV (cleanV v)).k) = 3)) with ai | ai
 have eu := oT ai
 refine wp_g0 (.replicate 9 true) [] 91
   [ve (pv q9), ve (iv ((countedV (cleanV v)).k)), vT, vT, ve (pv aB), ve (iv ((countedV (cleanV u)).k)), ve (.bool (decide (((countedV (cleanV u)).k) = 4))), ve (.bool (decide (((countedV (cleanV u)).k) = 4))), ve (.bool (decide (((countedV (cleanV u)).k) = 4)))] aR (.eq (.eq (.eq (.eq (.eq (.eq (.eq (.eq (.eq (.nil)))))))))) ?_ ?_
 exact .f (fun k => k.fx 2 bH) <| .t (fun _ w hn k => ⟨_, v_load rfl (k.eq1 0 55 rfl) (l_one Tryd.isAgg3 ((a7.new_ hn).cell 0)), rfl⟩) <| .t (fun _ w hn k => ⟨_, v_bin rfl (k.eq1 1 56 rfl) rfl (fun _ => rfl) (r_eql ai), rfl⟩) <| .m (fun k => k.eq1 2 57 rfl) <| .gf (fun k => k.eq1 3 58 rfl) (fun k => k.fx 3 bW) <| .g (fun k => k.eq1 3 58 rfl) (fun _ w hn k => ⟨_, v_load rfl (k.eq1 4 59 rfl) (l_one Tryd.isAgg3 ((bl.new_ hn).cell 0)), rfl⟩) <| .g (fun k => k.eq1 3 58 rfl) (fun _ w hn k => ⟨_, v_bin rfl (k.eq1 5 60 rfl) rfl (fun _ => rfl) (r_eql rfl), rfl⟩) <| .t (fun _ w hn k => ⟨_, v_pickT rfl (k.eq1 3 58 rfl) (k.eq1 6 61 rfl), rfl⟩) <| .a (fun k => k.eq1 7 62 rfl) .nil
 refine aftI aR bT bU fun lC lD bm dh di aT b1 => ?_
 have cI := b1.fx 2 bH
 have cJ := b1.fx 3 bW
 have ev := b1.ge 8 54 rfl
 have b2 := a7.new_ aT
 have b3 := bl.new_ aT
 have fZ := bX.new_ aT
 have f0 := bY.new_ aT
 have dj := bZ.new_ aT
 have f1 := b0.new_ aT
 refine st_nil (dg _ _ ?_)
 rcases bc (decide (((countedV (cleanV u)).k) = 4)) with az | az
 have ew := oT az
 have f2 := hB ev az
 refine wp_cond_true f2 ?_
 refine wp_seq_k fun lE f3 => ?_
 refine wp_g0 [true, true, true, true, true, true, true] [] 91
   [ve (.pointer (some ⟨aB, 3, none⟩)), ve (.agg #[.bool ((countedV (cleanV u)).neg), sv an ((countedV (cleanV u)).mag) af]), ve (.pointer (some ⟨q9, 1, none⟩)), ve (nv (Nm.mk ((countedV (cleanV v)).nk) ((countedV (cleanV v)).nn))), ve (.bool (alikeB ((countedV (cleanV u)).neg) ((countedV (cleanV u)).mag) (Nm.mk ((countedV (cleanV v)).nk) ((countedV (cleanV v)).nn)))), ve (.bool (alikeB ((countedV (cleanV u)).neg) ((countedV (cleanV u)).mag) (Nm.mk ((countedV (cleanV v)).nk) ((countedV (cleanV v)).nn)))), ve (iv 0)] bm (.eq (.eq (.eq (.eq (.eq (.eq (.eq (.nil)))))))) ?_ ?_
 exact .f (fun k => k.fx 3 cJ) <| .t (fun _ w hn k => ⟨_, v_load rfl (k.eq1 0 63 rfl) (l_part Tryd.isAgg26 Tryd.sizeOf26 (b3.new_ hn) lb), rfl⟩) <| .f (fun k => k.fx 2 cI) <| .t (fun _ w hn k => ⟨_, v_load rfl (k.eq1 2 65 rfl) (l_part Tryd.isAgg23 Tryd.sizeOf23 (b2.new_ hn) lb), rfl⟩) <| .o1 (ck rfl rfl rfl (fun _ w hn k => ⟨#[.agg #[.bool ((countedV (cleanV u)).neg), sv an ((countedV (cleanV u)).mag) af], nv (Nm.mk ((countedV (cleanV v)).nk) ((countedV (cleanV v)).nn))], args2 (k.eq1 1 64 rfl) (k.eq1 3 66 rfl), fun _ => by kernel_rfl, alike_c ((countedV (cleanV u)).neg) _ ((countedV (cleanV u)).mag) _ (Nm.mk ((countedV (cleanV v)).nk) ((countedV (cleanV v)).nn)) _ (dj.new_ hn) hvu.clean.counted.limbs (by first | omega | (simp only [List.length_nil, List.length_take, List.length_drop]; omega) | (simp only [List.length_cons, List.length_nil]; omega)) (by omega) (by omega)⟩) fun _ => rfl) <| .a (fun k => k.eq1 4 67 rfl) <| .t (fun _ w hn k => ⟨_, v_assign rfl rfl, rfl⟩) .nil
 refine aftI bm dh di fun lF lG kr f4 f5 ks dk => ?_
 have i3 := dk.ge 5 4 rfl
 have i4 := dk.ge 6 5 rfl
 refine st_nil (f3 _ _ ?_)
 refine wp_ret (ret_k f4 (v := .tuple #[.bool (alikeB ((countedV (cleanV u)).neg) ((countedV (cleanV u)).mag) (Nm.mk ((countedV (cleanV v)).nk) ((countedV (cleanV v)).nn))), iv 0]) (res_tt rfl i3 i4 _) ?_)
 refine ⟨?_, f5⟩
 show Ending.returned (.tuple #[.bool (alikeB ((countedV (cleanV u)).neg) ((countedV (cleanV u)).mag) (Nm.mk ((countedV (cleanV v)).nk) ((countedV (cleanV v)).nn))), iv 0]) = Ending.returned (.tuple #[.bool ((looseV v u).1), iv ((looseV v u).2)])
 first | rfl | (simp only [looseV, loose1, loose2, loose3, noneV, ad, aa, ac, ab, ao, ai, az, bsm] <;> rfl) | (exfalso; omega)
 have ew := oF az
 have f6 := hB ev az
 refine wp_cond_false f6 ?_
 refine wp_seq_k fun lH f7 => ?_
 refine wp_g0 (.replicate 9 true) [] 91
   [ve (pv q9), ve (iv ((countedV (cleanV v)).k)), vT, vT, ve (pv aB), ve (iv ((countedV (cleanV u)).k)), ve (.bool (decide (((countedV (cleanV u)).k) = 5))), ve (.bool (decide (((countedV (cleanV u)).k) = 5))), ve (.bool (decide (((countedV (cleanV u)).k) = 5)))] bm (.eq (.eq (.eq (.eq (.eq (.eq (.eq (.eq (.eq (.nil)))))))))) ?_ ?_
 exact .f (fun k => k.fx 2 cI) <| .t (fun _ w hn k => ⟨_, v_load rfl (k.eq1 0 69 rfl) (l_one Tryd.isAgg3 ((b2.new_ hn).cell 0)), rfl⟩) <| .t (fun _ w hn k => ⟨_, v_bin rfl (k.eq1 1 70 rfl) rfl (fun _ => rfl) (r_eql ai), rfl⟩) <| .m (fun k => k.eq1 2 71 rfl) <| .gf (fun k => k.eq1 3 72 rfl) (fun k => k.fx 3 cJ) <| .g (fun k => k.eq1 3 72 rfl) (fun _ w hn k => ⟨_, v_load rfl (k.eq1 4 73 rfl) (l_one Tryd.isAgg3 ((b3.new_ hn).cell 0)), rfl⟩) <| .g (fun k => k.eq1 3 72 rfl) (fun _ w hn k => ⟨_, v_bin rfl (k.eq1 5 74 rfl) rfl (fun _ => rfl) (r_eql rfl), rfl⟩) <| .t (fun _ w hn k => ⟨_, v_pickT rfl (k.eq1 3 72 rfl) (k.eq1 6 75 rfl), rfl⟩) <| .a (fun k => k.eq1 7 76 rfl) .nil
 refine aftI bm dh di fun lI i5 bn dl b4 aU b5 => ?_
 have i6 := b5.fx 2 cI
 have i7 := b5.fx 3 cJ
 have ex := b5.ge 8 68 rfl
 have dm := b2.new_ aU
 have f8 := b3.new_ aU
 have f9 := fZ.new_ aU
 have ga := f0.new_ aU
 have gb := dj.new_ aU
 have gc := f1.new_ aU
 refine st_nil (f7 _ _ ?_)
 rcases bc (decide (((countedV (cleanV u)).k) = 5)) with aF | aF
 have ey := oT aF
 have gd := hB ex aF
 refine wp_cond_true gd ?_
 refine wp_seq_k fun lJ gg => ?_
 refine wp_g [true, true, true, true, true, true, false, false] [4] [(6, false), (7, true)] 91
   [ve (vv (countedV (cleanV u)) an af au ah), ve (.tuple #[nv ((numberV (countedV (cleanV u))).1), iv ((numberV (countedV (cleanV u))).2)]), ve (.tuple #[nv ((numberV (countedV (cleanV u))).1), iv ((numberV (countedV (cleanV u))).2)]), ve (nv ((numberV (countedV (cleanV u))).1)), ve (iv ((numberV (countedV (cleanV u))).2)), IsNew i5 23 [iv 0, iv 0], vt, vt]
   [5] (newsCons (fun v w h => IsNew.old h) newsNil) bn (.eq (.eq (.eq (.eq (.eq (.nw (.tt (.tt (.nil))))))))) ?_ ?_ ?_
 refine .t (fun _ w hn k => ⟨_, v_load rfl (k.fx 3 i7) (l_agg Tryd.isAgg29 Tryd.sizeOf29 (f8.new_ hn) rfl), rfl⟩) <| .o1 (ck rfl rfl rfl (fun _ w hn k => ⟨#[vv (countedV (cleanV u)) an af au ah], args1 (k.eq1 0 78 rfl), fun _ => by kernel_rfl, cnumber_c (countedV (cleanV u)) _ _ _ _ _ (gb.new_ hn) (gc.new_ hn) hvu.clean.counted⟩) fun _ => rfl) <| .m (fun k => k.eq1 1 79 rfl) <| .t (fun _ w hn k => ⟨_, v_extract rfl (k.eq1 2 77 rfl) rfl, rfl⟩) ?_
 refine .o3 ?_
 exact .o2 (step_allocN (cs := [iv 0, iv 0]) (t := 23) rfl (noG rfl) (fun _ w hn k => rfl) (fun q _ hq hb => ⟨q, rfl, hq, hb⟩)) <| .off <| .off .nil
 intro i h
 simp only [List.contains_eq_mem, List.mem_cons, List.not_mem_nil, or_false, decide_eq_true_eq] at h
 subst h
 exact eager_take rfl rfl fun _ w hn k => ⟨iv ((numberV (countedV (cleanV u))).2), fun w => v_extract rfl (k.eq1 2 77 rfl) rfl, rfl⟩
 refine aftI bn dl b4 fun ez lK dn gh gi b6 bo => ?_
 have i8 := bo.fx 2 i6
 have eA := bo.ge 3 80 rfl
 have eB := bo.ge 4 81 rfl
 obtain ⟨i9, eC, dp, b7⟩ : IsNew _ _ _ _ _ := bo.got 5 6 rfl (by kernel_rfl)
 have gj := dm.new_ b6
 have hne339 : q9 ≠ i9 := by have h1 := dm.lt; have h2 := dp; omega
 have kt := Nat.le_trans b4.size dp
 have gk := f9.new_ b6
 have gl := ga.new_ b6
 obtain ⟨lL, -, eD, gm, b8, gn⟩ := s_two (v0 := iv ((numberV (countedV (cleanV u))).1.k)) (v1 := iv ((numberV (countedV (cleanV u))).1.n)) Tryd.sizeOf23 rfl rfl rfl b7
 refine st_act rfl rfl fun lM go => a_store' rfl eC eA eD (go _ _ trivial ?_)
 have ku := gk.far b7 b8 (by first | rfl | decide | simp [notK])
 have kv := gl.far b7 b8 (by first | rfl | decide | simp [notK])
 have gp := gn _ _ _ (hne339) gj
 have dq := gi.trans b8 (fun _ h b => by subst b; omega)
 refine st_take rfl rfl (y_assign (v := iv ((numberV (countedV (cleanV u))).2)) rfl eB) rfl ?_
 obtain ⟨ja, aG⟩ : ∃ a', a' = ez.put (some 7) (iv ((numberV (countedV (cleanV u))).2)) := ⟨_, rfl⟩
 have bp := pz aG dn
 have dr := pd aG gh
 have jb := pn aG i8 (by decide)
 have lN := pn aG eA (by decide)
 have lO := pn aG eB (by decide)
 have jc := pn aG eC (by decide)
 have b9 : ja.eval (.tmp 7) = iv ((numberV (countedV (cleanV u))).2) := by rw [aG]; exact put_same _ _ _ (by rw [dn]; decide)
 show stepsTo _ _ _ _ _ (ez.put (some 7) (iv ((numberV (countedV (cleanV u))).2))) _
 rw [← aG]
 refine st_nil (gg _ _ (wp_seq_k fun lP ds => ?_))
 rcases bc (decide (((numberV (countedV (cleanV u))).2) = 0)) with aK | aK
 have eE := oT aK
 refine wp_g0 (.replicate 11 true) [] 91
   [ve (iv ((numberV (countedV (cleanV u))).2)), vT, vT, ve (.pointer (some ⟨q9, 1, none⟩)), ve (nv (Nm.mk ((countedV (cleanV v)).nk) ((countedV (cleanV v)).nn))), ve (nv ((numberV (countedV (cleanV u))).1)), ve (.bool (equalM (Nm.mk ((countedV (cleanV v)).nk) ((countedV (cleanV v)).nn)) ((numberV (countedV (cleanV u))).1))), ve (.bool (equalM (Nm.mk ((countedV (cleanV v)).nk) ((countedV (cleanV v)).nn)) ((numberV (countedV (cleanV u))).1))), ve (iv ((numberV (countedV (cleanV u))).2)), ve (.bool (equalM (Nm.mk ((countedV (cleanV v)).nk) ((countedV (cleanV v)).nn)) ((numberV (countedV (cleanV u))).1))), ve (iv ((numberV (countedV (cleanV u))).2))] bp (.eq (.eq (.eq (.eq (.eq (.eq (.eq (.eq (.eq (.eq (.eq (.nil)))))))))))) ?_ ?_
 exact .m (fun k => k.fx 7 b9) <| .t (fun _ w hn k => ⟨_, v_bin rfl (k.eq1 0 82 rfl) rfl (fun _ => rfl) (r_eql aK), rfl⟩) <| .m (fun k => k.eq1 1 83 rfl) <| .gf (fun k => k.eq1 2 84 rfl) (fun k => k.fx 2 jb) <| .g (fun k => k.eq1 2 84 rfl) (fun _ w hn k => ⟨_, v_load rfl (k.eq1 3 85 rfl) (l_part Tryd.isAgg23 Tryd.sizeOf23 (gp.new_ hn) lb), rfl⟩) <| .g (fun k => k.eq1 2 84 rfl) (fun _ w hn k => ⟨_, v_load rfl (k.fx 6 jc) (l_two Tryd.isAgg23 Tryd.sizeOf23 (gm.new_ hn)), rfl⟩) <| .o1 (cg rfl rfl rfl (fun _ _ k => k.eq1 2 84 rfl) rfl (fun _ w hn k => ⟨#[nv (Nm.mk ((countedV (cleanV v)).nk) ((countedV (cleanV v)).nn)), nv ((numberV (countedV (cleanV u))).1)], args2 (k.eq1 4 86 rfl) (k.eq1 5 87 rfl), fun _ => by kernel_rfl, equal_c (Nm.mk ((countedV (cleanV v)).nk) ((countedV (cleanV v)).nn)) ((numberV (countedV (cleanV u))).1) _ ⟩) fun _ => rfl) <| .t (fun _ w hn k => ⟨_, v_pickT rfl (k.eq1 2 84 rfl) (k.eq1 6 88 rfl), rfl⟩) <| .m (fun k => k.fx 7 b9) <| .a (fun k => k.eq1 7 89 rfl) <| .a (fun k => k.eq1 8 90 rfl) .nil
 refine aftI bp dr dq fun lQ lR kw gq gr kx dt => ?_
 have jd := dt.ge 9 4 rfl
 have je := dt.ge 10 5 rfl
 refine st_nil (ds _ _ ?_)
 refine wp_ret (ret_k gq (v := .tuple #[.bool (equalM (Nm.mk ((countedV (cleanV v)).nk) ((countedV (cleanV v)).nn)) ((numberV (countedV (cleanV u))).1)), iv ((numberV (countedV (cleanV u))).2)]) (res_tt rfl jd je _) ?_)
 refine ⟨?_, gr⟩
 show Ending.returned (.tuple #[.bool (equalM (Nm.mk ((countedV (cleanV v)).nk) ((countedV (cleanV v)).nn)) ((numberV (countedV (cleanV u))).1)), iv ((numberV (countedV (cleanV u))).2)]) = Ending.returned (.tuple #[.bool ((looseV v u).1), iv ((looseV v u).2)])
 first | rfl | (simp only [looseV, loose1, loose2, loose3, noneV, ad, aa, ac, ab, ao, ai, az, aF, aK, bsm] <;> rfl) | (exfalso; omega)
 have eE := oF aK
 refine wp_g0 (.replicate 11 true) [] 91
   [ve (iv ((numberV (countedV (cleanV u))).2)), vF, vF, vU, vU, vU, vU, vF, ve (iv ((numberV (countedV (cleanV u))).2)), vF, ve (iv ((numberV (countedV (cleanV u))).2))] bp (.eq (.eq (.eq (.eq (.eq (.eq (.eq (.eq (.eq (.eq (.eq (.nil)))))))))))) ?_ ?_
 exact .m (fun k => k.fx 7 b9) <| .t (fun _ w hn k => ⟨_, v_bin rfl (k.eq1 0 82 rfl) rfl (fun _ => rfl) (r_eql aK), rfl⟩) <| .m (fun k => k.eq1 1 83 rfl) <| .s (fun k => k.eq1 2 84 rfl) <| .s (fun k => k.eq1 2 84 rfl) <| .s (fun k => k.eq1 2 84 rfl) <| .s (fun k => k.eq1 2 84 rfl) <| .t (fun _ w hn k => ⟨_, v_pickF rfl (k.eq1 2 84 rfl) rfl, rfl⟩) <| .m (fun k => k.fx 7 b9) <| .a (fun k => k.eq1 7 89 rfl) <| .a (fun k => k.eq1 8 90 rfl) .nil
 refine aftI bp dr dq fun lS lT ky gs gt kz dw => ?_
 have jf := dw.ge 9 4 rfl
 have jg := dw.ge 10 5 rfl
 refine st_nil (ds _ _ ?_)
 refine wp_ret (ret_k gs (v := .tuple #[.bool false, iv ((numberV (countedV (cleanV u))).2)]) (res_tt rfl jf jg _) ?_)
 refine ⟨?_, gt⟩
 show Ending.returned (.tuple #[.bool false, iv ((numberV (countedV (cleanV u))).2)]) = Ending.returned (.tuple #[.bool ((looseV v u).1), iv ((looseV v u).2)])
 first | rfl | (simp only [looseV, loose1, loose2, loose3, noneV, ad, aa, ac, ab, ao, ai, az, aF, aK, bsm] <;> rfl) | (exfalso; omega)
 have ey := oF aF
 have gu := hB ex aF
 refine wp_cond_false gu ?_
 refine wp_skip ?_
 refine de _ _ ?_
 refine wp_seq_k fun lU gv => ?_
 refine wp_g0 [true, true] [] 91
   [vF, ve (iv 3)] bn (.eq (.eq (.nil))) ?_ ?_
 exact .t (fun _ w hn k => ⟨_, v_assign rfl rfl, rfl⟩) <| .t (fun _ w hn k => ⟨_, v_assign rfl rfl, rfl⟩) .nil
 refine aftI bn dl b4 fun lV lW kA gw gx kB dx => ?_
 have jh := dx.ge 0 4 rfl
 have ji := dx.ge 1 5 rfl
 refine st_nil (gv _ _ ?_)
 refine wp_ret (ret_k gw (v := .tuple #[.bool false, iv 3]) (res_tt rfl jh ji _) ?_)
 refine ⟨?_, gx⟩
 show Ending.returned (.tuple #[.bool false, iv 3]) = Ending.returned (.tuple #[.bool ((looseV v u).1), iv ((looseV v u).2)])
 first | rfl | (simp only [looseV, loose1, loose2, loose3, noneV, ad, aa, ac, ab, ao, ai, az, aF, bsm] <;> rfl) | (exfalso; omega)
 have eu := oF ai
 refine wp_g0 (.replicate 9 true) [] 91
   [ve (pv q9), ve (iv ((countedV (cleanV v)).k)), vF, vF, vU, vU, vU, vF, vF] aR (.eq (.eq (.eq (.eq (.eq (.eq (.eq (.eq (.eq (.nil)))))))))) ?_ ?_
 exact .f (fun k => k.fx 2 bH) <| .t (fun _ w hn k => ⟨_, v_load rfl (k.eq1 0 55 rfl) (l_one Tryd.isAgg3 ((a7.new_ hn).cell 0)), rfl⟩) <| .t (fun _ w hn k => ⟨_, v_bin rfl (k.eq1 1 56 rfl) rfl (fun _ => rfl) (r_eql ai), rfl⟩) <| .m (fun k => k.eq1 2 57 rfl) <| .s (fun k => k.eq1 3 58 rfl) <| .s (fun k => k.eq1 3 58 rfl) <| .s (fun k => k.eq1 3 58 rfl) <| .t (fun _ w hn k => ⟨_, v_pickF rfl (k.eq1 3 58 rfl) rfl, rfl⟩) <| .a (fun k => k.eq1 7 62 rfl) .nil
 refine aftI aR bT bU fun lX lY dy gy gz aV ca => ?_
 have eF := ca.fx 2 bH
 have jj := ca.fx 3 bW
 have jk := ca.ge 8 54 rfl
 have dz := a7.new_ aV
 have gA := bl.new_ aV
 have gB := bX.new_ aV
 have gC := bY.new_ aV
 have gD := bZ.new_ aV
 have gE := b0.new_ aV
 refine st_nil (dg _ _ ?_)
 refine wp_cond_false jk ?_
 refine wp_seq_k fun lZ gF => ?_
 refine wp_g0 (.replicate 9 true) [] 91
   [ve (pv q9), ve (iv ((countedV (cleanV v)).k)), vF, vF, vU, vU, vU, vF, vF] dy (.eq (.eq (.eq (.eq (.eq (.eq (.eq (.eq (.eq (.nil)))))))))) ?_ ?_
 exact .f (fun k => k.fx 2 eF) <| .t (fun _ w hn k => ⟨_, v_load rfl (k.eq1 0 69 rfl) (l_one Tryd.isAgg3 ((dz.new_ hn).cell 0)), rfl⟩) <| .t (fun _ w hn k => ⟨_, v_bin rfl (k.eq1 1 70 rfl) rfl (fun _ => rfl) (r_eql ai), rfl⟩) <| .m (fun k => k.eq1 2 71 rfl) <| .s (fun k => k.eq1 3 72 rfl) <| .s (fun k => k.eq1 3 72 rfl) <| .s (fun k => k.eq1 3 72 rfl) <| .t (fun _ w hn k => ⟨_, v_pickF rfl (k.eq1 3 72 rfl) rfl, rfl⟩) <| .a (fun k => k.eq1 7 76 rfl) .nil
 refine aftI dy gy gz fun l0 l1 dA gG gH aW cb => ?_
 have l2 := cb.fx 2 eF
 have l3 := cb.fx 3 jj
 have jl := cb.ge 8 68 rfl
 have kC := dz.new_ aW
 have kD := gA.new_ aW
 have kE := gB.new_ aW
 have kF := gC.new_ aW
 have kG := gD.new_ aW
 have kH := gE.new_ aW
 refine st_nil (gF _ _ ?_)
 refine wp_cond_false jl ?_
 refine wp_skip ?_
 refine de _ _ ?_
 refine wp_seq_k fun l4 gI => ?_
 refine wp_g0 [true, true] [] 91
   [vF, ve (iv 3)] dA (.eq (.eq (.nil))) ?_ ?_
 exact .t (fun _ w hn k => ⟨_, v_assign rfl rfl, rfl⟩) <| .t (fun _ w hn k => ⟨_, v_assign rfl rfl, rfl⟩) .nil
 refine aftI dA gG gH fun l5 l6 kI gJ gK kJ dB => ?_
 have jm := dB.ge 0 4 rfl
 have jn := dB.ge 1 5 rfl
 refine st_nil (gI _ _ ?_)
 refine wp_ret (ret_k gJ (v := .tuple #[.bool false, iv 3]) (res_tt rfl jm jn _) ?_)
 refine ⟨?_, gK⟩
 show Ending.returned (.tuple #[.bool false, iv 3]) = Ending.returned (.tuple #[.bool ((looseV v u).1), iv ((looseV v u).2)])
 first | rfl | (simp only [looseV, loose1, loose2, loose3, noneV, ad, aa, ac, ab, ao, ai, bsm] <;> rfl) | (exfalso; omega)
 have eo := oF ab
 refine wp_g0 [true, true, true, true, true] [] 91
   [ve (pv q9), ve (iv ((countedV (cleanV v)).k)), ve (pv aB), ve (iv ((countedV (cleanV u)).k)), vT] bh (.eq (.eq (.eq (.eq (.eq (.nil)))))) ?_ ?_
 exact .f (fun k => k.fx 2 bF) <| .t (fun _ w hn k => ⟨_, v_load rfl (k.eq1 0 38 rfl) (l_one Tryd.isAgg3 ((bk.new_ hn).cell 0)), rfl⟩) <| .f (fun k => k.fx 3 bG) <| .t (fun _ w hn k => ⟨_, v_load rfl (k.eq1 2 40 rfl) (l_one Tryd.isAgg3 ((bj.new_ hn).cell 0)), rfl⟩) <| .t (fun _ w hn k => ⟨_, v_bin rfl (k.eq1 1 39 rfl) (k.eq1 3 41 rfl) (fun _ => rfl) (r_gtrK ab), rfl⟩) .nil
 refine aftI bh cZ c7 fun l7 l8 dC gL gM aX cc => ?_
 have eG := cc.fx 2 bF
 have eH := cc.fx 3 bG
 have jo := cc.ge 4 42 rfl
 have dD := bk.new_ aX
 have dE := bj.new_ aX
 have gN := c0.new_ aX
 have gO := c1.new_ aX
 have gP := c3.new_ aX
 have gQ := c5.new_ aX
 refine st_nil (da _ _ ?_)
 refine wp_cond_true jo ?_
 refine wp_g0 [true, true, false, false] [(2, false), (3, false)] 91
   [ve (vv (countedV (cleanV u)) an af au ah), ve (vv (countedV (cleanV v)) am ae ar ag), vt, vt] dC (.eq (.eq (.tt (.tt (.nil))))) ?_ ?_
 exact .t (fun _ w hn k => ⟨_, v_load rfl (k.fx 3 eH) (l_agg Tryd.isAgg29 Tryd.sizeOf29 (dE.new_ hn) rfl), rfl⟩) <| .t (fun _ w hn k => ⟨_, v_load rfl (k.fx 2 eG) (l_agg Tryd.isAgg29 Tryd.sizeOf29 (dD.new_ hn) rfl), rfl⟩) <| .off <| .off .nil
 refine aftI dC gL gM fun l9 ma dF gR gS aY bq => ?_
 have cK := bq.fx 2 eG
 have cL := bq.fx 3 eH
 have jp := bq.ge 0 43 rfl
 have jq := bq.ge 1 44 rfl
 have a8 := dD.new_ aY
 have gT := dE.new_ aY
 have gU := gN.new_ aY
 have gV := gO.new_ aY
 have gW := gP.new_ aY
 have gX := gQ.new_ aY
 obtain ⟨jr, eI, eJ, a9, gY⟩ := s_many (P := Tryd.prog) (t := 29) (i := 0) [iv ((countedV (cleanV u)).k), iv ((countedV (cleanV u)).nk), iv ((countedV (cleanV u)).nn), .bool ((countedV (cleanV u)).neg), sv an ((countedV (cleanV u)).mag) af, sv au ((countedV (cleanV u)).s) ah, iv ((countedV (cleanV u)).ref)] Tryd.sizeOf29 rfl rfl rfl a8 lb
 have gZ : Blk jr q9 29 [iv ((countedV (cleanV u)).k), iv ((countedV (cleanV u)).nk), iv ((countedV (cleanV u)).nn), .bool ((countedV (cleanV u)).neg), sv an ((countedV (cleanV u)).mag) af, sv au ((countedV (cleanV u)).s) ah, iv ((countedV (cleanV u)).ref)] := eJ
 refine st_act rfl rfl fun mb g0 => a_store' rfl cK jp eI (g0 _ _ trivial ?_)
 have g1 := gU.far a8 a9 (by first | rfl | decide | simp [notK])
 have g2 := gV.far a8 a9 (by first | rfl | decide | simp [notK])
 have g3 := gW.far a8 a9 (by first | rfl | decide | simp [notK])
 have g4 := gX.far a8 a9 (by first | rfl | decide | simp [notK])
 have ba := gY _ _ _ (fun h => hne16 h.symm) gT
 have g5 := gS.trans a9 (fun _ h b => by subst b; omega)
 obtain ⟨js, eK, eL, bb, g6⟩ := s_many (P := Tryd.prog) (t := 29) (i := 0) [iv ((countedV (cleanV v)).k), iv ((countedV (cleanV v)).nk), iv ((countedV (cleanV v)).nn), .bool ((countedV (cleanV v)).neg), sv am ((countedV (cleanV v)).mag) ae, sv ar ((countedV (cleanV v)).s) ag, iv ((countedV (cleanV v)).ref)] Tryd.sizeOf29 rfl rfl rfl ba lb
 have dG : Blk js aB 29 [iv ((countedV (cleanV v)).k), iv ((countedV (cleanV v)).nk), iv ((countedV (cleanV v)).nn), .bool ((countedV (cleanV v)).neg), sv am ((countedV (cleanV v)).mag) ae, sv ar ((countedV (cleanV v)).s) ag, iv ((countedV (cleanV v)).ref)] := eL
 refine st_act rfl rfl fun mc g7 => a_store' rfl cL jq eK (g7 _ _ trivial ?_)
 have g8 := g1.far ba bb (by first | rfl | decide | simp [notK])
 have g9 := g2.far ba bb (by first | rfl | decide | simp [notK])
 have ha := g3.far ba bb (by first | rfl | decide | simp [notK])
 have hc := g4.far ba bb (by first | rfl | decide | simp [notK])
 have dH := g6 _ _ _ (hne16) gZ
 have hd := g5.trans bb (fun _ h b => by subst b; omega)
 refine st_nil (c9 _ _ (wp_seq_k fun md dI => ?_))
 refine wp_block ?_
 refine wp_seq_k fun me hf => ?_
 refine wp_g0 [true, true, true, true, true, true] [] 91
   [ve (pv q9), ve (iv ((countedV (cleanV u)).k)), ve (pv aB), ve (iv ((countedV (cleanV v)).k)), ve (.bool (decide (((countedV (cleanV u)).k) = ((countedV (cleanV v)).k)))), ve (.bool (decide (((countedV (cleanV u)).k) = ((countedV (cleanV v)).k))))] dF (.eq (.eq (.eq (.eq (.eq (.eq (.nil))))))) ?_ ?_
 exact .f (fun k => k.fx 2 cK) <| .t (fun _ w hn k => ⟨_, v_load rfl (k.eq1 0 46 rfl) (l_one Tryd.isAgg3 ((dH.new_ hn).cell 0)), rfl⟩) <| .f (fun k => k.fx 3 cL) <| .t (fun _ w hn k => ⟨_, v_load rfl (k.eq1 2 48 rfl) (l_one Tryd.isAgg3 ((dG.new_ hn).cell 0)), rfl⟩) <| .t (fun _ w hn k => ⟨_, v_bin rfl (k.eq1 1 47 rfl) (k.eq1 3 49 rfl) (fun _ => rfl) (r_eql rfl), rfl⟩) <| .a (fun k => k.eq1 4 50 rfl) .nil
 refine aftI dF gR hd fun mf mg aZ cd ce a1 cf => ?_
 have bI := cf.fx 2 cK
 have ch := cf.fx 3 cL
 have eM := cf.ge 5 45 rfl
 have bd := dH.new_ a1
 have br := dG.new_ a1
 have ci := g8.new_ a1
 have cj := g9.new_ a1
 have cl := ha.new_ a1
 have cm := hc.new_ a1
 refine st_nil (hf _ _ ?_)
 rcases bc (decide (((countedV (cleanV u)).k) = ((countedV (cleanV v)).k))) with ap | ap
 have eN := oT ap
 have hg := hB eM ap
 refine wp_cond_true hg ?_
 refine wp_seq_k fun mh hh => ?_
 refine wp_g0 [true, true, true, true, true] [] 91
   [ve (vv (countedV (cleanV u)) an af au ah), ve (vv (countedV (cleanV v)) am ae ar ag), ve (.bool (strictV (countedV (cleanV u)) (countedV (cleanV v)))), ve (.bool (strictV (countedV (cleanV u)) (countedV (cleanV v)))), ve (iv 0)] aZ (.eq (.eq (.eq (.eq (.eq (.nil)))))) ?_ ?_
 exact .t (fun _ w hn k => ⟨_, v_load rfl (k.fx 2 bI) (l_agg Tryd.isAgg29 Tryd.sizeOf29 (bd.new_ hn) rfl), rfl⟩) <| .t (fun _ w hn k => ⟨_, v_load rfl (k.fx 3 ch) (l_agg Tryd.isAgg29 Tryd.sizeOf29 (br.new_ hn) rfl), rfl⟩) <| .o1 (ck rfl rfl rfl (fun _ w hn k => ⟨#[vv (countedV (cleanV u)) an af au ah, vv (countedV (cleanV v)) am ae ar ag], args2 (k.eq1 0 51 rfl) (k.eq1 1 52 rfl), fun _ => by kernel_rfl, cstrict_c (countedV (cleanV u)) _ _ _ _ (countedV (cleanV v)) _ _ _ _ _ (cl.new_ hn) (cm.new_ hn) (ci.new_ hn) (cj.new_ hn)⟩) fun _ => rfl) <| .a (fun k => k.eq1 2 53 rfl) <| .t (fun _ w hn k => ⟨_, v_assign rfl rfl, rfl⟩) .nil
 refine aftI aZ cd ce fun mi mj kK hi hj kL dJ => ?_
 have jt := dJ.ge 3 4 rfl
 have ju := dJ.ge 4 5 rfl
 refine st_nil (hh _ _ ?_)
 refine wp_ret (ret_k hi (v := .tuple #[.bool (strictV (countedV (cleanV u)) (countedV (cleanV v))), iv 0]) (res_tt rfl jt ju _) ?_)
 refine ⟨?_, hj⟩
 show Ending.returned (.tuple #[.bool (strictV (countedV (cleanV u)) (countedV (cleanV v))), iv 0]) = Ending.returned (.tuple #[.bool ((looseV v u).1), iv ((looseV v u).2)])
 first | rfl | (simp only [looseV, loose1, loose2, loose3, noneV, ad, aa, ac, ab, ap, bsm] <;> rfl) | (exfalso; omega)
 have eN := oF ap
 have hl := hB eM ap
 refine wp_cond_false hl ?_
 refine wp_seq_k fun ml dK => ?_
 rcases bc (decide (((countedV (cleanV u)).k) = 3)) with aj | aj
 have eO := oT aj
 refine wp_g0 (.replicate 9 true) [] 91
   [ve (pv q9), ve (iv ((countedV (cleanV u)).k)), vT, vT, ve (pv aB), ve (iv ((countedV (cleanV v)).k)), ve (.bool (decide (((countedV (cleanV v)).k) = 4))), ve (.bool (decide (((countedV (cleanV v)).k) = 4))), ve (.bool (decide (((countedV (cleanV v)).k) = 4)))] aZ (.eq (.eq (.eq (.eq (.eq (.eq (.eq (.eq (.eq (.nil)))))))))) ?_ ?_
 exact .f (fun k => k.fx 2 bI) <| .t (fun _ w hn k => ⟨_, v_load rfl (k.eq1 0 55 rfl) (l_one Tryd.isAgg3 ((bd.new_ hn).cell 0)), rfl⟩) <| .t (fun _ w hn k => ⟨_, v_bin rfl (k.eq1 1 56 rfl) rfl (fun _ => rfl) (r_eql aj), rfl⟩) <| .m (fun k => k.eq1 2 57 rfl) <| .gf (fun k => k.eq1 3 58 rfl) (fun k => k.fx 3 ch) <| .g (fun k => k.eq1 3 58 rfl) (fun _ w hn k => ⟨_, v_load rfl (k.eq1 4 59 rfl) (l_one Tryd.isAgg3 ((br.new_ hn).cell 0)), rfl⟩) <| .g (fun k => k.eq1 3 58 rfl) (fun _ w hn k => ⟨_, v_bin rfl (k.eq1 5 60 rfl) rfl (fun _ => rfl) (r_eql rfl), rfl⟩) <| .t (fun _ w hn k => ⟨_, v_pickT rfl (k.eq1 3 58 rfl) (k.eq1 6 61 rfl), rfl⟩) <| .a (fun k => k.eq1 7 62 rfl) .nil
 refine aftI aZ cd ce fun mm mn bs dL dM a3 cn => ?_
 have cM := cn.fx 2 bI
 have cN := cn.fx 3 ch
 have eP := cn.ge 8 54 rfl
 have co := bd.new_ a3
 have cp := br.new_ a3
 have dN := ci.new_ a3
 have ho := cj.new_ a3
 have hr := cl.new_ a3
 have hs := cm.new_ a3
 refine st_nil (dK _ _ ?_)
 rcases bc (decide (((countedV (cleanV v)).k) = 4)) with aA | aA
 have eQ := oT aA
 have ht := hB eP aA
 refine wp_cond_true ht ?_
 refine wp_seq_k fun mo hu => ?_
 refine wp_g0 [true, true, true, true, true, true, true] [] 91
   [ve (.pointer (some ⟨aB, 3, none⟩)), ve (.agg #[.bool ((countedV (cleanV v)).neg), sv am ((countedV (cleanV v)).mag) ae]), ve (.pointer (some ⟨q9, 1, none⟩)), ve (nv (Nm.mk ((countedV (cleanV u)).nk) ((countedV (cleanV u)).nn))), ve (.bool (alikeB ((countedV (cleanV v)).neg) ((countedV (cleanV v)).mag) (Nm.mk ((countedV (cleanV u)).nk) ((countedV (cleanV u)).nn)))), ve (.bool (alikeB ((countedV (cleanV v)).neg) ((countedV (cleanV v)).mag) (Nm.mk ((countedV (cleanV u)).nk) ((countedV (cleanV u)).nn)))), ve (iv 0)] bs (.eq (.eq (.eq (.eq (.eq (.eq (.eq (.nil)))))))) ?_ ?_
 exact .f (fun k => k.fx 3 cN) <| .t (fun _ w hn k => ⟨_, v_load rfl (k.eq1 0 63 rfl) (l_part Tryd.isAgg26 Tryd.sizeOf26 (cp.new_ hn) lb), rfl⟩) <| .f (fun k => k.fx 2 cM) <| .t (fun _ w hn k => ⟨_, v_load rfl (k.eq1 2 65 rfl) (l_part Tryd.isAgg23 Tryd.sizeOf23 (co.new_ hn) lb), rfl⟩) <| .o1 (ck rfl rfl rfl (fun _ w hn k => ⟨#[.agg #[.bool ((countedV (cleanV v)).neg), sv am ((countedV (cleanV v)).mag) ae], nv (Nm.mk ((countedV (cleanV u)).nk) ((countedV (cleanV u)).nn))], args2 (k.eq1 1 64 rfl) (k.eq1 3 66 rfl), fun _ => by kernel_rfl, alike_c ((countedV (cleanV v)).neg) _ ((countedV (cleanV v)).mag) _ (Nm.mk ((countedV (cleanV u)).nk) ((countedV (cleanV u)).nn)) _ (dN.new_ hn) hvv.clean.counted.limbs (by first | omega | (simp only [List.length_nil, List.length_take, List.length_drop]; omega) | (simp only [List.length_cons, List.length_nil]; omega)) (by omega) (by omega)⟩) fun _ => rfl) <| .a (fun k => k.eq1 4 67 rfl) <| .t (fun _ w hn k => ⟨_, v_assign rfl rfl, rfl⟩) .nil
 refine aftI bs dL dM fun mp mq kM hv hw kN dO => ?_
 have jv := dO.ge 5 4 rfl
 have jw := dO.ge 6 5 rfl
 refine st_nil (hu _ _ ?_)
 refine wp_ret (ret_k hv (v := .tuple #[.bool (alikeB ((countedV (cleanV v)).neg) ((countedV (cleanV v)).mag) (Nm.mk ((countedV (cleanV u)).nk) ((countedV (cleanV u)).nn))), iv 0]) (res_tt rfl jv jw _) ?_)
 refine ⟨?_, hw⟩
 show Ending.returned (.tuple #[.bool (alikeB ((countedV (cleanV v)).neg) ((countedV (cleanV v)).mag) (Nm.mk ((countedV (cleanV u)).nk) ((countedV (cleanV u)).nn))), iv 0]) = Ending.returned (.tuple #[.bool ((looseV v u).1), iv ((looseV v u).2)])
 first | rfl | (simp only [looseV, loose1, loose2, loose3, noneV, ad, aa, ac, ab, ap, aj, aA, bsm] <;> rfl) | (exfalso; omega)
 have eQ := oF aA
 have hx := hB eP aA
 refine wp_cond_false hx ?_
 refine wp_seq_k fun mr hy => ?_
 refine wp_g0 (.replicate 9 true) [] 91
   [ve (pv q9), ve (iv ((countedV (cleanV u)).k)), vT, vT, ve (pv aB), ve (iv ((countedV (cleanV v)).k)), ve (.bool (decide (((countedV (cleanV v)).k) = 5))), ve (.bool (decide (((countedV (cleanV v)).k) = 5))), ve (.bool (decide (((countedV (cleanV v)).k) = 5)))] bs (.eq (.eq (.eq (.eq (.eq (.eq (.eq (.eq (.eq (.nil)))))))))) ?_ ?_
 exact .f (fun k => k.fx 2 cM) <| .t (fun _ w hn k => ⟨_, v_load rfl (k.eq1 0 69 rfl) (l_one Tryd.isAgg3 ((co.new_ hn).cell 0)), rfl⟩) <| .t (fun _ w hn k => ⟨_, v_bin rfl (k.eq1 1 70 rfl) rfl (fun _ => rfl) (r_eql aj), rfl⟩) <| .m (fun k => k.eq1 2 71 rfl) <| .gf (fun k => k.eq1 3 72 rfl) (fun k => k.fx 3 cN) <| .g (fun k => k.eq1 3 72 rfl) (fun _ w hn k => ⟨_, v_load rfl (k.eq1 4 73 rfl) (l_one Tryd.isAgg3 ((cp.new_ hn).cell 0)), rfl⟩) <| .g (fun k => k.eq1 3 72 rfl) (fun _ w hn k => ⟨_, v_bin rfl (k.eq1 5 74 rfl) rfl (fun _ => rfl) (r_eql rfl), rfl⟩) <| .t (fun _ w hn k => ⟨_, v_pickT rfl (k.eq1 3 72 rfl) (k.eq1 6 75 rfl), rfl⟩) <| .a (fun k => k.eq1 7 76 rfl) .nil
 refine aftI bs dL dM fun ms jx bt dP cq a4 cr => ?_
 have jy := cr.fx 2 cM
 have jz := cr.fx 3 cN
 have eR := cr.ge 8 68 rfl
 have dQ := co.new_ a4
 have hz := cp.new_ a4
 have hA := dN.new_ a4
 have hC := ho.new_ a4
 have hD := hr.new_ a4
 have hE := hs.new_ a4
 refine st_nil (hy _ _ ?_)
 rcases bc (decide (((countedV (cleanV v)).k) = 5)) with aH | aH
 have eS := oT aH
 have hF := hB eR aH
 refine wp_cond_true hF ?_
 refine wp_seq_k fun mt hG => ?_
 refine wp_g [true, true, true, true, true, true, false, false] [4] [(6, false), (7, true)] 91
   [ve (vv (countedV (cleanV v)) am ae ar ag), ve (.tuple #[nv ((numberV (countedV (cleanV v))).1), iv ((numberV (countedV (cleanV v))).2)]), ve (.tuple #[nv ((numberV (countedV (cleanV v))).1), iv ((numberV (countedV (cleanV v))).2)]), ve (nv ((numberV (countedV (cleanV v))).1)), ve (iv ((numberV (countedV (cleanV v))).2)), IsNew jx 23 [iv 0, iv 0], vt, vt]
   [5] (newsCons (fun v w h => IsNew.old h) newsNil) bt (.eq (.eq (.eq (.eq (.eq (.nw (.tt (.tt (.nil))))))))) ?_ ?_ ?_
 refine .t (fun _ w hn k => ⟨_, v_load rfl (k.fx 3 jz) (l_agg Tryd.isAgg29 Tryd.sizeOf29 (hz.new_ hn) rfl), rfl⟩) <| .o1 (ck rfl rfl rfl (fun _ w hn k => ⟨#[vv (countedV (cleanV v)) am ae ar ag], args1 (k.eq1 0 78 rfl), fun _ => by kernel_rfl, cnumber_c (countedV (cleanV v)) _ _ _ _ _ (hA.new_ hn) (hC.new_ hn) hvv.clean.counted⟩) fun _ => rfl) <| .m (fun k => k.eq1 1 79 rfl) <| .t (fun _ w hn k => ⟨_, v_extract rfl (k.eq1 2 77 rfl) rfl, rfl⟩) ?_
 refine .o3 ?_
 exact .o2 (step_allocN (cs := [iv 0, iv 0]) (t := 23) rfl (noG rfl) (fun _ w hn k => rfl) (fun q _ hq hb => ⟨q, rfl, hq, hb⟩)) <| .off <| .off .nil
 intro i h
 simp only [List.contains_eq_mem, List.mem_cons, List.not_mem_nil, or_false, decide_eq_true_eq] at h
 subst h
 exact eager_take rfl rfl fun _ w hn k => ⟨iv ((numberV (countedV (cleanV v))).2), fun w => v_extract rfl (k.eq1 2 77 rfl) rfl, rfl⟩
 refine aftI bt dP cq fun eT mu dR hH hI ct bu => ?_
 have jA := bu.fx 2 jy
 have eU := bu.ge 3 80 rfl
 have eV := bu.ge 4 81 rfl
 obtain ⟨jB, eW, dS, cw⟩ : IsNew _ _ _ _ _ := bu.got 5 6 rfl (by kernel_rfl)
 have hJ := dQ.new_ ct
 have hne593 : q9 ≠ jB := by have h1 := dQ.lt; have h2 := dS; omega
 have kO := Nat.le_trans cq.size dS
 have hK := hD.new_ ct
 have hL := hE.new_ ct
 obtain ⟨mv, -, eX, hM, cx, hN⟩ := s_two (v0 := iv ((numberV (countedV (cleanV v))).1.k)) (v1 := iv ((numberV (countedV (cleanV v))).1.n)) Tryd.sizeOf23 rfl rfl rfl cw
 refine st_act rfl rfl fun mw hO => a_store' rfl eW eU eX (hO _ _ trivial ?_)
 have kP := hK.far cw cx (by first | rfl | decide | simp [notK])
 have kQ := hL.far cw cx (by first | rfl | decide | simp [notK])
 have hP := hN _ _ _ (hne593) hJ
 have dT := hI.trans cx (fun _ h b => by subst b; omega)
 refine st_take rfl rfl (y_assign (v := iv ((numberV (countedV (cleanV v))).2)) rfl eV) rfl ?_
 obtain ⟨jC, aI⟩ : ∃ a', a' = eT.put (some 7) (iv ((numberV (countedV (cleanV v))).2)) := ⟨_, rfl⟩
 have bv := pz aI dR
 have dU := pd aI hH
 have jD := pn aI jA (by decide)
 have mx := pn aI eU (by decide)
 have my := pn aI eV (by decide)
 have jE := pn aI eW (by decide)
 have cy : jC.eval (.tmp 7) = iv ((numberV (countedV (cleanV v))).2) := by rw [aI]; exact put_same _ _ _ (by rw [dR]; decide)
 show stepsTo _ _ _ _ _ (eT.put (some 7) (iv ((numberV (countedV (cleanV v))).2))) _
 rw [← aI]
 refine st_nil (hG _ _ (wp_seq_k fun mz dV => ?_))
 rcases bc (decide (((numberV (countedV (cleanV v))).2) = 0)) with aL | aL
 have eY := oT aL
 refine wp_g0 (.replicate 11 true) [] 91
   [ve (iv ((numberV (countedV (cleanV v))).2)), vT, vT, ve (.pointer (some ⟨q9, 1, none⟩)), ve (nv (Nm.mk ((countedV (cleanV u)).nk) ((countedV (cleanV u)).nn))), ve (nv ((numberV (countedV (cleanV v))).1)), ve (.bool (equalM (Nm.mk ((countedV (cleanV u)).nk) ((countedV (cleanV u)).nn)) ((numberV (countedV (cleanV v))).1))), ve (.bool (equalM (Nm.mk ((countedV (cleanV u)).nk) ((countedV (cleanV u)).nn)) ((numberV (countedV (cleanV v))).1))), ve (iv ((numberV (countedV (cleanV v))).2)), ve (.bool (equalM (Nm.mk ((countedV (cleanV u)).nk) ((countedV (cleanV u)).nn)) ((numberV (countedV (cleanV v))).1))), ve (iv ((numberV (countedV (cleanV v))).2))] bv (.eq (.eq (.eq (.eq (.eq (.eq (.eq (.eq (.eq (.eq (.eq (.nil)))))))))))) ?_ ?_
 exact .m (fun k => k.fx 7 cy) <| .t (fun _ w hn k => ⟨_, v_bin rfl (k.eq1 0 82 rfl) rfl (fun _ => rfl) (r_eql aL), rfl⟩) <| .m (fun k => k.eq1 1 83 rfl) <| .gf (fun k => k.eq1 2 84 rfl) (fun k => k.fx 2 jD) <| .g (fun k => k.eq1 2 84 rfl) (fun _ w hn k => ⟨_, v_load rfl (k.eq1 3 85 rfl) (l_part Tryd.isAgg23 Tryd.sizeOf23 (hP.new_ hn) lb), rfl⟩) <| .g (fun k => k.eq1 2 84 rfl) (fun _ w hn k => ⟨_, v_load rfl (k.fx 6 jE) (l_two Tryd.isAgg23 Tryd.sizeOf23 (hM.new_ hn)), rfl⟩) <| .o1 (cg rfl rfl rfl (fun _ _ k => k.eq1 2 84 rfl) rfl (fun _ w hn k => ⟨#[nv (Nm.mk ((countedV (cleanV u)).nk) ((countedV (cleanV u)).nn)), nv ((numberV (countedV (cleanV v))).1)], args2 (k.eq1 4 86 rfl) (k.eq1 5 87 rfl), fun _ => by kernel_rfl, equal_c (Nm.mk ((countedV (cleanV u)).nk) ((countedV (cleanV u)).nn)) ((numberV (countedV (cleanV v))).1) _ ⟩) fun _ => rfl) <| .t (fun _ w hn k => ⟨_, v_pickT rfl (k.eq1 2 84 rfl) (k.eq1 6 88 rfl), rfl⟩) <| .m (fun k => k.fx 7 cy) <| .a (fun k => k.eq1 7 89 rfl) <| .a (fun k => k.eq1 8 90 rfl) .nil
 refine aftI bv dU dT fun mA mB kR hQ hR kS dW => ?_
 have jF := dW.ge 9 4 rfl
 have jG := dW.ge 10 5 rfl
 refine st_nil (dV _ _ ?_)
 refine wp_ret (ret_k hQ (v := .tuple #[.bool (equalM (Nm.mk ((countedV (cleanV u)).nk) ((countedV (cleanV u)).nn)) ((numberV (countedV (cleanV v))).1)), iv ((numberV (countedV (cleanV v))).2)]) (res_tt rfl jF jG _) ?_)
 refine ⟨?_, hR⟩
 show Ending.returned (.tuple #[.bool (equalM (Nm.mk ((countedV (cleanV u)).nk) ((countedV (cleanV u)).nn)) ((numberV (countedV (cleanV v))).1)), iv ((numberV (countedV (cleanV v))).2)]) = Ending.returned (.tuple #[.bool ((looseV v u).1), iv ((looseV v u).2)])
 first | rfl | (simp only [looseV, loose1, loose2, loose3, noneV, ad, aa, ac, ab, ap, aj, aA, aH, aL, bsm] <;> rfl) | (exfalso; omega)
 have eY := oF aL
 refine wp_g0 (.replicate 11 true) [] 91
   [ve (iv ((numberV (countedV (cleanV v))).2)), vF, vF, vU, vU, vU, vU, vF, ve (iv ((numberV (countedV (cleanV v))).2)), vF, ve (iv ((numberV (countedV (cleanV v))).2))] bv (.eq (.eq (.eq (.eq (.eq (.eq (.eq (.eq (.eq (.eq (.eq (.nil)))))))))))) ?_ ?_
 exact .m (fun k => k.fx 7 cy) <| .t (fun _ w hn k => ⟨_, v_bin rfl (k.eq1 0 82 rfl) rfl (fun _ => rfl) (r_eql aL), rfl⟩) <| .m (fun k => k.eq1 1 83 rfl) <| .s (fun k => k.eq1 2 84 rfl) <| .s (fun k => k.eq1 2 84 rfl) <| .s (fun k => k.eq1 2 84 rfl) <| .s (fun k => k.eq1 2 84 rfl) <| .t (fun _ w hn k => ⟨_, v_pickF rfl (k.eq1 2 84 rfl) rfl, rfl⟩) <| .m (fun k => k.fx 7 cy) <| .a (fun k => k.eq1 7 89 rfl) <| .a (fun k => k.eq1 8 90 rfl) .nil
 refine aftI bv dU dT fun mC mD kT hS hT kU dX => ?_
 have jH := dX.ge 9 4 rfl
 have jI := dX.ge 10 5 rfl
 refine st_nil (dV _ _ ?_)
 refine wp_ret (ret_k hS (v := .tuple #[.bool false, iv ((numberV (countedV (cleanV v))).2)]) (res_tt rfl jH jI _) ?_)
 refine ⟨?_, hT⟩
 show Ending.returned (.tuple #[.bool false, iv ((numberV (countedV (cleanV v))).2)]) = Ending.returned (.tuple #[.bool ((looseV v u).1), iv ((looseV v u).2)])
 first | rfl | (simp only [looseV, loose1, loose2, loose3, noneV, ad, aa, ac, ab, ap, aj, aA, aH, aL, bsm] <;> rfl) | (exfalso; omega)
 have eS := oF aH
 have hU := hB eR aH
 refine wp_cond_false hU ?_
 refine wp_skip ?_
 refine dI _ _ ?_
 refine wp_seq_k fun mE hV => ?_
 refine wp_g0 [true, true] [] 91
   [vF, ve (iv 3)] bt (.eq (.eq (.nil))) ?_ ?_
 exact .t (fun _ w hn k => ⟨_, v_assign rfl rfl, rfl⟩) <| .t (fun _ w hn k => ⟨_, v_assign rfl rfl, rfl⟩) .nil
 refine aftI bt dP cq fun mF mG kV hW hX kW dY => ?_
 have jJ := dY.ge 0 4 rfl
 have jK := dY.ge 1 5 rfl
 refine st_nil (hV _ _ ?_)
 refine wp_ret (ret_k hW (v := .tuple #[.bool false, iv 3]) (res_tt rfl jJ jK _) ?_)
 refine ⟨?_, hX⟩
 show Ending.returned (.tuple #[.bool false, iv 3]) = Ending.returned (.tuple #[.bool ((looseV v u).1), iv ((looseV v u).2)])
 first | rfl | (simp only [looseV, loose1, loose2, loose3, noneV, ad, aa, ac, ab, ap, aj, aA, aH, bsm] <;> rfl) | (exfalso; omega)
 have eO := oF aj
 refine wp_g0 (.replicate 9 true) [] 91
   [ve (pv q9), ve (iv ((countedV (cleanV u)).k)), vF, vF, vU, vU, vU, vF, vF] aZ (.eq (.eq (.eq (.eq (.eq (.eq (.eq (.eq (.eq (.nil)))))))))) ?_ ?_
 exact .f (fun k => k.fx 2 bI) <| .t (fun _ w hn k => ⟨_, v_load rfl (k.eq1 0 55 rfl) (l_one Tryd.isAgg3 ((bd.new_ hn).cell 0)), rfl⟩) <| .t (fun _ w hn k => ⟨_, v_bin rfl (k.eq1 1 56 rfl) rfl (fun _ => rfl) (r_eql aj), rfl⟩) <| .m (fun k => k.eq1 2 57 rfl) <| .s (fun k => k.eq1 3 58 rfl) <| .s (fun k => k.eq1 3 58 rfl) <| .s (fun k => k.eq1 3 58 rfl) <| .t (fun _ w hn k => ⟨_, v_pickF rfl (k.eq1 3 58 rfl) rfl, rfl⟩) <| .a (fun k => k.eq1 7 62 rfl) .nil
 refine aftI aZ cd ce fun mH mI dZ hY hZ a5 cz => ?_
 have eZ := cz.fx 2 bI
 have jL := cz.fx 3 ch
 have jM := cz.ge 8 54 rfl
 have d0 := bd.new_ a5
 have h3 := br.new_ a5
 have h4 := ci.new_ a5
 have h5 := cj.new_ a5
 have h6 := cl.new_ a5
 have h7 := cm.new_ a5
 refine st_nil (dK _ _ ?_)
 refine wp_cond_false jM ?_
 refine wp_seq_k fun mJ h9 => ?_
 refine wp_g0 (.replicate 9 true) [] 91
   [ve (pv q9), ve (iv ((countedV (cleanV u)).k)), vF, vF, vU, vU, vU, vF, vF] dZ (.eq (.eq (.eq (.eq (.eq (.eq (.eq (.eq (.eq (.nil)))))))))) ?_ ?_
 exact .f (fun k => k.fx 2 eZ) <| .t (fun _ w hn k => ⟨_, v_load rfl (k.eq1 0 69 rfl) (l_one Tryd.isAgg3 ((d0.new_ hn).cell 0)), rfl⟩) <| .t (fun _ w hn k => ⟨_, v_bin rfl (k.eq1 1 70 rfl) rfl (fun _ => rfl) (r_eql aj), rfl⟩) <| .m (fun k => k.eq1 2 71 rfl) <| .s (fun k => k.eq1 3 72 rfl) <| .s (fun k => k.eq1 3 72 rfl) <| .s (fun k => k.eq1 3 72 rfl) <| .t (fun _ w hn k => ⟨_, v_pickF rfl (k.eq1 3 72 rfl) rfl, rfl⟩) <| .a (fun k => k.eq1 7 76 rfl) .nil
 refine aftI dZ hY hZ fun mK mL d1 ia ib a6 cA => ?_
 have mM := cA.fx 2 eZ
 have mN := cA.fx 3 jL
 have jN := cA.ge 8 68 rfl
 have kX := d0.new_ a6
 have kY := h3.new_ a6
 have kZ := h4.new_ a6
 have k0 := h5.new_ a6
 have k1 := h6.new_ a6
 have k2 := h7.new_ a6
 refine st_nil (h9 _ _ ?_)
 refine wp_cond_false jN ?_
 refine wp_skip ?_
 refine dI _ _ ?_
 refine wp_seq_k fun mO ic => ?_
 refine wp_g0 [true, true] [] 91
   [vF, ve (iv 3)] d1 (.eq (.eq (.nil))) ?_ ?_
 exact .t (fun _ w hn k => ⟨_, v_assign rfl rfl, rfl⟩) <| .t (fun _ w hn k => ⟨_, v_assign rfl rfl, rfl⟩) .nil
 refine aftI d1 ia ib fun mP mQ k3 id ie k4 d2 => ?_
 have jO := d2.ge 0 4 rfl
 have jP := d2.ge 1 5 rfl
 refine st_nil (ic _ _ ?_)
 refine wp_ret (ret_k id (v := .tuple #[.bool false, iv 3]) (res_tt rfl jO jP _) ?_)
 refine ⟨?_, ie⟩
 show Ending.returned (.tuple #[.bool false, iv 3]) = Ending.returned (.tuple #[.bool ((looseV v u).1), iv ((looseV v u).2)])
 first | rfl | (simp only [looseV, loose1, loose2, loose3, noneV, ad, aa, ac, ab, ap, aj, bsm] <;> rfl) | (exfalso; omega)
def ItoaOk (w0 : World) : Prop := ∀ n : Int, -9223372036854775808 ≤ n → n ≤ 9223372036854775807 → ∀ w', New w0 w' → Calls Tryd.prog 53 #[.int .i64 n] w' (IsRet (.string (itoaS n)) w')
theorem ItoaOk.up {w0 w : World} (h : ItoaOk w0) (hn : New w0 w) : ItoaOk w := fun n h1 h2 w' h3 => h n h1 h2 w' (hn.transNew h3)
theorem ntext_c (a : Nm) (w : World) (HT : ItoaOk w) : Calls Tryd.prog 36 #[nv a] w (IsRet (.string (textM a)) w) := by
 refine enter_abs Tryd.func36 rfl fun a0 aj bC hp => ?_
 have aj : a0.tmps.size = 16 := aj
 have aP : New w w := Upd.refl _ _
 have hp0 : a0.eval (.tmp 0) = nv a := hp 0 _ rfl
 refine wp_seq_k fun K1 bD => ?_
 refine wp_g [true, true] [] [] 16
   [IsNew w 23 [iv a.k, iv a.n], ve (.string ⟨#[]⟩)]
   [0] (newsCons (fun v w h => IsNew.old h) newsNil) aj (.nw (.eq (.nil))) ?_ (fun i h => by cases h) ?_
 exact .o2 (step_allocN (cs := [iv a.k, iv a.n]) (t := 23) rfl (noG rfl) (fun _ w hn k => v_box rfl (k.fx 0 hp0) (fun w => rfl)) (fun q _ hq hb => ⟨q, rfl, hq, hb⟩)) <| .t (fun _ w hn k => ⟨_, v_assign rfl rfl, rfl⟩) .nil
 refine aftI aj bC aP fun a2 w3 aQ bE aV b3 bF => ?_
 obtain ⟨q9, h8, aW, ak⟩ : IsNew _ _ _ _ _ := bF.got 0 1 rfl (by kernel_rfl)
 have bR := Nat.le_trans aP.size aW
 refine st_nil (bD _ _ (wp_seq_k fun b4 aX => ?_))
 refine wp_seq_k fun b5 aY => ?_
 refine wp_g0 [true, true, false] [(2, false)] 16
   [ve (nv a), ve (nv (asM a)), vt] aQ (.eq (.eq (.tt (.nil)))) ?_ ?_
 exact .t (fun _ w hn k => ⟨_, v_load rfl (k.fx 1 h8) (l_two Tryd.isAgg23 Tryd.sizeOf23 (ak.new_ hn)), rfl⟩) <| .o1 (ck rfl rfl rfl (fun _ w hn k => ⟨#[nv a], args1 (k.eq1 0 3 rfl), fun _ => by kernel_rfl, as_c a _ ⟩) fun _ => rfl) <| .off .nil
 refine aftI aQ bE aV fun b6 b7 al aZ a1 a3 am => ?_
 have an := am.fx 1 h8
 have bG := am.ge 1 4 rfl
 have a4 := ak.new_ a3
 have hbd_a := as_bd a
 obtain ⟨b8, -, aB, ao, a5, bS⟩ := s_two (v0 := iv ((asM a).k)) (v1 := iv ((asM a).n)) Tryd.sizeOf23 rfl rfl rfl a4
 refine st_act rfl rfl fun b9 a6 => a_store' rfl an bG aB (a6 _ _ trivial ?_)
 have a7 := a1.trans a5 (fun _ h b => by subst b; omega)
 refine st_nil (aY _ _ (wp_seq_k fun ca a8 => ?_))
 refine wp_g0 [true, true] [] 16
   [ve (pv q9), ve (iv ((asM a).k))] al (.eq (.eq (.nil))) ?_ ?_
 exact .f (fun k => k.fx 1 an) <| .t (fun _ w hn k => ⟨_, v_load rfl (k.eq1 0 5 rfl) (l_one Tryd.isAgg3 ((ao.new_ hn).cell 0)), rfl⟩) .nil
 refine aftI al aZ a7 fun cb cc ap a9 ba bb aq => ?_
 have bH := aq.fx 1 an
 have aR := aq.ge 1 6 rfl
 have bd := ao.new_ bb
 refine st_nil (a8 _ _ ?_)
 refine wp_block ?_
 refine wp_seq_k fun cd be => ?_
 refine wp_g0 [true, true] [] 16
   [ve (.bool (decide (((asM a).k) = 2))), ve (.bool (decide (((asM a).k) = 2)))] ap (.eq (.eq (.nil))) ?_ ?_
 exact .t (fun _ w hn k => ⟨_, v_bin rfl (k.fx 6 aR) rfl (fun _ => rfl) (r_eql rfl), rfl⟩) <| .a (fun k => k.eq1 0 8 rfl) .nil
 refine aftI ap a9 ba fun ce cf ad ar au bf ah => ?_
 have bI := ah.fx 1 bH
 have aS := ah.fx 6 aR
 have aT := ah.ge 1 7 rfl
 have bg := bd.new_ bf
 refine st_nil (be _ _ ?_)
 rcases bc (decide (((asM a).k) = 2)) with aa | aa
 have aC := oT aa
 have bh := hB aT aa
 refine wp_cond_true bh ?_
 refine wp_seq_k fun ch bi => ?_
 refine wp_g0 [true] [] 16
   [ve (.string ⟨#[78, 97, 78]⟩)] ad (.eq (.nil)) ?_ ?_
 exact .t (fun _ w hn k => ⟨_, v_assign rfl rfl, rfl⟩) .nil
 refine aftI ad ar au fun ci cj bT bj bk bU bl => ?_
 have bJ := bl.ge 0 2 rfl
 refine st_nil (bi _ _ ?_)
 refine wp_ret (ret_k bj (v := .string ⟨#[78, 97, 78]⟩) (res_t rfl bJ _) ?_)
 refine ⟨?_, bk⟩
 show Ending.returned (.string ⟨#[78, 97, 78]⟩) = Ending.returned (.string (textM a))
 first | rfl | (simp only [textM, aa, bsm] <;> rfl) | (exfalso; omega)
 have aC := oF aa
 have bm := hB aT aa
 refine wp_cond_false bm ?_
 refine wp_seq_k fun cl bn => ?_
 refine wp_g0 [true, true] [] 16
   [ve (.bool (decide (((asM a).k) = 3))), ve (.bool (decide (((asM a).k) = 3)))] ad (.eq (.eq (.nil))) ?_ ?_
 exact .t (fun _ w hn k => ⟨_, v_bin rfl (k.fx 6 aS) rfl (fun _ => rfl) (r_eql rfl), rfl⟩) <| .a (fun k => k.eq1 0 10 rfl) .nil
 refine aftI ad ar au fun cm cn ae av aw bo ai => ?_
 have bK := ai.fx 1 bI
 have bL := ai.fx 6 aS
 have aU := ai.ge 1 9 rfl
 have bp := bg.new_ bo
 refine st_nil (bn _ _ ?_)
 rcases bc (decide (((asM a).k) = 3)) with ac | ac
 have aD := oT ac
 have bq := hB aU ac
 refine wp_cond_true bq ?_
 refine wp_seq_k fun co br => ?_
 refine wp_g0 [true] [] 16
   [ve (.string ⟨#[73, 110, 102, 105, 110, 105, 116, 121]⟩)] ae (.eq (.nil)) ?_ ?_
 exact .t (fun _ w hn k => ⟨_, v_assign rfl rfl, rfl⟩) .nil
 refine aftI ae av aw fun cp cq bV bs bt bW bu => ?_
 have bM := bu.ge 0 2 rfl
 refine st_nil (br _ _ ?_)
 refine wp_ret (ret_k bs (v := .string ⟨#[73, 110, 102, 105, 110, 105, 116, 121]⟩) (res_t rfl bM _) ?_)
 refine ⟨?_, bt⟩
 show Ending.returned (.string ⟨#[73, 110, 102, 105, 110, 105, 116, 121]⟩) = Ending.returned (.string (textM a))
 first | rfl | (simp only [textM, aa, ac, bsm] <;> rfl) | (exfalso; omega)
 have aD := oF ac
 have bv := hB aU ac
 refine wp_cond_false bv ?_
 refine wp_seq_k fun cr bw => ?_
 refine wp_g0 [true, true] [] 16
   [ve (.bool (decide (((asM a).k) = 4))), ve (.bool (decide (((asM a).k) = 4)))] ae (.eq (.eq (.nil))) ?_ ?_
 exact .t (fun _ w hn k => ⟨_, v_bin rfl (k.fx 6 bL) rfl (fun _ => rfl) (r_eql rfl), rfl⟩) <| .a (fun k => k.eq1 0 12 rfl) .nil
 refine aftI ae av aw fun ct cu af ax ag bx ay => ?_
 have bz := ay.fx 1 bK
 have az := ay.ge 1 11 rfl
 have aE := bp.new_ bx
 refine st_nil (bw _ _ ?_)
 rcases bc (decide (((asM a).k) = 4)) with ab | ab
 have aA := oT ab
 have aF := hB az ab
 refine wp_cond_true aF ?_
 refine wp_seq_k fun bX aG => ?_
 refine wp_g0 [true] [] 16
   [ve (.string ⟨#[45, 73, 110, 102, 105, 110, 105, 116, 121]⟩)] af (.eq (.nil)) ?_ ?_
 exact .t (fun _ w hn k => ⟨_, v_assign rfl rfl, rfl⟩) .nil
 refine aftI af ax ag fun bY bZ bN aH aI bO aJ => ?_
 have bA := aJ.ge 0 2 rfl
 refine st_nil (aG _ _ ?_)
 refine wp_ret (ret_k aH (v := .string ⟨#[45, 73, 110, 102, 105, 110, 105, 116, 121]⟩) (res_t rfl bA _) ?_)
 refine ⟨?_, aI⟩
 show Ending.returned (.string ⟨#[45, 73, 110, 102, 105, 110, 105, 116, 121]⟩) = Ending.returned (.string (textM a))
 first | rfl | (simp only [textM, aa, ac, ab, bsm] <;> rfl) | (exfalso; omega)
 have aA := oF ab
 have aK := hB az ab
 refine wp_cond_false aK ?_
 refine wp_skip ?_
 refine aX _ _ ?_
 refine wp_seq_k fun b0 aL => ?_
 refine wp_g0 [true, true, true, true] [] 16
   [ve (.pointer (some ⟨q9, 1, none⟩)), ve (iv ((asM a).n)), ve (.string (itoaS ((asM a).n))), ve (.string (itoaS ((asM a).n)))] af (.eq (.eq (.eq (.eq (.nil))))) ?_ ?_
 exact .f (fun k => k.fx 1 bz) <| .t (fun _ w hn k => ⟨_, v_load rfl (k.eq1 0 13 rfl) (l_one Tryd.isAgg3 ((aE.new_ hn).cell 1)), rfl⟩) <| .o1 (ck rfl rfl rfl (fun _ w hn k => ⟨#[iv ((asM a).n)], args1 (k.eq1 1 14 rfl), fun _ => by kernel_rfl, HT ((asM a).n) (by omega) (by omega) _ (ag.transNew hn)⟩) fun _ => rfl) <| .a (fun k => k.eq1 2 15 rfl) .nil
 refine aftI af ax ag fun b1 b2 bP aM aN bQ aO => ?_
 have bB := aO.ge 3 2 rfl
 refine st_nil (aL _ _ ?_)
 refine wp_ret (ret_k aM (v := .string (itoaS ((asM a).n))) (res_t rfl bB _) ?_)
 refine ⟨?_, aN⟩
 show Ending.returned (.string (itoaS ((asM a).n))) = Ending.returned (.string (textM a))
 first | rfl | (simp only [textM, aa, ac, ab, bsm] <;> rfl) | (exfalso; omega)
def encW (m : List Nat) : List Value := m.map fun x : Nat => .int .u32 (x : Int)
theorem encW_one (m : List Nat) : ∀ u ∈ encW m, u.oneCell' = true := by
  intro u hu
  obtain ⟨x, _, rfl⟩ := List.mem_map.1 hu
  rfl
theorem encW_take (a : List Nat) (k : Nat) : encW (a.take k) = (encW a).take k := by simp [encW]
theorem encW_set (a : List Nat) (k x : Nat) : encW (a.set k x) = (encW a).set k (.int .u32 (x : Int)) := by simp [encW]
theorem encW_get (a : List Nat) (k : Nat) (h : k < a.length) : (encW a)[k]? = some (.int .u32 ((a.getD k 0 : Nat) : Int)) := by simp [encW, List.getD, h]
theorem rowW {w : World} {A : Option Addr} {n c : Nat} {m : List Nat} (h : RowAt w 1 (.slice A n c) n (encW m)) {k : Nat} (hk : k < n) :
    ∃ b off, A = some ⟨b, off, none⟩ ∧ n ≤ c ∧ c ≤ maxLen ∧ b < w.heap.size ∧ w.cell? ⟨b, off + k, none⟩ = some (.int .u32 ((m.getD k 0 : Nat) : Int)) := by
  rcases h.2 with ⟨h0, _⟩ | ⟨b, off, c', hv, hc, hm, hb, hx⟩
  · omega
  · injection hv with hA _ hc'
    subst hA hc'
    have hl : m.length = n := by simpa [encW] using h.1
    exact ⟨b, off, rfl, hc, hm, hb, hx k _ (encW_get m k (by omega))⟩
theorem row_max {w : World} {size n : Nat} {v : Value} {xs : List Value} (h : RowAt w size v n xs) : (n : Int) ≤ 9223372036854775807 := by
  rcases h.2 with ⟨h0, _⟩ | ⟨_, _, c', _, hc, hm, _⟩
  · omega
  · unfold maxLen at hm; omega
/-- A shorter piece of a row reads as the piece. -/
theorem RowAt.cut {w : World} {A : Option Addr} {n c : Nat} {m : List Nat} (h : RowAt w 1 (.slice A n c) n (encW m)) {k : Nat} (hk : k ≤ n) : RowAt w 1 (.slice A k c) k (encW (m.take k)) := by
  have hl : m.length = n := by simpa [encW] using h.1
  refine ⟨by simp [encW]; omega, ?_⟩
  rcases h.2 with ⟨rfl, _⟩ | ⟨b, off, c', hv, hc, hm, hb, hx⟩
  · exact .inl ⟨by omega, A, c, by rw [show k = 0 by omega]⟩
  · injection hv with hA _ hc'
    subst hA hc'
    refine .inr ⟨b, off, c, rfl, by omega, hm, hb, fun j u hj => hx j u ?_⟩
    simp only [encW, List.map_take, List.getElem?_take] at hj ⊢
    split at hj
    · exact hj
    · cases hj
set_option maxHeartbeats 400000 in
theorem cloneW (v : Value) (n : Nat) (xs : List Value) (w : World) (hr : RowAt w 1 v n xs) (h1 : ∀ u ∈ xs, u.oneCell' = true) (hb : n * 4 ≤ 140737488355328) :
    Calls Tryd.prog 67 #[v] w fun e w' => ∃ v', e = .returned v' ∧ Own w' w.heap.size 53 1 v' n xs ∧ New w w' := by
  have hm : n ≤ maxLen := by unfold maxLen; omega
  obtain ⟨A, c, rfl⟩ := hr.form
  cases A with
  | none =>
    obtain ⟨rfl, rfl⟩ : n = 0 ∧ xs = [] := by
      rcases hr.2 with ⟨h0, _⟩ | ⟨b, off, c', hv, _⟩
      · exact ⟨h0, List.eq_nil_of_length_eq_zero (by rw [hr.1, h0])⟩
      · cases hv
    have hE : ∀ W : World, (binOp .eql 24 (.slice none 0 c) (.slice none 0 0)).run Tryd.prog W = .ok (.bool true) W := fun W => Lib.run_eql_slice_nil W _ _ _ _ _ _ _ Tryd.underlying24
    go_enter Tryd.func67, Tryd.ntmps67
    go_wp2
    go_ret
    exact ⟨_, rfl, Own.nil_ _ _ _ _, Upd.refl _ _⟩
  | some a =>
    have hE : ∀ W : World, (binOp .eql 24 (.slice (some a) n c) (.slice none 0 0)).run Tryd.prog W = .ok (.bool false) W := fun W => Lib.run_eql_slice_nil W _ _ _ _ _ _ _ Tryd.underlying24
    have hr1 : RowAt (w.alloc (.cells #[] 53)) 1 (.slice (some a) n c) n xs := hr.new_ ((Upd.refl _ _).alloc _)
    have ho : Own (w.alloc (.cells #[] 53)) w.heap.size 53 1 (.slice (some ⟨w.heap.size, 0, none⟩) 0 0) 0 [] := .inr ⟨rfl, rfl, _, rfl⟩
    go_enter Tryd.func67, Tryd.ntmps67
    go_wp2_with (at_builtin; refine wpList_append_row _ rfl (.tmp 5) (.tmp 6) elW rfl w.heap.size (.slice (some ⟨w.heap.size, 0, none⟩) 0 0) 0 [] rfl ho _ n xs rfl hr1 h1 (by rw [Nat.zero_add]; exact hb) (by rw [Nat.zero_add]; exact hm) (by simp) ?_; intro v' w' hown hg hat)
    go_ret
    refine ⟨v', rfl, by simpa using hown, (((Upd.refl _ _).alloc _).grown hg (fun k hk => by simp [ownB] at hk))⟩
def IsMay (b : Bool) (m : List Nat) (w : World) (e : Ending) (w' : World) : Prop := e = .returned (.bool (mayB b m)) ∧ New w w'
theorem may_any (b : Bool) (v : Value) (m : List Nat) (w : World) (hr : RowAt w 1 v m.length (encW m)) :
    Calls Tryd.prog 34 #[.agg #[.bool b, v]] w (IsMay b m w) := by
  obtain ⟨A, c, rfl⟩ := hr.form
  have hmax := row_max hr
  by_cases h8 : m.length ≤ 8
  · rcases Nat.eq_zero_or_pos m.length with h0 | h0
    · have hb : mayB b m = !b := by simp [mayB, h0]
      rw [h0] at hr ⊢
      have Hb := hide hb
      clear hb hr hmax h0 h8
      cases b
      all_goals
        go_enter Tryd.func34, Tryd.ntmps34
        go_wp2
        go_ret
        exact ⟨by rw [Hb.out]; rfl, (Upd.refl _ _).alloc _⟩
    · obtain ⟨b1, off, rfl, hc, hm, hb1, hcell⟩ := rowW hr (k := m.length - 1) (by omega)
      have hb : mayB b m = decide (m.getD (m.length - 1) 0 ≠ 0) := by
        have : m.length ≠ 0 := by omega
        simp [mayB, h8, h0, this]
      obtain ⟨x, hx⟩ : ∃ x, x = m.getD (m.length - 1) 0 := ⟨_, rfl⟩
      rw [← hx] at hcell hb
      have hcell1 : (w.alloc (.cells #[.bool b, .slice (some ⟨b1, off, none⟩) m.length c] 26)).cell? ⟨b1, off + (m.length - 1), none⟩ = some (.int .u32 (x : Int)) := (((Upd.refl (fun _ => False) w).alloc _).cellN (p := ⟨b1, off + (m.length - 1), none⟩) hb1).trans hcell
      obtain ⟨n, hn⟩ : ∃ n, n = m.length := ⟨_, rfl⟩
      rw [← hn] at hcell1 hc h8 h0 hmax ⊢
      have hz : ((n : Int) == 0) = false := by simp; omega
      have Hb := hide hb
      clear hb hr hx hcell hn hm
      go_enter Tryd.func34, Tryd.ntmps34
      go_wp2
      go_ret
      refine ⟨?_, (Upd.refl _ _).alloc _⟩
      rw [Hb.out]
      by_cases h : x = 0 <;> simp [h]
  · have hb : mayB b m = false := by simp [mayB]; omega
    have Hb := hide hb
    clear hb hr
    go_enter Tryd.func34, Tryd.ntmps34
    go_wp2
    go_ret
    exact ⟨by rw [Hb.out]; rfl, (Upd.refl _ _).alloc _⟩
def lenOf : Value → Nat
  | .slice _ n _ => n
  | _ => 0
def IsTrim (A : Option Addr) (c : Nat) (m : List Nat) (w : World) (e : Ending) (w' : World) : Prop := e = .returned (.slice A (canon (val m)).length c) ∧ w = w'
set_option maxHeartbeats 800000 in
theorem trim_any (A : Option Addr) (n c : Nat) (m : List Nat) (w : World) (hr : RowAt w 1 (.slice A n c) n (encW m)) (hl : Limbs m) :
    Calls Tryd.prog 55 #[.slice A n c] w (IsTrim A c m w) := by
  have hn : m.length = n := by simpa [encW] using hr.1
  have hmax := row_max hr
  have Hr := hide (And.intro hr (And.intro hl hn))
  clear hr hl hn
  go_enter Tryd.func55, Tryd.ntmps55
  go_wp2
  go_loop [0] (fun v => ∃ k : Nat, k ≤ n ∧ v = .slice A k c ∧ Hid (val (m.take k) = val m)) (fun v => lenOf v)
  case atStart => exact ⟨n, Nat.le_refl _, rfl, by show _ = _; rw [List.take_of_length_le (by rw [Hr.out.2.2]; exact Nat.le_refl _)]⟩
  case round =>
    obtain ⟨k, hk, rfl, hv⟩ := hrel
    have hend : (m.take k = [] ∨ 0 < (m.take k).getD (k - 1) 0) → (canon (val m)).length = k := by
      intro ht
      have hlk : (m.take k).length = k := by rw [List.length_take, Hr.out.2.2]; omega
      have h1 : m.take k = canon (val (m.take k)) := canon_val (Hr.out.2.1.take k) (by
        rcases ht with ht | ht
        · exact .inl ht
        · exact .inr (by rw [hlk]; exact ht))
      have h2 : val (m.take k) = val m := hv
      rw [← h2, ← h1, hlk]
    have Hend := hide hend
    clear hend
    rcases Nat.eq_zero_or_pos k with rfl | hk0
    · go_wp2
      go_ret
      refine ⟨?_, rfl⟩
      rw [Hend.out (.inl (by simp))]
      rfl
    · obtain ⟨b, off, rfl, hc, hm, hb, hcell⟩ := rowW Hr.out.1 (k := k - 1) (by omega)
      obtain ⟨x, hx⟩ : ∃ x, x = m.getD (k - 1) 0 := ⟨_, rfl⟩
      rw [← hx] at hcell
      have Hx := hide hx
      have hcm : (c : Int) ≤ 9223372036854775807 := by unfold maxLen at hm; omega
      have hkc : k ≤ c := by omega
      clear hx hm
      have hd : (m.take k).getD (k - 1) 0 = m.getD (k - 1) 0 := by simp [List.getD, show k - 1 < k by omega]
      have Hd := hide hd
      clear hd
      by_cases h0 : x = 0
      · subst h0
        go_wp2
        go_round
        case rel =>
          refine ⟨k - 1, by omega, ?_, ?_⟩
          · rfl
          · show val (m.take (k - 1)) = val m
            have h1 := val_take m (k - 1)
            rw [show k - 1 + 1 = k by omega, ← Hx.out, Nat.mul_zero, Nat.add_zero] at h1
            rw [← h1]
            exact hv
        case measure => simp [lenOf]; omega
      · have h0' : ((x : Int) == 0) = false := by simp; omega
        clear h0
        go_wp2
        go_ret
        refine ⟨?_, rfl⟩
        rw [Hend.out (.inr (by rw [Hd.out, ← Hx.out]; simp at h0'; omega))]
        rfl
/-- A value that is a number that came in, worth z. -/
def BigAt (w : World) (x : Value) (z : Int) : Prop := ∃ b v m, x = .agg #[.bool b, v] ∧ RowAt w 1 v m.length (encW m) ∧ Limbs m ∧ goodI b m = z
/-- A value that is just z's number. -/
def CanAt (w : World) (x : Value) (z : Int) : Prop := ∃ d v, x = .agg #[.bool d, v] ∧ d = decide (z < 0) ∧ RowAt w 1 v (canon z.natAbs).length (encW (canon z.natAbs))
theorem BigAt.new_ {w w' : World} {x : Value} {z : Int} (h : BigAt w x z) (hu : New w w') : BigAt w' x z := by
  obtain ⟨b, v, m, hx, hr, hl, hg⟩ := h
  exact ⟨b, v, m, hx, hr.new_ hu, hl, hg⟩
theorem CanAt.new_ {w w' : World} {x : Value} {z : Int} (h : CanAt w x z) (hu : New w w') : CanAt w' x z := by
  obtain ⟨d, v, hx, hd, hr⟩ := h
  exact ⟨d, v, hx, hd, hr.new_ hu⟩
theorem BigAt.lt {w : World} {x : Value} {z : Int} (h : BigAt w x z) : z.natAbs < 2 ^ 256 := by
  obtain ⟨b, v, m, hx, hr, hl, hg⟩ := h
  rw [← hg]
  exact good_lt hl
theorem CanAt.big {w : World} {x : Value} {z : Int} (h : CanAt w x z) (hz : z.natAbs < 2 ^ 256) : BigAt w x z := by
  obtain ⟨d, v, hx, hd, hr⟩ := h
  subst hd
  refine ⟨_, v, _, hx, hr, limbs_canon _, ?_⟩
  unfold goodI
  rw [if_pos (may_canon hz), val_canon]
  unfold sgn
  split
  · rename_i h; simp at h; omega
  · rename_i h; simp at h; omega
def IsMag (z : Int) (w : World) (e : Ending) (w' : World) : Prop := ∃ A n c, e = .returned (.slice A n c) ∧ n = (canon z.natAbs).length ∧ Own w' w.heap.size 53 1 (.slice A n c) n (encW (canon z.natAbs)) ∧ New w w'
set_option maxHeartbeats 400000 in
theorem mag_any (x : Value) (z : Int) (w : World) (h : BigAt w x z) : Calls Tryd.prog 54 #[x] w (IsMag z w) := by
  obtain ⟨b, v, m, rfl, hr, hl, hg⟩ := h
  have hmg := canon_good (b := b) hl
  rw [hg] at hmg
  have hr1 := hr.new_ ((Upd.refl (fun _ => False) w).alloc (.cells #[.bool b, v] 26))
  have hn1 : New w (w.alloc (.cells #[.bool b, v] 26)) := (Upd.refl _ _).alloc _
  obtain ⟨A, c, rfl⟩ := hr.form
  have Hr := hide (And.intro hr1 (And.intro hl (And.intro hg (And.intro hmg hn1))))
  clear hr hr1 hl hg hmg hn1
  cases hb : mayB b m
  · have Hb := hide hb
    clear hb
    go_enter Tryd.func54, Tryd.ntmps54
    go_wp2_with fail
    refine (may_any b _ m _ Hr.out.1).mono ?_
    rintro e w1 ⟨rfl, hn⟩
    rw [Hb.out]
    go_wp2
    go_ret
    refine ⟨_, _, _, rfl, ?_, ?_, Hr.out.2.2.2.2.transNew hn⟩
    · rw [Hr.out.2.2.2.1, Hb.out]; rfl
    · rw [Hr.out.2.2.2.1, Hb.out]; exact Own.nil_ _ _ _ _
  · have Hb := hide hb
    have h8 := (may_trim hb).2.1
    clear hb
    have hw1 : ∀ w1, New (w.alloc (.cells #[.bool b, .slice A m.length c] 26)) w1 → w1.cell? ⟨w.heap.size, 1, none⟩ = some (.slice A m.length c) := fun w1 hn =>
      (hn.cellN (p := ⟨w.heap.size, 1, none⟩) (by simp)).trans ((Blk.new w 26 [.bool b, .slice A m.length c]).cell 1)
    have Hw1 := hide hw1
    clear hw1
    go_enter Tryd.func54, Tryd.ntmps54
    go_wp2_with fail
    refine (may_any b _ m _ Hr.out.1).mono ?_
    rintro e w1 ⟨rfl, hn⟩
    rw [Hb.out]
    have hc := Hw1.out w1 hn
    go_wp2_with fail
    refine (cloneW _ m.length (encW m) _ (Hr.out.1.new_ hn) (encW_one m) (by omega)).mono ?_
    rintro e w2 ⟨v2, rfl, ho2, hn2⟩
    obtain ⟨A2, c2, rfl⟩ := ho2.row.form
    go_wp2
    go_ret
    have hm : canon z.natAbs = m := by rw [Hr.out.2.2.2.1, Hb.out]; rfl
    refine ⟨_, _, _, rfl, by rw [hm], ?_, (Hr.out.2.2.2.2.transNew hn).transNew hn2⟩
    rw [hm]
    exact ho2.more (Nat.le_trans (Nat.le_of_lt (by simp)) hn.size)
def IsNeg (z : Int) (w : World) (e : Ending) (w' : World) : Prop := ∃ d, e = .returned (.bool d) ∧ d = decide (z < 0) ∧ New w w'
set_option maxHeartbeats 400000 in
theorem neg_any (x : Value) (z : Int) (w : World) (h : BigAt w x z) : Calls Tryd.prog 56 #[x] w (IsNeg z w) := by
  obtain ⟨b, v, m, rfl, hr, hl, hg⟩ := h
  have hmg := neg_good (b := b) hl
  rw [hg] at hmg
  have hr1 := hr.new_ ((Upd.refl (fun _ => False) w).alloc (.cells #[.bool b, v] 26))
  have hn1 : New w (w.alloc (.cells #[.bool b, v] 26)) := (Upd.refl _ _).alloc _
  have hw1 : ∀ w1, New (w.alloc (.cells #[.bool b, v] 26)) w1 → w1.cell? ⟨w.heap.size, 0, none⟩ = some (.bool b) := fun w1 hn =>
    (hn.cellN (p := ⟨w.heap.size, 0, none⟩) (by simp)).trans ((Blk.new w 26 [.bool b, v]).cell 0)
  have Hr := hide (And.intro hr1 (And.intro hmg (And.intro hn1 hw1)))
  clear hr hr1 hl hg hmg hn1 hw1
  cases hb : mayB b m
  all_goals
    have Hb := hide hb
    clear hb
    go_enter Tryd.func56, Tryd.ntmps56
    go_wp2_with fail
    refine (may_any b _ m _ Hr.out.1).mono ?_
    rintro e w1 ⟨rfl, hn⟩
    rw [Hb.out]
    have hc := Hr.out.2.2.2 w1 hn
    go_wp2
    go_ret
    exact ⟨_, rfl, by rw [Hr.out.2.1, Hb.out]; rfl, Hr.out.2.2.1.transNew hn⟩
theorem BigAt.form {w : World} {x : Value} {z : Int} (h : BigAt w x z) : ∃ b A n c, x = .agg #[.bool b, .slice A n c] := by
  obtain ⟨b, v, m, rfl, hr, _⟩ := h
  obtain ⟨A, c, rfl⟩ := hr.form
  exact ⟨b, A, _, c, rfl⟩
/-- The first k of a row of one's own. -/
theorem Own.cut {w : World} {base : Nat} {t : TypeId} {A : Option Addr} {n c : Nat} {xs : List Value} (h : Own w base t 1 (.slice A n c) n xs) {k : Nat} (hk : k ≤ n) : Own w base t 1 (.slice A k c) k (xs.take k) := by
  have hl := h.len
  rcases h with ⟨h1, h2⟩ | ⟨rfl, rfl, A', hA⟩
  · rcases h2 with ⟨hv, hx⟩ | ⟨g, cap, cur, hv, hb, hg, hn, hm, hs, ht⟩
    · injection hv with hA hn hc
      subst hA hn hc
      obtain rfl : k = 0 := by omega
      exact .inl ⟨by simp, .inl ⟨rfl, by simp⟩⟩
    · injection hv with hA _ hc
      subst hA hc
      refine .inl ⟨by rw [List.length_take]; omega, .inr ⟨g, c, cur, rfl, hb, hg, by omega, hm, hs, ?_⟩⟩
      have ht' : cur.toList.take n = xs := by simpa using ht
      show cur.toList.take (k * 1) = xs.take k
      rw [Nat.mul_one, ← ht', List.take_take, Nat.min_eq_left hk]
  · injection hA with hA _ hc
    subst hA hc
    obtain rfl : k = 0 := by omega
    exact .inr ⟨rfl, by simp, _, rfl⟩
theorem Own.trim {w : World} {base : Nat} {A : Option Addr} {n c : Nat} {m : List Nat} (h : Own w base 53 1 (.slice A n c) n (encW m)) (hl : Limbs m) : Own w base 53 1 (.slice A (canon (val m)).length c) (canon (val m)).length (encW (canon (val m))) := by
  have hn : m.length = n := by have := h.len; simpa [encW] using this
  have := h.cut (k := (canon (val m)).length) (by rw [← hn]; exact canon_len_le (val_lt hl))
  rwa [← encW_take, take_canon hl] at this
/-- A place of a row of one's own: what it holds, that it may be written, and the row behind that. -/
theorem Own.place {w : World} {base : Nat} {t : TypeId} {A : Option Addr} {n c : Nat} {xs : List Value} (h : Own w base t 1 (.slice A n c) n xs) {j : Nat} (hj : j < n) :
    ∃ g, A = some ⟨g, 0, none⟩ ∧ n ≤ c ∧ c ≤ maxLen ∧ base ≤ g ∧ g < w.heap.size ∧ w.cell? ⟨g, j, none⟩ = xs[j]? ∧ w.frozen? ⟨g, j, none⟩ = false ∧
      ∀ u : Value, Own (w.setCell ⟨g, j, none⟩ u) base t 1 (.slice (some ⟨g, 0, none⟩) n c) n (xs.set j u) := by
  rcases h with ⟨h1, h2⟩ | ⟨h0, _⟩
  · rcases h2 with ⟨hv, _⟩ | ⟨g, cap, cur, hv, hb, hg, hn, hm, hs, ht⟩
    · injection hv with _ hn _; omega
    · injection hv with hA _ hc
      subst hA hc
      have ht' : cur.toList.take n = xs := by simpa using ht
      have hlt : g < w.heap.size := (Array.getElem?_eq_some_iff.1 hg).1
      have hbk : Blk w g t cur.toList := by unfold Blk; simpa using hg
      have hcur : j < cur.size := by omega
      refine ⟨g, rfl, hn, hm, hb, hlt, ?_, hbk.frozen j, fun u => .inl ⟨by simpa using h1, .inr ⟨g, c, cur.setIfInBounds j u, rfl, hb, ?_, hn, hm, by simpa using hs, ?_⟩⟩⟩
      · rw [hbk.cell j, ← ht', List.getElem?_take, if_pos hj]
      · have := hbk.set_ j u
        unfold Blk at this
        rw [this]
        congr 2
        apply Array.ext'
        simp
      · rw [← ht']
        simp [List.take_set]
  · omega
theorem New.setAt {w w' : World} (h : New w w') {g : Nat} (hg : w.heap.size ≤ g) (j : Nat) (u : Value) : New w (w'.setCell ⟨g, j, none⟩ u) := h.setCell (p := ⟨g, j, none⟩) (.inr hg) u
theorem BigAt.len {w : World} {x : Value} {z : Int} (h : BigAt w x z) : (canon z.natAbs).length ≤ 8 := (canon_len8 _).2 h.lt
def encB (xs : List Int) : List Value := xs.map (Value.int .u8)
theorem encB_one (m : List Int) : ∀ u ∈ encB m, u.oneCell' = true := by
  intro u hu
  obtain ⟨x, _, rfl⟩ := List.mem_map.1 hu
  rfl
theorem encB_app (a b : List Int) : encB (a ++ b) = encB a ++ encB b := by simp [encB]
theorem encB_set (a : List Int) (k : Nat) (x : Int) : encB (a.set k x) = (encB a).set k (.int .u8 x) := by simp [encB]
theorem encB_get (a : List Int) (k : Nat) (h : k < a.length) : (encB a)[k]? = some (.int .u8 (a.getD k 0)) := by simp [encB, List.getD, h]
def IsRev (W : World) (base : Nat) (A : Option Addr) (n c : Nat) (l : List Int) (e : Ending) (w' : World) : Prop := e = .returned (.tuple #[]) ∧ Own w' base 5 1 (.slice A n c) n (encB l.reverse) ∧ Upd (fun q => ownB (.slice A n c) = some q) W w'
set_option maxHeartbeats 3200000 in
theorem reverse_any (base : Nat) (A : Option Addr) (n c : Nat) (l : List Int) (w : World) (ho : Own w base 5 1 (.slice A n c) n (encB l)) (hs : n ≤ 100000) :
    Calls Tryd.prog 57 #[.slice A n c] w (IsRev w base A n c l) := by
  have hl : l.length = n := by have := ho.len; simpa [encB] using this
  have Hl := hide hl
  have ho' : Own w base 5 1 (.slice A n c) n (encB (turned l 0)) := by rw [turned_zero]; exact ho
  clear hl ho
  go_enter Tryd.func57, Tryd.ntmps57
  go_wp2
  go_loopw [2, 3] (fun i j wr => ∃ k : Nat, i = .int .i64 k ∧ j = .int .i64 ((n : Int) - 1 - (k : Int)) ∧ k ≤ n ∧ Own wr base 5 1 (.slice A n c) n (encB (turned l k)) ∧ Upd (fun q => ownB (.slice A n c) = some q) w wr) (fun i _ _ => n - (intOf i).toNat)
  case atStart => exact ⟨0, rfl, by simp, by omega, ho', Upd.refl _ _⟩
  case round =>
    clear ho'
    obtain ⟨k, rfl, rfl, hk, ho, hu⟩ := hrel
    by_cases hlt : k + k + 1 < n
    · obtain ⟨g, rfl, hnc, hcm, hbg, hgl, hcell, hfz, hset⟩ := ho.place (j := k) (by omega)
      obtain ⟨g', hg', -, -, -, -, hcell2, hfz2, -⟩ := ho.place (j := n - 1 - k) (by omega)
      injection hg' with hg'
      injection hg' with hg' _ _
      subst hg'
      have hlt' : (turned l k).length = n := by rw [length_turned, Hl.out]
      rw [encB_get _ _ (by omega)] at hcell hcell2
      obtain ⟨x, hx⟩ : ∃ x, x = (turned l k).getD k 0 := ⟨_, rfl⟩
      obtain ⟨y, hy⟩ : ∃ y, y = (turned l k).getD (n - 1 - k) 0 := ⟨_, rfl⟩
      rw [← hx] at hcell
      rw [← hy] at hcell2
      have hb1 : (0 : Int) ≤ (k : Int) ∧ (k : Int) < (n : Int) ∧ (0 : Int) ≤ (n : Int) - 1 - (k : Int) ∧ (n : Int) - 1 - (k : Int) < (n : Int) := by omega
      obtain ⟨hb1, hb2, hb3, hb4⟩ := hb1
      have hne : k ≠ n - 1 - k := by omega
      have Hs := hide (And.intro hset (And.intro hx (And.intro hy (And.intro hu ho))))
      clear hset hx hy hu ho hcm hlt'
      go_wp2_with fail
      go_region
      obtain ⟨hset, hx, hy, hu, ho⟩ := Hs.out
      have ho1 := hset (.int .u8 y)
      rw [← encB_set] at ho1
      obtain ⟨g', hg', -, -, -, -, -, -, hset2⟩ := ho1.place (j := n - 1 - k) (by omega)
      injection hg' with hg'
      injection hg' with hg' _ _
      subst hg'
      have ho2 := hset2 (.int .u8 x)
      have hts := turned_succ l k (by rw [Hl.out]; exact hlt)
      rw [Hl.out, ← hx, ← hy] at hts
      rw [← encB_set, hts] at ho2
      have hF : ownB (.slice (some ⟨g, 0, none⟩) n c) = some g := by
        obtain ⟨c', rfl⟩ : ∃ c', c = c' + 1 := ⟨c - 1, by omega⟩
        rfl
      have ho3 := ho2.upd (Upd.refl (fun _ => False) _).drew (fun _ _ hf => hf)
      have hu3 := ((hu.setCell (p := ⟨g, k, none⟩) (.inl hF) (.int .u8 y)).setCell (p := ⟨g, n - 1 - k, none⟩) (.inl hF) (.int .u8 x)).drew
      have H3 := hide (And.intro ho3 hu3)
      clear hset hx hy hu ho ho1 hset2 ho2 hts ho3 hu3 hcell hcell2 hfz hfz2 hF
      go_wp2
      go_roundw
      case rel => exact ⟨k + 1, by go_num, by congr 1; omega, by omega, H3.out.1, H3.out.2⟩
      case measure => simp [intOf] <;> omega
    · have hge : (n : Int) - 1 - (k : Int) ≤ (k : Int) := by omega
      have H3 := hide (And.intro ho hu)
      clear ho hu
      go_wp2
      refine bodyPost_ret (v := .tuple #[]) (by simp [results, Tryd.results57, go_sem]) rfl ⟨rfl, ?_, H3.out.2⟩
      have h := H3.out.1
      rwa [turned_end l k (by rw [Hl.out]; omega)] at h
def IsText (xs : List Int) (w : World) (e : Ending) (w' : World) : Prop := e = .returned (.string (strOfNums xs)) ∧ New w w'
set_option maxHeartbeats 6400000 in
theorem text_any (x : Value) (z : Int) (w : World) (hx : BigAt w x z) : Calls Tryd.prog 37 #[x] w (IsText (textI z) w) := by
  obtain ⟨bx, Ax, nx, cx, rfl⟩ := hx.form
  obtain ⟨w1, hw1⟩ : ∃ w1, w1 = w.alloc (.cells #[.bool bx, .slice Ax nx cx] 26) := ⟨_, rfl⟩
  have hn1 : New w w1 := by rw [hw1]; exact (Upd.refl _ _).alloc _
  have hb1 : Blk w1 w.heap.size 26 [.bool bx, .slice Ax nx cx] := by rw [hw1]; exact Blk.new w _ _
  have hz := hx.new_ hn1
  have hzl := hx.lt
  have Hw := hide hw1
  clear hw1
  go_enter Tryd.func37, Tryd.ntmps37
  go_wp2_with fail
  rw [← Hw.out]
  refine (mag_any _ z _ hz).mono ?_
  rintro e w2 ⟨A, n, c, rfl, hl, ho, hm2⟩
  have hn2 := hn1.transNew hm2
  have hb2 := hb1.new_ hm2
  have hz2 := hz.new_ hm2
  have hsz : w.heap.size ≤ w1.heap.size := hn1.size
  have ho2 := ho.more hsz
  clear hn1 hb1 hz hm2 ho
  obtain ⟨V0, hV0⟩ : ∃ V0, V0 = z.natAbs := ⟨_, rfl⟩
  rw [← hV0] at hl ho2
  have hn8 : n ≤ 8 := by rw [hl, canon_len8, hV0]; exact hzl
  have hdl : (digs V0).length ≤ 78 := digs_big (by rw [hV0]; exact hzl)
  have Hl := hide (And.intro hl (And.intro hV0 hdl))
  have hzw := hx
  have H2 := hide (And.intro hb2 (And.intro hzw hn2))
  clear hl hV0 hdl hsz hzl hb2 hz2 hn2 hx hzw
  by_cases h0 : n = 0
  · subst h0
    have hz0 : z = 0 := by
      have h1 := canon_nil.1 (List.eq_nil_of_length_eq_zero Hl.out.1.symm)
      have := Hl.out.2.1
      omega
    have Hz := hide hz0
    clear hz0 ho2
    go_wp2
    go_ret
    refine ⟨?_, H2.out.2.2⟩
    rw [Hz.out]
    rfl
  · have hn0 : ((n : Int) == 0) = false := by simp; omega
    have hz0 : z ≠ 0 := by
      intro h
      refine h0 ?_
      rw [Hl.out.1, Hl.out.2.1, h, show (0 : Int).natAbs = 0 from rfl, canon_zero]; rfl
    have Hz := hide hz0
    clear h0 hz0
    go_wp2
    go_loopg [3, 4] V0 (fun gk m l wr => ∃ (A : Option Addr) (n c : Nat) (ds : List Int), m = .slice A n c ∧ n ≤ 8 ∧ ds.length ≤ 78 ∧ Hid (n = (canon gk).length ∧ (digs V0).map letter = ds ++ (digs gk).map letter) ∧ Own wr w.heap.size 53 1 (.slice A n c) n (encW (canon gk)) ∧ Own wr w.heap.size 5 1 l ds.length (encB ds) ∧ New w wr ∧ Hid (Blk wr w.heap.size 26 [.bool bx, .slice Ax nx cx]))
    case atStart => exact ⟨A, n, c, [], rfl, hn8, by simp, ⟨Hl.out.1, by simp⟩, ho2, Own.nil_ _ _ _ _, H2.out.2.2, H2.out.1⟩
    case round =>
      clear ho2 hn0
      obtain ⟨Am, nm, cm, ds, rfl, hnm8, hds, hd, hom, hol, hnew, hbox⟩ := hrel
      have Hd := hide (show nm = (canon gk).length ∧ (digs V0).map letter = ds ++ (digs gk).map letter from hd)
      clear hd
      by_cases hpos : 0 < nm
      · have hlc : (canon gk).length = nm := Hd.out.1.symm
        have hT := ten_start (limbs_canon gk)
        rw [hlc] at hT
        have Ho := hide (And.intro hom (And.intro hol (And.intro hnew (And.intro hT hbox))))
        clear hom hol hnew hT hlc hbox
        go_wp2
        go_loopw [5, 6] (fun r i wr => ∃ (k rr : Nat) (m2 : List Nat), k ≤ nm ∧ i = .int .i64 ((k : Int) - 1) ∧ r = .int .u64 (rr : Int) ∧ rr < 10 ∧ Hid (TenAt (canon gk) m2 k rr) ∧ Own wr w.heap.size 53 1 (.slice Am nm cm) nm (encW m2) ∧ Own wr w.heap.size 5 1 u4 ds.length (encB ds) ∧ New w wr ∧ Hid (Blk wr w.heap.size 26 [.bool bx, .slice Ax nx cx])) (fun _ i _ => (intOf i + 1).toNat)
        case atStart => exact ⟨nm, 0, canon gk, Nat.le_refl _, rfl, rfl, by omega, Ho.out.2.2.2.1, Ho.out.1, Ho.out.2.1, Ho.out.2.2.1, Ho.out.2.2.2.2⟩
        case round =>
          clear Ho
          obtain ⟨k, rr, m2, hk, rfl, rfl, hrr, hT, hom, hol, hnew, hbox⟩ := hrel
          rcases Nat.eq_zero_or_pos k with rfl | hk0
          · obtain ⟨he1, he2⟩ := ten_end (show TenAt (canon gk) m2 0 rr from hT)
            rw [val_canon] at he1 he2
            have hT' : TenAt (canon gk) m2 0 rr := hT
            have e1 : Value.int .u8 (48 + (rr : Int)) = .int .u8 (letter rr) := by simp [letter]
            have hgk : 0 < gk := by
              rcases Nat.eq_zero_or_pos gk with h | h
              · have := Hd.out.1
                rw [h, canon_zero] at this
                simp at this
                omega
              · exact h
            have hdg : (digs V0).map letter = (ds ++ [letter rr]) ++ (digs (gk / 10)).map letter := by
              rw [Hd.out.2, digs_pos hgk, List.map_cons, List.append_assoc, he2]
              rfl
            have hdsl : ds.length + 1 ≤ 78 := by
              have h1 := congrArg List.length hdg
              simp at h1
              have := Hl.out.2.2
              omega
            have hA : New wr (wr.alloc (.cells #[.int .u8 (letter rr)] 5)) := (Upd.refl _ _).alloc _
            have hrowl : RowAt (wr.alloc (.cells #[.int .u8 (letter rr)] 5)) 1 (.slice (some ⟨wr.heap.size, 0, none⟩) 1 1) 1 (encB [letter rr]) := RowAt.fresh wr _ (encB [letter rr]) 1 1 rfl (by omega) (by unfold maxLen; omega)
            have hbase : w.heap.size ≤ (wr.alloc (.cells #[.int .u8 (letter rr)] 5)).heap.size := (hnew.alloc _).size
            have P := hide (And.intro e1 (And.intro (hol.new_ hA) (And.intro hrowl (And.intro hbase (And.intro (hom.new_ hA) (And.intro (hnew.transNew hA) ((show Blk wr _ _ _ from hbox).new_ hA)))))))
            have Q := hide (And.intro he1 (And.intro hT' (And.intro hdg hgk)))
            clear e1 hA hrowl hbase hol hom hnew hbox he1 he2 hT hT' hdg hgk
            go_wp2_with (at_builtin; rw [P.out.1]; refine wpList_append_row _ rfl (.tmp 38) (.tmp 42) elB rfl w.heap.size u4 ds.length (encB ds) rfl P.out.2.1 (.slice (some ⟨wr.heap.size, 0, none⟩) 1 1) 1 (encB [letter rr]) rfl P.out.2.2.1 (encB_one _) (by omega) (by unfold maxLen; omega) P.out.2.2.2.1 ?_; intro v3 w3 hown3 hg3 _)
            have hu3 : Upd (fun q => ownB u4 = some q) (wr.alloc (.cells #[.int .u8 (letter rr)] 5)) w3 := (Upd.refl _ _).grown hg3 fun q hq => .inl hq
            have hom3 := P.out.2.2.2.2.1.upd hu3 fun q hq hq' => P.out.2.2.2.2.1.ne_own P.out.2.1 (by decide) q hq hq'
            have hbox3 := P.out.2.2.2.2.2.2.upd hu3 fun hq => P.out.2.1.ne_blk P.out.2.2.2.2.2.2 (by decide) _ hq rfl
            have hnew3 : New w w3 := P.out.2.2.2.2.2.1.grown hg3 fun q hq => .inr (P.out.2.1.lt q hq).1
            rw [← encB_app] at hown3
            have Q3 := hide (And.intro hom3 (And.intro hbox3 (And.intro hnew3 hown3)))
            clear hu3 hom3 hbox3 hnew3 hown3 hg3
            go_wp2_with fail
            refine (trim_any Am nm cm m2 _ Q3.out.1.row Q.out.2.1.limbs).mono ?_
            rintro e w4 ⟨rfl, rfl⟩
            have hot := Q3.out.1.trim Q.out.2.1.limbs
            rw [Q.out.1] at hot ⊢
            obtain ⟨nz, hnz⟩ : ∃ nz, nz = (canon (gk / 10)).length := ⟨_, rfl⟩
            rw [← hnz] at hot ⊢
            have hnz8 : nz ≤ 8 := by
              rw [hnz]
              refine Nat.le_trans (canon_len_le (k := (canon gk).length) ?_) (by rw [← Hd.out.1]; exact hnm8)
              have h := val_lt (limbs_canon gk)
              rw [val_canon] at h
              exact Nat.lt_of_le_of_lt (Nat.div_le_self _ _) h
            have Hot := hide (And.intro hot hnz)
            clear hot hnz
            go_wp2
            go_roundg (gk / 10)
            case measure => have := Q.out.2.2.2; omega
            case rel => exact ⟨Am, nz, cm, ds ++ [letter rr], rfl, hnz8, by simpa using hdsl, ⟨Hot.out.2, Q.out.2.2.1⟩, Hot.out.1, by simpa using Q3.out.2.2.2, Q3.out.2.2.1, Q3.out.2.1⟩
          · obtain ⟨p, rfl⟩ : ∃ p, k = p + 1 := ⟨k - 1, by omega⟩
            rw [show (((p + 1 : Nat) : Int) - 1) = (p : Int) by omega]
            obtain ⟨g, rfl, hnc, hcm, hbg, hgl, hcell, hfz, hset⟩ := hom.place (j := p) (by omega)
            have hT' : TenAt (canon gk) m2 (p + 1) rr := hT
            obtain ⟨hs1, hs2, hs3⟩ := ten_step (limbs_canon gk) hT' (by rw [← Hd.out.1]; omega)
            rw [encW_get _ _ (by rw [hT'.len, ← Hd.out.1]; omega), hT'.same p (by omega)] at hcell
            obtain ⟨y, hy⟩ : ∃ y, y = (canon gk).getD p 0 := ⟨_, rfl⟩
            rw [← hy] at hcell hs1 hs2
            have hyb : y < 4294967296 := by rw [hy]; exact (limbs_canon gk).at _
            have hor : bits .or .u64 ((rr : Int) * 4294967296) (y : Int) = ((rr * 4294967296 + y : Nat) : Int) := by
              have h1 : (rr : Int) * 4294967296 = ((rr * 4294967296 : Nat) : Int) := by simp
              rw [h1, bits_or_u64_nat _ _ (by omega) (by omega), or_word hyb]
            obtain ⟨s, hs⟩ : ∃ s, s = rr * 4294967296 + y := ⟨_, rfl⟩
            rw [← hs] at hor hs1 hs2
            have hsb : s < 42949672960 := by omega
            have hgq : g ≠ w.heap.size := fun h => hom.ne_blk (show Blk wr _ _ _ from hbox) (by decide) g (by
              obtain ⟨c', rfl⟩ : ∃ c', cm = c' + 1 := ⟨cm - 1, by omega⟩
              rfl) h
            have Hs := hide (And.intro hset (And.intro hs1 (And.intro hol (And.intro hnew (And.intro hom (And.intro hgq hbox))))))
            have Hor := hide hor
            clear hset hs1 hol hnew hom hT hT' hy hor hs hk0 hcm hgq hbox
            go_upto_region 11 with (fail)
            rw [Hor.out]
            go_wp2
            go_roundw
            case rel =>
              obtain ⟨hset, hs1, hol, hnew, hom, hgq, hbox⟩ := Hs.out
              have e2 : Value.int .u64 ((s : Int) % 10) = .int .u64 ((s % 10 : Nat) : Int) := by simp
              have e3 : Value.int .u32 ((s : Int) / 10) = .int .u32 ((s / 10 : Nat) : Int) := by simp
              refine ⟨p, s % 10, m2.set p (s / 10), by omega, rfl, e2, by omega, hs1, ?_, ?_, ?_, ?_⟩
              · rw [encW_set, ← e3]; exact hset _
              · exact hol.upd (Upd.cellAt wr ⟨g, p, none⟩ _) fun q hq hqg => hol.ne_own hom (by decide) q hq (by
                  have h1 : q = g := hqg
                  subst h1
                  obtain ⟨c', rfl⟩ : ∃ c', cm = c' + 1 := ⟨cm - 1, by omega⟩
                  rfl)
              · exact New.setAt hnew hbg _ _
              · exact (show Blk wr _ _ _ from hbox).far (p := ⟨g, p, none⟩) (Ne.symm hgq) _
            case measure => simp [intOf] <;> omega
      · obtain rfl : nm = 0 := by omega
        have hg0 : gk = 0 := canon_nil.1 (List.eq_nil_of_length_eq_zero Hd.out.1.symm)
        have hds0 : (digs V0).map letter = ds := by rw [Hd.out.2, hg0, digs_zero]; simp
        obtain ⟨Al, cl, rfl⟩ := hol.row.form
        have hb0 : wr.cell? ⟨w.heap.size, 0, none⟩ = some (.bool bx) := (show Blk wr _ _ _ from hbox).cell 0
        have hb1 : wr.cell? ⟨w.heap.size, 1, none⟩ = some (.slice Ax nx cx) := (show Blk wr _ _ _ from hbox).cell 1
        have hzr := H2.out.2.1.new_ hnew
        have hdn : 0 < ds.length := by
          rw [← hds0, List.length_map]
          rcases Nat.eq_zero_or_pos V0 with h | h
          · have := Hl.out.2.1
            exact absurd (show z = 0 by omega) Hz.out
          · rw [digs_pos h]; simp
        have hm0 : (0 : Int) < (ds.length : Int) := by omega
        have Q0 := hide (And.intro hol (And.intro hnew (And.intro hzr (And.intro hds0 (And.intro hdn hom)))))
        clear hol hnew hzr hds0 hdn hom hg0 hbox hpos
        go_wp2_with fail
        refine (neg_any _ z _ Q0.out.2.2.1).mono ?_
        rintro e w4 ⟨d, rfl, hd4, hn4⟩
        have hol := Q0.out.1.new_ hn4
        have hnew := Q0.out.2.1.transNew hn4
        have hds0 := Q0.out.2.2.2.1
        have hdn := Q0.out.2.2.2.2.1
        clear hb0 hb1
        cases hdd : d
        · subst hdd
          have hdsz : textI z = ds.reverse := by
            rw [textI_pos Hz.out, if_neg (by simpa using hd4.symm), List.append_nil, ← Hl.out.2.1, hds0]
          have hdsn : 0 < ds.length := hdn
          clear hds0 hdn hd4 hn4
          have Q3 := hide (And.intro hol (And.intro hnew (And.intro hdsz hdsn)))
          clear hol hnew hdsz hdsn
          go_wp2_with fail
          refine (reverse_any w.heap.size Al ds.length cl ds _ Q3.out.1 (by omega)).mono ?_
          rintro e w5 ⟨rfl, hrev, hu5⟩
          have hn5 : New w w5 := Q3.out.2.1.trans hu5 fun q hq hqo => by have := (Q3.out.1.lt q hqo).1; omega
          obtain ⟨g, rfl, -, -, -, -, -, -, -⟩ := Q3.out.1.place (j := 0) Q3.out.2.2.2
          have hlen5 : ds.reverse.length = ds.length := by simp
          have hconv := run_convert_bytes_arg (P := Tryd.prog) w5 78 5 Tryd.underlying78 Tryd.underlying5 g 0 ds.length cl ds.reverse hlen5 (fun i hi => by
            obtain ⟨g', hg', -, -, -, -, hcell, -, -⟩ := hrev.place (j := i) hi
            injection hg' with hg'
            injection hg' with hg' _ _
            subst hg'
            rw [Nat.zero_add, hcell, encB_get _ _ (by omega)]) 9 Tryd.underlying9
          rw [← Q3.out.2.2.1] at hconv
          have Hn5 := hide hn5
          clear hrev hu5 hn5 hlen5
          go_wp2
          go_ret
          exact ⟨rfl, Hn5.out⟩
        · subst hdd
          have hdsz : textI z = (ds ++ [45]).reverse := by
            rw [textI_pos Hz.out, if_pos (by simpa using hd4.symm), ← Hl.out.2.1, hds0]
          have hdsn : 0 < ds.length + 1 := by omega
          have hA : New w4 (w4.alloc (.cells #[.int .u8 45] 5)) := (Upd.refl _ _).alloc _
          have hrowl : RowAt (w4.alloc (.cells #[.int .u8 45] 5)) 1 (.slice (some ⟨w4.heap.size, 0, none⟩) 1 1) 1 (encB [45]) := RowAt.fresh w4 _ (encB [45]) 1 1 rfl (by omega) (by unfold maxLen; omega)
          have hbase : w.heap.size ≤ (w4.alloc (.cells #[.int .u8 45] 5)).heap.size := (hnew.alloc _).size
          have P := hide (And.intro (hol.new_ hA) (And.intro hrowl (And.intro hbase (And.intro (hnew.transNew hA) (And.intro hdsz hdsn)))))
          clear hds0 hdn hd4 hn4 hA hrowl hbase hol hnew hdsz hdsn
          go_wp2_with (at_builtin; refine wpList_append_row _ rfl (.tmp 48) (.tmp 49) elB rfl w.heap.size (.slice Al ds.length cl) ds.length (encB ds) rfl P.out.1 (.slice (some ⟨w4.heap.size, 0, none⟩) 1 1) 1 (encB [45]) rfl P.out.2.1 (encB_one _) (by omega) (by unfold maxLen; omega) P.out.2.2.1 ?_; intro v3 w3 hown3 hg3 _)
          have hnew : New w w3 := P.out.2.2.2.1.grown hg3 fun q hq => .inr (P.out.1.lt q hq).1
          rw [← encB_app] at hown3
          obtain ⟨Al2, cl2, rfl⟩ := hown3.row.form
          have hol := hown3
          have hdsz := P.out.2.2.2.2.1
          have hdsn := P.out.2.2.2.2.2
          clear hg3 hown3
          have Q3 := hide (And.intro hol (And.intro hnew (And.intro hdsz hdsn)))
          clear hol hnew hdsz hdsn
          go_wp2_with fail
          refine (reverse_any w.heap.size Al2 (ds.length + 1) cl2 (ds ++ [45]) _ Q3.out.1 (by omega)).mono ?_
          rintro e w5 ⟨rfl, hrev, hu5⟩
          have hn5 : New w w5 := Q3.out.2.1.trans hu5 fun q hq hqo => by have := (Q3.out.1.lt q hqo).1; omega
          obtain ⟨g, rfl, -, -, -, -, -, -, -⟩ := Q3.out.1.place (j := 0) Q3.out.2.2.2
          have hlen5 : (ds ++ [45]).reverse.length = (ds.length + 1) := by simp
          have hconv := run_convert_bytes_arg (P := Tryd.prog) w5 78 5 Tryd.underlying78 Tryd.underlying5 g 0 (ds.length + 1) cl2 (ds ++ [45]).reverse hlen5 (fun i hi => by
            obtain ⟨g', hg', -, -, -, -, hcell, -, -⟩ := hrev.place (j := i) hi
            injection hg' with hg'
            injection hg' with hg' _ _
            subst hg'
            rw [Nat.zero_add, hcell, encB_get _ _ (by omega)]) 9 Tryd.underlying9
          rw [← Q3.out.2.2.1] at hconv
          have Hn5 := hide hn5
          clear hrev hu5 hn5 hlen5
          go_wp2
          go_ret
          exact ⟨rfl, Hn5.out⟩
theorem big_in {w : World} {b : Bool} {A : Option Addr} {m : List Nat} {c : Nat} (hr : SRow w .u32 A m c) (hl : Limbs m) : BigAt w (.agg #[.bool b, sv A m c]) (goodI b m) := ⟨b, _, m, rfl, hr, hl, rfl⟩
theorem bText_c (a : Bool) (Aa : Option Addr) (ma : List Nat) (ca : Nat) (w : World) (hra : SRow w .u32 Aa ma ca) (ha : Limbs ma) : Calls Tryd.prog 37 #[.agg #[.bool a, sv Aa ma ca]] w (IsRet (.string (strOfNums (textI (goodI a ma)))) w) := text_any _ _ w (big_in hra ha)
def ctext_c_P (v : Vl) (Av : Option Addr) (cv : Nat) (Bv : Option Addr) (dv : Nat) (w : World) (en : Ending) (w' : World) : Prop := ∃ (Ar0 : Option Addr) (cr0 : Nat), en = .returned (.tuple #[sv Ar0 ((textV v).1) cr0, iv ((textV v).2)]) ∧ SRow w' .u16 Ar0 ((textV v).1) cr0 ∧ New w w'
theorem ctext_c (v : Vl) (Av : Option Addr) (cv : Nat) (Bv : Option Addr) (dv : Nat) (w : World) (hmv : SRow w .u32 Av v.mag cv) (hsv : SRow w .u16 Bv v.s dv) (hvv : VOk v) (HT : ItoaOk w) : Calls Tryd.prog 11 #[vv v Av cv Bv dv] w (ctext_c_P v Av cv Bv dv w) := by
 refine enter_abs Tryd.func11 rfl fun a0 bh eg hp => ?_
 have bh : a0.tmps.size = 38 := bh
 have dd : New w w := Upd.refl _ _
 have hp0 : a0.eval (.tmp 0) = vv v Av cv Bv dv := hp 0 _ rfl
 have hm := hvv.clean.mlen
 have hsl := hvv.clean.slen
 have hz1 : (textM (Nm.mk (cleanV v).nk (cleanV v).nn)).size ≤ 21 := textM_size (cleanV v).num
 have hz2 := textI_size (b := (cleanV v).neg) hvv.clean.limbs
 refine wp_seq_k fun K1 eh => ?_
 refine wp_g [true, true, true] [] [] 38
   [IsNew w 29 [iv v.k, iv v.nk, iv v.nn, .bool v.neg, sv Av v.mag cv, sv Bv v.s dv, iv v.ref], ve (sv none ([]) 0), ve (iv 0)]
   [0] (newsCons (fun v w h => IsNew.old h) newsNil) bh (.nw (.eq (.eq (.nil)))) ?_ (fun i h => by cases h) ?_
 exact .o2 (step_allocN (cs := [iv v.k, iv v.nk, iv v.nn, .bool v.neg, sv Av v.mag cv, sv Bv v.s dv, iv v.ref]) (t := 29) rfl (noG rfl) (fun _ w hn k => v_box rfl (k.fx 0 hp0) (fun w => rfl)) (fun q _ hq hb => ⟨q, rfl, hq, hb⟩)) <| .t (fun _ w hn k => ⟨_, v_assign rfl rfl, rfl⟩) <| .t (fun _ w hn k => ⟨_, v_assign rfl rfl, rfl⟩) .nil
 refine aftI bh eg dd fun a2 w3 de ei aY gf ej => ?_
 obtain ⟨q9, h8, dk, bD⟩ : IsNew _ _ _ _ _ := ej.got 0 1 rfl (by kernel_rfl)
 have fJ := Nat.le_trans dd.size dk
 refine st_nil (eh _ _ (wp_seq_k fun gg dl => ?_))
 refine wp_g0 [true, true, false] [(2, false)] 38
   [ve (vv v Av cv Bv dv),
    (VP (cleanV v)), vt] de (.eq (.cons (fun v W W' hn ⟨A5, c6, A7, c8, he, h0, h1⟩ => ⟨A5, c6, A7, c8, he, h0.new_ hn, h1.new_ hn⟩) (.tt (.nil)))) ?_ ?_
 refine .t (fun _ w hn k => ⟨_, v_load rfl (k.fx 1 h8) (l_agg Tryd.isAgg29 Tryd.sizeOf29 (bD.new_ hn) rfl), rfl⟩) ?_
 refine .o1 (tkC rfl (noG rfl) rfl fun _ w hn k => (by
       refine ⟨#[vv v Av cv Bv dv], _, args1 (k.eq1 0 4 rfl), fun w => by kernel_rfl, clean_c v _ _ _ _ _ (hmv.new_ (aY.transNew hn)) (hsv.new_ (aY.transNew hn)), ?_⟩
       rintro e w' ⟨A1, c2, A3, c4, rfl, hmo0, hmo1, hm⟩
       exact ⟨_, rfl, hm, ⟨A1, c2, A3, c4, rfl, hmo0, hmo1⟩⟩)) ?_
 exact .off .nil
 refine aftI de ei aY fun ek gh bE dm dn dp bF => ?_
 have bG := bF.fx 1 h8
 obtain ⟨aW, ay, az, aA, bH, dq, dr⟩ : (VP (cleanV v)) _ _ := bF.got 1 5 rfl (by kernel_rfl)
 have bH : ek.eval (.tmp 5) = vv (cleanV v) aW ay az aA := bH
 have aZ := bD.new_ dp
 obtain ⟨el, b5, b6, a1, fK⟩ := s_many (P := Tryd.prog) (t := 29) (i := 0) [iv ((cleanV v).k), iv ((cleanV v).nk), iv ((cleanV v).nn), .bool ((cleanV v).neg), sv aW ((cleanV v).mag) ay, sv az ((cleanV v).s) aA, iv ((cleanV v).ref)] Tryd.sizeOf29 rfl rfl rfl aZ lb
 have bI : Blk el q9 29 [iv ((cleanV v).k), iv ((cleanV v).nk), iv ((cleanV v).nn), .bool ((cleanV v).neg), sv aW ((cleanV v).mag) ay, sv az ((cleanV v).s) aA, iv ((cleanV v).ref)] := b6
 refine st_act rfl rfl fun gi ds => a_store' rfl bG bH b5 (ds _ _ trivial ?_)
 have dt := dq.far aZ a1 (by first | rfl | decide | simp [notK])
 have du := dr.far aZ a1 (by first | rfl | decide | simp [notK])
 have dw := dn.trans a1 (fun _ h b => by subst b; omega)
 refine st_nil (dl _ _ (wp_seq_k fun gj dx => ?_))
 refine wp_seq_k fun gk dy => ?_
 refine wp_g0 [true, true] [] 38
   [ve (pv q9), ve (iv ((cleanV v).k))] bE (.eq (.eq (.nil))) ?_ ?_
 exact .f (fun k => k.fx 1 bG) <| .t (fun _ w hn k => ⟨_, v_load rfl (k.eq1 0 6 rfl) (l_one Tryd.isAgg3 ((bI.new_ hn).cell 0)), rfl⟩) .nil
 refine aftI bE dm dw fun gl gm bJ dz dA a3 bK => ?_
 have em := bK.fx 1 bG
 have df := bK.ge 1 7 rfl
 have dB := bI.new_ a3
 have dC := dt.new_ a3
 have dD := du.new_ a3
 refine st_nil (dy _ _ ?_)
 refine wp_block ?_
 refine wp_seq_k fun gn dE => ?_
 refine wp_g0 [true, true] [] 38
   [ve (.bool (decide (((cleanV v).k) = 0))), ve (.bool (decide (((cleanV v).k) = 0)))] bJ (.eq (.eq (.nil))) ?_ ?_
 exact .t (fun _ w hn k => ⟨_, v_bin rfl (k.fx 7 df) rfl (fun _ => rfl) (r_eql rfl), rfl⟩) <| .a (fun k => k.eq1 0 9 rfl) .nil
 refine aftI bJ dz dA fun go bi aI bL a4 a5 a6 => ?_
 have en := a6.fx 1 em
 have dg := a6.fx 7 df
 have dh := a6.ge 1 8 rfl
 have dF := dB.new_ a5
 have dG := dC.new_ a5
 have dH := dD.new_ a5
 refine st_nil (dE _ _ ?_)
 rcases bc (decide (((cleanV v).k) = 0)) with ac | ac
 have b7 := oT ac
 have dI := hB dh ac
 refine wp_cond_true dI ?_
 refine wp_seq_k fun gp dJ => ?_
 refine wp_g0 [true, true, true] [] 38
   [(OP bi.heap.size 64 .u16 (asc ⟨#[117, 110, 100, 101, 102, 105, 110, 101, 100]⟩)),
    (OP bi.heap.size 64 .u16 (asc ⟨#[117, 110, 100, 101, 102, 105, 110, 101, 100]⟩)), ve (iv 0)] aI (.cons (fun _ _ _ n ⟨_, _, e, h⟩ => ⟨_, _, e, h.new_ n⟩) (.cons (fun v W W' hn ⟨er, es, he, h0⟩ => ⟨er, es, he, h0.new_ hn⟩) (.eq (.nil)))) ?_ ?_
 refine .o1 (tkC rfl (noG rfl) rfl fun _ w hn k => (by
       refine ⟨#[.string ⟨#[117, 110, 100, 101, 102, 105, 110, 101, 100]⟩], _, args1 rfl, fun w => by kernel_rfl, ascii_c ⟨#[117, 110, 100, 101, 102, 105, 110, 101, 100]⟩ _ (by first | omega | (show (_ : Nat) ≤ _; decide)), ?_⟩
       rintro e w' ⟨et, eu, rfl, hmo0, hm⟩
       exact ⟨_, rfl, hm, ⟨et, eu, rfl, (hmo0.more hn.size)⟩⟩)) ?_
 refine .o1 (tk rfl rfl fun _ w hn k => (by
       obtain ⟨ev, ew, ex, dK⟩ : (OP bi.heap.size 64 .u16 (asc ⟨#[117, 110, 100, 101, 102, 105, 110, 101, 100]⟩)) _ _ := k.dep 0 10 (by kernel_rfl) (by kernel_rfl)
       exact ⟨_, v_assign rfl ex, ⟨ev, ew, rfl, dK⟩⟩)) ?_
 exact .t (fun _ w hn k => ⟨_, v_assign rfl rfl, rfl⟩) .nil
 refine aftI aI bL a4 fun ey gq fL dL dM fM bM => ?_
 obtain ⟨aX, aB, bN, dN⟩ : (OP bi.heap.size 64 .u16 (asc ⟨#[117, 110, 100, 101, 102, 105, 110, 101, 100]⟩)) _ _ := bM.got 1 2 rfl (by kernel_rfl)
 have bN : ey.eval (.tmp 2) = sv aX (asc ⟨#[117, 110, 100, 101, 102, 105, 110, 101, 100]⟩) aB := bN
 have ez := bM.ge 2 3 rfl
 have dO := dN.more a4.size
 refine st_nil (dJ _ _ ?_)
 refine wp_ret (ret_k dL (v := .tuple #[sv aX (asc ⟨#[117, 110, 100, 101, 102, 105, 110, 101, 100]⟩) aB, iv 0]) (res_tt rfl bN ez _) ?_)
 have ad : (textV v).1 = (asc ⟨#[117, 110, 100, 101, 102, 105, 110, 101, 100]⟩) := by first | rfl | (simp only [textV, ac, bsm] <;> rfl) | (exfalso; omega)
 exact ⟨aX, aB, (by show Ending.returned (.tuple #[sv aX (asc ⟨#[117, 110, 100, 101, 102, 105, 110, 101, 100]⟩) aB, iv 0]) = Ending.returned (.tuple #[sv aX ((textV v).1) aB, iv ((textV v).2)]); (first | rfl | (simp only [textV, ac, ad, bsm] <;> rfl) | (exfalso; omega))), (by rw [ad]; exact dO.row), dM⟩
 have b7 := oF ac
 have dP := hB dh ac
 refine wp_cond_false dP ?_
 refine wp_seq_k fun gr dQ => ?_
 refine wp_g0 [true, true] [] 38
   [ve (.bool (decide (((cleanV v).k) = 1))), ve (.bool (decide (((cleanV v).k) = 1)))] aI (.eq (.eq (.nil))) ?_ ?_
 exact .t (fun _ w hn k => ⟨_, v_bin rfl (k.fx 7 dg) rfl (fun _ => rfl) (r_eql rfl), rfl⟩) <| .a (fun k => k.eq1 0 12 rfl) .nil
 refine aftI aI bL a4 fun gs bj aJ bO a7 a8 a9 => ?_
 have eA := a9.fx 1 en
 have di := a9.fx 7 dg
 have dj := a9.ge 1 11 rfl
 have dR := dF.new_ a8
 have dS := dG.new_ a8
 have dT := dH.new_ a8
 refine st_nil (dQ _ _ ?_)
 rcases bc (decide (((cleanV v).k) = 1)) with aa | aa
 have bP := oT aa
 have b8 := hB dj aa
 refine wp_cond_true b8 ?_
 refine wp_seq_k fun fN b9 => ?_
 refine wp_g0 [true, true, true] [] 38
   [(OP bj.heap.size 64 .u16 (asc ⟨#[110, 117, 108, 108]⟩)),
    (OP bj.heap.size 64 .u16 (asc ⟨#[110, 117, 108, 108]⟩)), ve (iv 0)] aJ (.cons (fun _ _ _ n ⟨_, _, e, h⟩ => ⟨_, _, e, h.new_ n⟩) (.cons (fun v W W' hn ⟨eD, eE, he, h0⟩ => ⟨eD, eE, he, h0.new_ hn⟩) (.eq (.nil)))) ?_ ?_
 refine .o1 (tkC rfl (noG rfl) rfl fun _ w hn k => (by
       refine ⟨#[.string ⟨#[110, 117, 108, 108]⟩], _, args1 rfl, fun w => by kernel_rfl, ascii_c ⟨#[110, 117, 108, 108]⟩ _ (by first | omega | (show (_ : Nat) ≤ _; decide)), ?_⟩
       rintro e w' ⟨az, eF, rfl, hmo0, hm⟩
       exact ⟨_, rfl, hm, ⟨az, eF, rfl, (hmo0.more hn.size)⟩⟩)) ?_
 refine .o1 (tk rfl rfl fun _ w hn k => (by
       obtain ⟨eG, eH, eI, dU⟩ : (OP bj.heap.size 64 .u16 (asc ⟨#[110, 117, 108, 108]⟩)) _ _ := k.dep 0 13 (by kernel_rfl) (by kernel_rfl)
       exact ⟨_, v_assign rfl eI, ⟨eG, eH, rfl, dU⟩⟩)) ?_
 exact .t (fun _ w hn k => ⟨_, v_assign rfl rfl, rfl⟩) .nil
 refine aftI aJ bO a7 fun dV fO fs ca cb ft bk => ?_
 obtain ⟨aC, aj, ba, cc⟩ : (OP bj.heap.size 64 .u16 (asc ⟨#[110, 117, 108, 108]⟩)) _ _ := bk.got 1 2 rfl (by kernel_rfl)
 have ba : dV.eval (.tmp 2) = sv aC (asc ⟨#[110, 117, 108, 108]⟩) aj := ba
 have dW := bk.ge 2 3 rfl
 have cd := cc.more a7.size
 refine st_nil (b9 _ _ ?_)
 refine wp_ret (ret_k ca (v := .tuple #[sv aC (asc ⟨#[110, 117, 108, 108]⟩) aj, iv 0]) (res_tt rfl ba dW _) ?_)
 have ad : (textV v).1 = (asc ⟨#[110, 117, 108, 108]⟩) := by first | rfl | (simp only [textV, ac, aa, bsm] <;> rfl) | (exfalso; omega)
 exact ⟨aC, aj, (by show Ending.returned (.tuple #[sv aC (asc ⟨#[110, 117, 108, 108]⟩) aj, iv 0]) = Ending.returned (.tuple #[sv aC ((textV v).1) aj, iv ((textV v).2)]); (first | rfl | (simp only [textV, ac, aa, ad, bsm] <;> rfl) | (exfalso; omega))), (by rw [ad]; exact cd.row), cb⟩
 have bP := oF aa
 have ce := hB dj aa
 refine wp_cond_false ce ?_
 refine wp_seq_k fun fP cf => ?_
 refine wp_g0 [true, true] [] 38
   [ve (.bool (decide (((cleanV v).k) = 2))), ve (.bool (decide (((cleanV v).k) = 2)))] aJ (.eq (.eq (.nil))) ?_ ?_
 exact .t (fun _ w hn k => ⟨_, v_bin rfl (k.fx 7 di) rfl (fun _ => rfl) (r_eql rfl), rfl⟩) <| .a (fun k => k.eq1 0 15 rfl) .nil
 refine aftI aJ bO a7 fun fQ fR ap bl bm aK aL => ?_
 have bQ := aL.fx 1 eA
 have bR := aL.fx 7 di
 have bS := aL.ge 1 14 rfl
 have bn := dR.new_ aK
 have ch := dS.new_ aK
 have ci := dT.new_ aK
 refine st_nil (cf _ _ ?_)
 rcases bc (decide (((cleanV v).k) = 2)) with ab | ab
 have bT := oT ab
 have cj := hB bS ab
 refine wp_cond_true cj ?_
 refine wp_seq_k fun fS cl => ?_
 refine wp_seq_k fun fT cm => ?_
 refine wp_g0 [true, true, true] [] 38
   [ve (.pointer (some ⟨q9, 6, none⟩)), ve (iv ((cleanV v).ref)), ve (.bool (decide (((cleanV v).ref) = 1)))] ap (.eq (.eq (.eq (.nil)))) ?_ ?_
 exact .f (fun k => k.fx 1 bQ) <| .t (fun _ w hn k => ⟨_, v_load rfl (k.eq1 0 16 rfl) (l_one Tryd.isAgg3 ((bn.new_ hn).cell 6)), rfl⟩) <| .t (fun _ w hn k => ⟨_, v_bin rfl (k.eq1 1 17 rfl) rfl (fun _ => rfl) (r_eql rfl), rfl⟩) .nil
 refine aftI ap bl bm fun fU ai aq bo ar fu cn => ?_
 have bU := cn.ge 2 18 rfl
 refine st_nil (cm _ _ ?_)
 rcases bc (decide (((cleanV v).ref) = 1)) with ag | ag
 have bV := oT ag
 have co := hB bU ag
 refine wp_cond_true co ?_
 refine wp_seq_k fun fV cp => ?_
 refine wp_g0 [true, true, true] [] 38
   [(OP ai.heap.size 64 .u16 (asc ⟨#[116, 114, 117, 101]⟩)),
    (OP ai.heap.size 64 .u16 (asc ⟨#[116, 114, 117, 101]⟩)), ve (iv 0)] aq (.cons (fun _ _ _ n ⟨_, _, e, h⟩ => ⟨_, _, e, h.new_ n⟩) (.cons (fun v W W' hn ⟨eL, eM, he, h0⟩ => ⟨eL, eM, he, h0.new_ hn⟩) (.eq (.nil)))) ?_ ?_
 refine .o1 (tkC rfl (noG rfl) rfl fun _ w hn k => (by
       refine ⟨#[.string ⟨#[116, 114, 117, 101]⟩], _, args1 rfl, fun w => by kernel_rfl, ascii_c ⟨#[116, 114, 117, 101]⟩ _ (by first | omega | (show (_ : Nat) ≤ _; decide)), ?_⟩
       rintro e w' ⟨eN, eO, rfl, hmo0, hm⟩
       exact ⟨_, rfl, hm, ⟨eN, eO, rfl, (hmo0.more hn.size)⟩⟩)) ?_
 refine .o1 (tk rfl rfl fun _ w hn k => (by
       obtain ⟨eP, eQ, eR, dX⟩ : (OP ai.heap.size 64 .u16 (asc ⟨#[116, 114, 117, 101]⟩)) _ _ := k.dep 0 19 (by kernel_rfl) (by kernel_rfl)
       exact ⟨_, v_assign rfl eR, ⟨eP, eQ, rfl, dX⟩⟩)) ?_
 exact .t (fun _ w hn k => ⟨_, v_assign rfl rfl, rfl⟩) .nil
 refine aftI aq bo ar fun dY fW fv cq cr fw bp => ?_
 obtain ⟨aD, ak, bb, ct⟩ : (OP ai.heap.size 64 .u16 (asc ⟨#[116, 114, 117, 101]⟩)) _ _ := bp.got 1 2 rfl (by kernel_rfl)
 have bb : dY.eval (.tmp 2) = sv aD (asc ⟨#[116, 114, 117, 101]⟩) ak := bb
 have dZ := bp.ge 2 3 rfl
 have cu := ct.more ar.size
 refine st_nil (cp _ _ ?_)
 refine wp_ret (ret_k cq (v := .tuple #[sv aD (asc ⟨#[116, 114, 117, 101]⟩) ak, iv 0]) (res_tt rfl bb dZ _) ?_)
 have ad : (textV v).1 = (asc ⟨#[116, 114, 117, 101]⟩) := by first | rfl | (simp only [textV, ac, aa, ab, ag, bsm] <;> rfl) | (exfalso; omega)
 exact ⟨aD, ak, (by show Ending.returned (.tuple #[sv aD (asc ⟨#[116, 114, 117, 101]⟩) ak, iv 0]) = Ending.returned (.tuple #[sv aD ((textV v).1) ak, iv ((textV v).2)]); (first | rfl | (simp only [textV, ac, aa, ab, ag, ad, bsm] <;> rfl) | (exfalso; omega))), (by rw [ad]; exact cu.row), cr⟩
 have bV := oF ag
 have cw := hB bU ag
 refine wp_cond_false cw ?_
 refine wp_skip ?_
 refine cl _ _ ?_
 refine wp_seq_k fun fX cx => ?_
 refine wp_g0 [true, true, true] [] 38
   [(OP ai.heap.size 64 .u16 (asc ⟨#[102, 97, 108, 115, 101]⟩)),
    (OP ai.heap.size 64 .u16 (asc ⟨#[102, 97, 108, 115, 101]⟩)), ve (iv 0)] aq (.cons (fun _ _ _ n ⟨_, _, e, h⟩ => ⟨_, _, e, h.new_ n⟩) (.cons (fun v W W' hn ⟨eU, eV, he, h0⟩ => ⟨eU, eV, he, h0.new_ hn⟩) (.eq (.nil)))) ?_ ?_
 refine .o1 (tkC rfl (noG rfl) rfl fun _ w hn k => (by
       refine ⟨#[.string ⟨#[102, 97, 108, 115, 101]⟩], _, args1 rfl, fun w => by kernel_rfl, ascii_c ⟨#[102, 97, 108, 115, 101]⟩ _ (by first | omega | (show (_ : Nat) ≤ _; decide)), ?_⟩
       rintro e w' ⟨eW, eX, rfl, hmo0, hm⟩
       exact ⟨_, rfl, hm, ⟨eW, eX, rfl, (hmo0.more hn.size)⟩⟩)) ?_
 refine .o1 (tk rfl rfl fun _ w hn k => (by
       obtain ⟨eY, eZ, e0, d0⟩ : (OP ai.heap.size 64 .u16 (asc ⟨#[102, 97, 108, 115, 101]⟩)) _ _ := k.dep 0 20 (by kernel_rfl) (by kernel_rfl)
       exact ⟨_, v_assign rfl e0, ⟨eY, eZ, rfl, d0⟩⟩)) ?_
 exact .t (fun _ w hn k => ⟨_, v_assign rfl rfl, rfl⟩) .nil
 refine aftI aq bo ar fun d1 fY fy cy cz fz bq => ?_
 obtain ⟨aE, al, bd, cA⟩ : (OP ai.heap.size 64 .u16 (asc ⟨#[102, 97, 108, 115, 101]⟩)) _ _ := bq.got 1 2 rfl (by kernel_rfl)
 have bd : d1.eval (.tmp 2) = sv aE (asc ⟨#[102, 97, 108, 115, 101]⟩) al := bd
 have d2 := bq.ge 2 3 rfl
 have cB := cA.more ar.size
 refine st_nil (cx _ _ ?_)
 refine wp_ret (ret_k cy (v := .tuple #[sv aE (asc ⟨#[102, 97, 108, 115, 101]⟩) al, iv 0]) (res_tt rfl bd d2 _) ?_)
 have ad : (textV v).1 = (asc ⟨#[102, 97, 108, 115, 101]⟩) := by first | rfl | (simp only [textV, ac, aa, ab, ag, bsm] <;> rfl) | (exfalso; omega)
 exact ⟨aE, al, (by show Ending.returned (.tuple #[sv aE (asc ⟨#[102, 97, 108, 115, 101]⟩) al, iv 0]) = Ending.returned (.tuple #[sv aE ((textV v).1) al, iv ((textV v).2)]); (first | rfl | (simp only [textV, ac, aa, ab, ag, ad, bsm] <;> rfl) | (exfalso; omega))), (by rw [ad]; exact cB.row), cz⟩
 have bT := oF ab
 have cC := hB bS ab
 refine wp_cond_false cC ?_
 refine wp_seq_k fun fZ cD => ?_
 refine wp_g0 [true, true] [] 38
   [ve (.bool (decide (((cleanV v).k) = 3))), ve (.bool (decide (((cleanV v).k) = 3)))] ap (.eq (.eq (.nil))) ?_ ?_
 exact .t (fun _ w hn k => ⟨_, v_bin rfl (k.fx 7 bR) rfl (fun _ => rfl) (r_eql rfl), rfl⟩) <| .a (fun k => k.eq1 0 22 rfl) .nil
 refine aftI ap bl bm fun f0 aM au br av aN aO => ?_
 have bW := aO.fx 1 bQ
 have bX := aO.fx 7 bR
 have bY := aO.ge 1 21 rfl
 have bs := bn.new_ aN
 have cE := ch.new_ aN
 have cF := ci.new_ aN
 refine st_nil (cD _ _ ?_)
 rcases bc (decide (((cleanV v).k) = 3)) with ae | ae
 have bZ := oT ae
 have cG := hB bY ae
 refine wp_cond_true cG ?_
 refine wp_seq_k fun f1 cH => ?_
 refine wp_g0 [true, true, true, true, true, true] [] 38
   [ve (.pointer (some ⟨q9, 1, none⟩)), ve (nv (Nm.mk ((cleanV v).nk) ((cleanV v).nn))), ve (.string (textM (Nm.mk ((cleanV v).nk) ((cleanV v).nn)))),
    (OP aM.heap.size 64 .u16 (asc (textM (Nm.mk ((cleanV v).nk) ((cleanV v).nn))))),
    (OP aM.heap.size 64 .u16 (asc (textM (Nm.mk ((cleanV v).nk) ((cleanV v).nn))))), ve (iv 0)] au (.eq (.eq (.eq (.cons (fun _ _ _ n ⟨_, _, e, h⟩ => ⟨_, _, e, h.new_ n⟩) (.cons (fun v W W' hn ⟨e3, e4, he, h0⟩ => ⟨e3, e4, he, h0.new_ hn⟩) (.eq (.nil))))))) ?_ ?_
 refine .f (fun k => k.fx 1 bW) <| .t (fun _ w hn k => ⟨_, v_load rfl (k.eq1 0 23 rfl) (l_part Tryd.isAgg23 Tryd.sizeOf23 (bs.new_ hn) lb), rfl⟩) <| .o1 (ck rfl rfl rfl (fun _ w hn k => ⟨#[nv (Nm.mk ((cleanV v).nk) ((cleanV v).nn))], args1 (k.eq1 1 24 rfl), fun _ => by kernel_rfl, ntext_c (Nm.mk ((cleanV v).nk) ((cleanV v).nn)) _ (HT.up (av.transNew hn))⟩) fun _ => rfl) ?_
 refine .o1 (tkC rfl (noG rfl) rfl fun _ w hn k => (by
       refine ⟨#[.string (textM (Nm.mk ((cleanV v).nk) ((cleanV v).nn)))], _, args1 (k.eq1 2 25 rfl), fun w => by kernel_rfl, ascii_c (textM (Nm.mk ((cleanV v).nk) ((cleanV v).nn))) _ (by first | omega | (show (_ : Nat) ≤ _; decide)), ?_⟩
       rintro e w' ⟨e5, e6, rfl, hmo0, hm⟩
       exact ⟨_, rfl, hm, ⟨e5, e6, rfl, (hmo0.more hn.size)⟩⟩)) ?_
 refine .o1 (tk rfl rfl fun _ w hn k => (by
       obtain ⟨e7, e8, e9, d3⟩ : (OP aM.heap.size 64 .u16 (asc (textM (Nm.mk ((cleanV v).nk) ((cleanV v).nn))))) _ _ := k.dep 3 26 (by kernel_rfl) (by kernel_rfl)
       exact ⟨_, v_assign rfl e9, ⟨e7, e8, rfl, d3⟩⟩)) ?_
 exact .t (fun _ w hn k => ⟨_, v_assign rfl rfl, rfl⟩) .nil
 refine aftI au br av fun d4 f2 fA cI cJ fB bt => ?_
 obtain ⟨aF, am, be, cK⟩ : (OP aM.heap.size 64 .u16 (asc (textM (Nm.mk ((cleanV v).nk) ((cleanV v).nn))))) _ _ := bt.got 4 2 rfl (by kernel_rfl)
 have be : d4.eval (.tmp 2) = sv aF (asc (textM (Nm.mk ((cleanV v).nk) ((cleanV v).nn)))) am := be
 have d5 := bt.ge 5 3 rfl
 have cL := cK.more av.size
 refine st_nil (cH _ _ ?_)
 refine wp_ret (ret_k cI (v := .tuple #[sv aF (asc (textM (Nm.mk ((cleanV v).nk) ((cleanV v).nn)))) am, iv 0]) (res_tt rfl be d5 _) ?_)
 have ad : (textV v).1 = (asc (textM (Nm.mk ((cleanV v).nk) ((cleanV v).nn)))) := by first | rfl | (simp only [textV, ac, aa, ab, ae, bsm] <;> rfl) | (exfalso; omega)
 exact ⟨aF, am, (by show Ending.returned (.tuple #[sv aF (asc (textM (Nm.mk ((cleanV v).nk) ((cleanV v).nn)))) am, iv 0]) = Ending.returned (.tuple #[sv aF ((textV v).1) am, iv ((textV v).2)]); (first | rfl | (simp only [textV, ac, aa, ab, ae, ad, bsm] <;> rfl) | (exfalso; omega))), (by rw [ad]; exact cL.row), cJ⟩
 have bZ := oF ae
 have cM := hB bY ae
 refine wp_cond_false cM ?_
 refine wp_seq_k fun f3 cN => ?_
 refine wp_g0 [true, true] [] 38
   [ve (.bool (decide (((cleanV v).k) = 4))), ve (.bool (decide (((cleanV v).k) = 4)))] au (.eq (.eq (.nil))) ?_ ?_
 exact .t (fun _ w hn k => ⟨_, v_bin rfl (k.fx 7 bX) rfl (fun _ => rfl) (r_eql rfl), rfl⟩) <| .a (fun k => k.eq1 0 28 rfl) .nil
 refine aftI au br av fun f4 aP aw bu aQ aR aS => ?_
 have b0 := aS.fx 1 bW
 have d6 := aS.fx 7 bX
 have b1 := aS.ge 1 27 rfl
 have bv := bs.new_ aR
 have bw := cE.new_ aR
 have cO := cF.new_ aR
 refine st_nil (cN _ _ ?_)
 rcases bc (decide (((cleanV v).k) = 4)) with af | af
 have b2 := oT af
 have cP := hB b1 af
 refine wp_cond_true cP ?_
 refine wp_seq_k fun f5 cQ => ?_
 refine wp_g0 [true, true, true, true, true, true] [] 38
   [ve (.pointer (some ⟨q9, 3, none⟩)), ve (.agg #[.bool ((cleanV v).neg), sv aW ((cleanV v).mag) ay]), ve (.string (strOfNums (textI (goodI ((cleanV v).neg) ((cleanV v).mag))))),
    (OP aP.heap.size 64 .u16 (asc (strOfNums (textI (goodI ((cleanV v).neg) ((cleanV v).mag)))))),
    (OP aP.heap.size 64 .u16 (asc (strOfNums (textI (goodI ((cleanV v).neg) ((cleanV v).mag)))))), ve (iv 0)] aw (.eq (.eq (.eq (.cons (fun _ _ _ n ⟨_, _, e, h⟩ => ⟨_, _, e, h.new_ n⟩) (.cons (fun v W W' hn ⟨fc, fd, he, h0⟩ => ⟨fc, fd, he, h0.new_ hn⟩) (.eq (.nil))))))) ?_ ?_
 refine .f (fun k => k.fx 1 b0) <| .t (fun _ w hn k => ⟨_, v_load rfl (k.eq1 0 29 rfl) (l_part Tryd.isAgg26 Tryd.sizeOf26 (bv.new_ hn) lb), rfl⟩) <| .o1 (ck rfl rfl rfl (fun _ w hn k => ⟨#[.agg #[.bool ((cleanV v).neg), sv aW ((cleanV v).mag) ay]], args1 (k.eq1 1 30 rfl), fun _ => by kernel_rfl, bText_c ((cleanV v).neg) _ ((cleanV v).mag) _ _ (bw.new_ hn) hvv.clean.limbs⟩) fun _ => rfl) ?_
 refine .o1 (tkC rfl (noG rfl) rfl fun _ w hn k => (by
       refine ⟨#[.string (strOfNums (textI (goodI ((cleanV v).neg) ((cleanV v).mag))))], _, args1 (k.eq1 2 31 rfl), fun w => by kernel_rfl, ascii_c (strOfNums (textI (goodI ((cleanV v).neg) ((cleanV v).mag)))) _ (by first | omega | (show (_ : Nat) ≤ _; decide)), ?_⟩
       rintro e w' ⟨fe, ff, rfl, hmo0, hm⟩
       exact ⟨_, rfl, hm, ⟨fe, ff, rfl, (hmo0.more hn.size)⟩⟩)) ?_
 refine .o1 (tk rfl rfl fun _ w hn k => (by
       obtain ⟨fg, fh, fi, d7⟩ : (OP aP.heap.size 64 .u16 (asc (strOfNums (textI (goodI ((cleanV v).neg) ((cleanV v).mag)))))) _ _ := k.dep 3 32 (by kernel_rfl) (by kernel_rfl)
       exact ⟨_, v_assign rfl fi, ⟨fg, fh, rfl, d7⟩⟩)) ?_
 exact .t (fun _ w hn k => ⟨_, v_assign rfl rfl, rfl⟩) .nil
 refine aftI aw bu aQ fun d8 f6 fC cR cS fD bx => ?_
 obtain ⟨aG, an, bf, cT⟩ : (OP aP.heap.size 64 .u16 (asc (strOfNums (textI (goodI ((cleanV v).neg) ((cleanV v).mag)))))) _ _ := bx.got 4 2 rfl (by kernel_rfl)
 have bf : d8.eval (.tmp 2) = sv aG (asc (strOfNums (textI (goodI ((cleanV v).neg) ((cleanV v).mag))))) an := bf
 have d9 := bx.ge 5 3 rfl
 have cU := cT.more aQ.size
 refine st_nil (cQ _ _ ?_)
 refine wp_ret (ret_k cR (v := .tuple #[sv aG (asc (strOfNums (textI (goodI ((cleanV v).neg) ((cleanV v).mag))))) an, iv 0]) (res_tt rfl bf d9 _) ?_)
 have ad : (textV v).1 = (asc (strOfNums (textI (goodI ((cleanV v).neg) ((cleanV v).mag))))) := by first | rfl | (simp only [textV, ac, aa, ab, ae, af, bsm] <;> rfl) | (exfalso; omega)
 exact ⟨aG, an, (by show Ending.returned (.tuple #[sv aG (asc (strOfNums (textI (goodI ((cleanV v).neg) ((cleanV v).mag))))) an, iv 0]) = Ending.returned (.tuple #[sv aG ((textV v).1) an, iv ((textV v).2)]); (first | rfl | (simp only [textV, ac, aa, ab, ae, af, ad, bsm] <;> rfl) | (exfalso; omega))), (by rw [ad]; exact cU.row), cS⟩
 have b2 := oF af
 have cV := hB b1 af
 refine wp_cond_false cV ?_
 refine wp_seq_k fun f7 cW => ?_
 refine wp_g0 [true, true] [] 38
   [ve (.bool (decide (((cleanV v).k) = 5))), ve (.bool (decide (((cleanV v).k) = 5)))] aw (.eq (.eq (.nil))) ?_ ?_
 exact .t (fun _ w hn k => ⟨_, v_bin rfl (k.fx 7 d6) rfl (fun _ => rfl) (r_eql rfl), rfl⟩) <| .a (fun k => k.eq1 0 34 rfl) .nil
 refine aftI aw bu aQ fun f8 aT ax bz aU aV bA => ?_
 have ea := bA.fx 1 b0
 have b3 := bA.ge 1 33 rfl
 have cX := bv.new_ aV
 have fE := bw.new_ aV
 have cY := cO.new_ aV
 refine st_nil (cW _ _ ?_)
 rcases bc (decide (((cleanV v).k) = 5)) with ah | ah
 have b4 := oT ah
 have cZ := hB b3 ah
 refine wp_cond_true cZ ?_
 refine wp_seq_k fun f9 c0 => ?_
 refine wp_g0 [true, true, true, true, true] [] 38
   [ve (.pointer (some ⟨q9, 5, none⟩)), ve (sv az ((cleanV v).s) aA),
    (OP aT.heap.size 64 .u16 ((cleanV v).s)),
    (OP aT.heap.size 64 .u16 ((cleanV v).s)), ve (iv 0)] ax (.eq (.eq (.cons (fun _ _ _ n ⟨_, _, e, h⟩ => ⟨_, _, e, h.new_ n⟩) (.cons (fun v W W' hn ⟨fl, fm, he, h0⟩ => ⟨fl, fm, he, h0.new_ hn⟩) (.eq (.nil)))))) ?_ ?_
 refine .f (fun k => k.fx 1 ea) <| .t (fun _ w hn k => ⟨_, v_load rfl (k.eq1 0 35 rfl) (l_one Tryd.isAgg27 ((cX.new_ hn).cell 5)), rfl⟩) ?_
 refine .o1 (tkC rfl (noG rfl) rfl fun _ w hn k => (by
       refine ⟨#[sv az ((cleanV v).s) aA], _, args1 (k.eq1 1 36 rfl), fun w => by kernel_rfl, clone16_c _ ((cleanV v).s) _ _ (cY.new_ hn) (by first | omega | (simp only [List.length_nil, List.length_take, List.length_drop]; omega) | (simp only [List.length_cons, List.length_nil]; omega)), ?_⟩
       rintro e w' ⟨fn, fo, rfl, hmo0, hm⟩
       exact ⟨_, rfl, hm, ⟨fn, fo, rfl, (hmo0.more hn.size)⟩⟩)) ?_
 refine .o1 (tk rfl rfl fun _ w hn k => (by
       obtain ⟨fp, fq, fr, eb⟩ : (OP aT.heap.size 64 .u16 ((cleanV v).s)) _ _ := k.dep 2 37 (by kernel_rfl) (by kernel_rfl)
       exact ⟨_, v_assign rfl fr, ⟨fp, fq, rfl, eb⟩⟩)) ?_
 exact .t (fun _ w hn k => ⟨_, v_assign rfl rfl, rfl⟩) .nil
 refine aftI ax bz aU fun ec ga fF c1 c3 fG bB => ?_
 obtain ⟨aH, ao, bg, c5⟩ : (OP aT.heap.size 64 .u16 ((cleanV v).s)) _ _ := bB.got 3 2 rfl (by kernel_rfl)
 have bg : ec.eval (.tmp 2) = sv aH ((cleanV v).s) ao := bg
 have ed := bB.ge 4 3 rfl
 have c7 := c5.more aU.size
 refine st_nil (c0 _ _ ?_)
 refine wp_ret (ret_k c1 (v := .tuple #[sv aH ((cleanV v).s) ao, iv 0]) (res_tt rfl bg ed _) ?_)
 have ad : (textV v).1 = ((cleanV v).s) := by first | rfl | (simp only [textV, ac, aa, ab, ae, af, ah, bsm] <;> rfl) | (exfalso; omega)
 exact ⟨aH, ao, (by show Ending.returned (.tuple #[sv aH ((cleanV v).s) ao, iv 0]) = Ending.returned (.tuple #[sv aH ((textV v).1) ao, iv ((textV v).2)]); (first | rfl | (simp only [textV, ac, aa, ab, ae, af, ah, ad, bsm] <;> rfl) | (exfalso; omega))), (by rw [ad]; exact c7.row), c3⟩
 have b4 := oF ah
 have c9 := hB b3 ah
 refine wp_cond_false c9 ?_
 refine wp_skip ?_
 refine dx _ _ ?_
 refine wp_seq_k fun gb da => ?_
 refine wp_g0 [true, true] [] 38
   [ve (sv none ([]) 0), ve (iv 3)] ax (.eq (.eq (.nil))) ?_ ?_
 exact .t (fun _ w hn k => ⟨_, v_assign rfl rfl, rfl⟩) <| .t (fun _ w hn k => ⟨_, v_assign rfl rfl, rfl⟩) .nil
 refine aftI ax bz aU fun gc gd fH db dc fI bC => ?_
 have ee := bC.ge 0 2 rfl
 have ef := bC.ge 1 3 rfl
 refine st_nil (da _ _ ?_)
 refine wp_ret (ret_k db (v := .tuple #[sv none ([]) 0, iv 3]) (res_tt rfl ee ef _) ?_)
 have ad : (textV v).1 = [] := by first | rfl | (simp only [textV, ac, aa, ab, ae, af, ah, bsm] <;> rfl) | (exfalso; omega)
 exact ⟨none, 0, (by show Ending.returned (.tuple #[sv none ([]) 0, iv 3]) = Ending.returned (.tuple #[sv none ((textV v).1) 0, iv ((textV v).2)]); (first | rfl | (simp only [textV, ac, aa, ab, ae, af, ah, ad, bsm] <;> rfl) | (exfalso; omega))), (by rw [ad]; exact (SRow.nil _ _)), dc⟩
theorem few_c (v : Vl) (Av : Option Addr) (cv : Nat) (Bv : Option Addr) (dv : Nat) (w : World) (hmv : SRow w .u32 Av v.mag cv) (hsv : SRow w .u16 Bv v.s dv) : Calls Tryd.prog 7 #[vv v Av cv Bv dv] w (IsRet (.bool (decide ((v.s.length : Int) ≤ 20000) && decide ((v.mag.length : Int) ≤ 40))) w) := by
 refine enter_abs Tryd.func7 rfl fun a0 ac aq hp => ?_
 have ac : a0.tmps.size = 14 := ac
 have ah : New w w := Upd.refl _ _
 have hp0 : a0.eval (.tmp 0) = vv v Av cv Bv dv := hp 0 _ rfl
 refine wp_seq_k fun K1 ar => ?_
 refine wp_g [true, true] [] [] 14
   [IsNew w 29 [iv v.k, iv v.nk, iv v.nn, .bool v.neg, sv Av v.mag cv, sv Bv v.s dv, iv v.ref], vF]
   [0] (newsCons (fun v w h => IsNew.old h) newsNil) ac (.nw (.eq (.nil))) ?_ (fun i h => by cases h) ?_
 exact .o2 (step_allocN (cs := [iv v.k, iv v.nk, iv v.nn, .bool v.neg, sv Av v.mag cv, sv Bv v.s dv, iv v.ref]) (t := 29) rfl (noG rfl) (fun _ w hn k => v_box rfl (k.fx 0 hp0) (fun w => rfl)) (fun q _ hq hb => ⟨q, rfl, hq, hb⟩)) <| .t (fun _ w hn k => ⟨_, v_assign rfl rfl, rfl⟩) .nil
 refine aftI ac aq ah fun a2 w3 ad ai ae aC au => ?_
 obtain ⟨q9, h8, aj, ab⟩ : IsNew _ _ _ _ _ := au.got 0 1 rfl (by kernel_rfl)
 have ax := Nat.le_trans ah.size aj
 refine st_nil (ar _ _ (wp_seq_k fun aD af => ?_))
 rcases bc (decide ((v.s.length : Int) ≤ 20000)) with aa | aa
 have ag := oT aa
 refine wp_g0 (.replicate 12 true) [] 14
   [ve (.pointer (some ⟨q9, 5, none⟩)), ve (sv Bv v.s dv), ve (iv (v.s.length : Int)), vT, vT, ve (.pointer (some ⟨q9, 3, none⟩)), ve (.pointer (some ⟨q9, 4, none⟩)), ve (sv Av v.mag cv), ve (iv (v.mag.length : Int)), ve (.bool (decide ((v.mag.length : Int) ≤ 40))), ve (.bool (decide ((v.mag.length : Int) ≤ 40))), ve (.bool (decide ((v.mag.length : Int) ≤ 40)))] ad (.eq (.eq (.eq (.eq (.eq (.eq (.eq (.eq (.eq (.eq (.eq (.eq (.nil))))))))))))) ?_ ?_
 exact .f (fun k => k.fx 1 h8) <| .t (fun _ w hn k => ⟨_, v_load rfl (k.eq1 0 3 rfl) (l_one Tryd.isAgg27 ((ab.new_ hn).cell 5)), rfl⟩) <| .t (fun _ w hn k => ⟨_, v_lenR rfl elU (k.eq1 1 4 rfl), rfl⟩) <| .t (fun _ w hn k => ⟨_, v_bin rfl (k.eq1 2 5 rfl) rfl (fun _ => rfl) (r_leqK aa), rfl⟩) <| .m (fun k => k.eq1 3 6 rfl) <| .gf (fun k => k.eq1 4 7 rfl) (fun k => k.fx 1 h8) <| .gf (fun k => k.eq1 4 7 rfl) (fun k => k.eq1 5 8 rfl) <| .g (fun k => k.eq1 4 7 rfl) (fun _ w hn k => ⟨_, v_load rfl (k.eq1 6 9 rfl) (l_one Tryd.isAgg24 ((ab.new_ hn).cell 4)), rfl⟩) <| .g (fun k => k.eq1 4 7 rfl) (fun _ w hn k => ⟨_, v_lenR rfl elW (k.eq1 7 10 rfl), rfl⟩) <| .g (fun k => k.eq1 4 7 rfl) (fun _ w hn k => ⟨_, v_bin rfl (k.eq1 8 11 rfl) rfl (fun _ => rfl) (r_leqK rfl), rfl⟩) <| .t (fun _ w hn k => ⟨_, v_pickT rfl (k.eq1 4 7 rfl) (k.eq1 9 12 rfl), rfl⟩) <| .a (fun k => k.eq1 10 13 rfl) .nil
 refine aftI ad ai ae fun aE aF ay ak al az am => ?_
 have av := am.ge 11 2 rfl
 refine st_nil (af _ _ ?_)
 refine wp_ret (ret_k ak (v := .bool (decide ((v.mag.length : Int) ≤ 40))) (res_t rfl av _) ?_)
 refine ⟨?_, al⟩
 show Ending.returned (.bool (decide ((v.mag.length : Int) ≤ 40))) = Ending.returned (.bool (decide ((v.s.length : Int) ≤ 20000) && decide ((v.mag.length : Int) ≤ 40)))
 first | rfl | (simp only [aa, bsm] <;> rfl) | (exfalso; omega)
 have ag := oF aa
 refine wp_g0 (.replicate 12 true) [] 14
   [ve (.pointer (some ⟨q9, 5, none⟩)), ve (sv Bv v.s dv), ve (iv (v.s.length : Int)), vF, vF, vU, vU, vU, vU, vU, vF, vF] ad (.eq (.eq (.eq (.eq (.eq (.eq (.eq (.eq (.eq (.eq (.eq (.eq (.nil))))))))))))) ?_ ?_
 exact .f (fun k => k.fx 1 h8) <| .t (fun _ w hn k => ⟨_, v_load rfl (k.eq1 0 3 rfl) (l_one Tryd.isAgg27 ((ab.new_ hn).cell 5)), rfl⟩) <| .t (fun _ w hn k => ⟨_, v_lenR rfl elU (k.eq1 1 4 rfl), rfl⟩) <| .t (fun _ w hn k => ⟨_, v_bin rfl (k.eq1 2 5 rfl) rfl (fun _ => rfl) (r_leqK aa), rfl⟩) <| .m (fun k => k.eq1 3 6 rfl) <| .s (fun k => k.eq1 4 7 rfl) <| .s (fun k => k.eq1 4 7 rfl) <| .s (fun k => k.eq1 4 7 rfl) <| .s (fun k => k.eq1 4 7 rfl) <| .s (fun k => k.eq1 4 7 rfl) <| .t (fun _ w hn k => ⟨_, v_pickF rfl (k.eq1 4 7 rfl) rfl, rfl⟩) <| .a (fun k => k.eq1 10 13 rfl) .nil
 refine aftI ad ai ae fun aG aH aA an ao aB ap => ?_
 have aw := ap.ge 11 2 rfl
 refine st_nil (af _ _ ?_)
 refine wp_ret (ret_k an (v := .bool false) (res_t rfl aw _) ?_)
 refine ⟨?_, ao⟩
 show Ending.returned (.bool false) = Ending.returned (.bool (decide ((v.s.length : Int) ≤ 20000) && decide ((v.mag.length : Int) ≤ 40)))
 first | rfl | (simp only [aa, bsm] <;> rfl) | (exfalso; omega)
def lstr_c_P (s : ByteArray) (w : World) (en : Ending) (w' : World) : Prop := ∃ (Ar0 : Option Addr) (cr0 : Nat), en = .returned (vv (Vl.mk 5 0 0 false [] (asc s) 0) none 0 Ar0 cr0) ∧ SRow w' .u16 Ar0 (asc s) cr0 ∧ New w w'
theorem lstr_c (s : ByteArray) (w : World) (hs : s.size ≤ 1000000) : Calls Tryd.prog 23 #[.string s] w (lstr_c_P s w) := by
 refine enter_abs Tryd.func23 rfl fun a0 ad aD hp => ?_
 have ad : a0.tmps.size = 6 := ad
 have al : New w w := Upd.refl _ _
 have hp0 : a0.eval (.tmp 0) = .string s := hp 0 _ rfl
 refine wp_seq_k fun K1 aE => ?_
 refine wp_g [true] [] [] 6
   [IsNew w 29 [iv 0, iv 0, iv 0, .bool false, sv none ([]) 0, sv none ([]) 0, iv 0]]
   [0] (newsCons (fun v w h => IsNew.old h) newsNil) ad (.nw (.nil)) ?_ (fun i h => by cases h) ?_
 exact .o2 (step_allocN (cs := [iv 0, iv 0, iv 0, .bool false, sv none ([]) 0, sv none ([]) 0, iv 0]) (t := 29) rfl (noG rfl) (fun _ w hn k => rfl) (fun q _ hq hb => ⟨q, rfl, hq, hb⟩)) .nil
 refine aftI ad aD al fun a2 w3 am aF ae aN an => ?_
 have h8 := an.fx 0 hp0
 obtain ⟨aG, h9, ap, aq⟩ : IsNew _ _ _ _ _ := an.got 0 2 rfl (by kernel_rfl)
 have aK := Nat.le_trans al.size ap
 refine st_nil (aE _ _ (wp_seq_k fun aO ar => ?_))
 refine wp_g0 [true, true, true, false] [(3, false)] 6
   [ve (.string s),
    (OP w3.heap.size 64 .u16 (asc s)), (fun (v_ : Value) (W : World) => ∃ (A9 : Option Addr) (aa : Nat), v_ = vv (Vl.mk 5 0 0 false [] (asc s) 0) none 0 A9 aa ∧ SOwn W w3.heap.size 64 .u16 A9 (asc s) aa), vt] am (.eq (.cons (fun _ _ _ n ⟨_, _, e, h⟩ => ⟨_, _, e, h.new_ n⟩) (.cons (fun v W W' hn ⟨A9, aa, he, h0⟩ => ⟨A9, aa, he, h0.new_ hn⟩) (.tt (.nil))))) ?_ ?_
 refine .m (fun k => k.fx 0 h8) ?_
 refine .o1 (tkC rfl (noG rfl) rfl fun _ w hn k => (by
       refine ⟨#[.string s], _, args1 (k.eq1 0 3 rfl), fun w => by kernel_rfl, rascii_c s _ (by first | omega | (show (_ : Nat) ≤ _; decide)), ?_⟩
       rintro e w' ⟨A1, c2, rfl, hmo0, hm⟩
       exact ⟨_, rfl, hm, ⟨A1, c2, rfl, (hmo0.more hn.size)⟩⟩)) ?_
 refine .o1 (tk rfl rfl fun _ w hn k => (by
       obtain ⟨A5, c6, e7, aH⟩ : (OP w3.heap.size 64 .u16 (asc s)) _ _ := k.dep 1 4 (by kernel_rfl) (by kernel_rfl)
       exact ⟨_, v_build (ps := [(0, iv 5), (3, sv A5 (asc s) c6)]) rfl (parts2 rfl e7) (by kernel_rfl), ⟨A5, c6, rfl, aH⟩⟩)) ?_
 exact .off .nil
 refine aftI am aF ae fun aI aP aL au av aw af => ?_
 have ao := af.fx 2 h9
 obtain ⟨ac, ab, ag, ax⟩ : (fun (v_ : Value) (W : World) => ∃ (A9 : Option Addr) (aa : Nat), v_ = vv (Vl.mk 5 0 0 false [] (asc s) 0) none 0 A9 aa ∧ SOwn W w3.heap.size 64 .u16 A9 (asc s) aa) _ _ := af.got 2 5 rfl (by kernel_rfl)
 have ag : aI.eval (.tmp 5) = vv (Vl.mk 5 0 0 false [] (asc s) 0) none 0 ac ab := ag
 have ah := aq.new_ aw
 have ay := ax.more ae.size
 obtain ⟨aJ, aj, ak, ai, aM⟩ := s_many (P := Tryd.prog) (t := 29) (i := 0) [iv 5, iv 0, iv 0, .bool false, sv none ([]) 0, sv ac (asc s) ab, iv 0] Tryd.sizeOf29 rfl rfl rfl ah lb
 have az : Blk aJ aG 29 [iv 5, iv 0, iv 0, .bool false, sv none ([]) 0, sv ac (asc s) ab, iv 0] := ak
 refine st_act rfl rfl fun aQ aA => a_store' rfl ao ag aj (aA _ _ trivial ?_)
 have aB := ay.far ah ai (by decide)
 have aC := av.trans ai (fun _ h b => by subst b; omega)
 refine st_nil (ar _ _ ?_)
 refine wp_ret (ret_k au (v := vv (Vl.mk 5 0 0 false [] (asc s) 0) none 0 ac ab) (res_c rfl ao (l_agg Tryd.isAgg29 Tryd.sizeOf29 az rfl)) ?_)
 exact ⟨ac, ab, rfl, aB.row, aC⟩
theorem lwhole_c (n : Int) (w : World) : Calls Tryd.prog 26 #[iv n] w (IsRet (vv (Vl.mk 3 0 n false [] [] 0) none 0 none 0) w) := by
 refine enter_abs Tryd.func26 rfl fun a0 aa aw hp => ?_
 have aa : a0.tmps.size = 6 := aa
 have ae : New w w := Upd.refl _ _
 have hp0 : a0.eval (.tmp 0) = iv n := hp 0 _ rfl
 refine wp_seq_k fun K1 ax => ?_
 refine wp_g [true] [] [] 6
   [IsNew w 29 [iv 0, iv 0, iv 0, .bool false, sv none ([]) 0, sv none ([]) 0, iv 0]]
   [0] (newsCons (fun v w h => IsNew.old h) newsNil) aa (.nw (.nil)) ?_ (fun i h => by cases h) ?_
 exact .o2 (step_allocN (cs := [iv 0, iv 0, iv 0, .bool false, sv none ([]) 0, sv none ([]) 0, iv 0]) (t := 29) rfl (noG rfl) (fun _ w hn k => rfl) (fun q _ hq hb => ⟨q, rfl, hq, hb⟩)) .nil
 refine aftI aa aw ae fun a2 w3 af ay ai aF ag => ?_
 have h8 := ag.fx 0 hp0
 obtain ⟨az, h9, aj, ak⟩ : IsNew _ _ _ _ _ := ag.got 0 2 rfl (by kernel_rfl)
 have aC := Nat.le_trans ae.size aj
 refine st_nil (ax _ _ (wp_seq_k fun aG al => ?_))
 refine wp_g0 [true, true, true, false] [(3, false)] 6
   [ve (iv n), ve (nv (Nm.mk 0 n)), ve (vv (Vl.mk 3 0 n false [] [] 0) none 0 none 0), vt] af (.eq (.eq (.eq (.tt (.nil))))) ?_ ?_
 exact .m (fun k => k.fx 0 h8) <| .t (fun _ w hn k => ⟨_, v_build (ps := [(1, iv n)]) rfl (parts1 (k.eq1 0 3 rfl)) (by kernel_rfl), rfl⟩) <| .t (fun _ w hn k => ⟨_, v_build (ps := [(0, iv 3), (1, nv (Nm.mk 0 n))]) rfl (parts2 rfl (k.eq1 1 4 rfl)) (by kernel_rfl), rfl⟩) <| .off .nil
 refine aftI af ay ai fun aH aI aD am an ao ab => ?_
 have ah := ab.fx 2 h9
 have aA := ab.ge 2 5 rfl
 have ap := ak.new_ ao
 obtain ⟨aB, ac, ad, aq, aE⟩ := s_many (P := Tryd.prog) (t := 29) (i := 0) [iv 3, iv 0, iv n, .bool false, sv none ([]) 0, sv none ([]) 0, iv 0] Tryd.sizeOf29 rfl rfl rfl ap lb
 have ar : Blk aB az 29 [iv 3, iv 0, iv n, .bool false, sv none ([]) 0, sv none ([]) 0, iv 0] := ad
 refine st_act rfl rfl fun aJ au => a_store' rfl ah aA ac (au _ _ trivial ?_)
 have av := an.trans aq (fun _ h b => by subst b; omega)
 refine st_nil (al _ _ ?_)
 refine wp_ret (ret_k am (v := vv (Vl.mk 3 0 n false [] [] 0) none 0 none 0) (res_c rfl ah (l_agg Tryd.isAgg29 Tryd.sizeOf29 ar rfl)) ?_)
 exact ⟨rfl, av⟩
def lbig_c_P (x : Nat) (w : World) (en : Ending) (w' : World) : Prop := ∃ (Ar0 : Option Addr) (cr0 : Nat), en = .returned (vv (Vl.mk 4 0 0 false [x] [] 0) Ar0 cr0 none 0) ∧ SRow w' .u32 Ar0 ([x]) cr0 ∧ New w w'
theorem lbig_c (x : Nat) (w : World) (hx : x < 4294967296) : Calls Tryd.prog 24 #[.int .u32 (x : Int)] w (lbig_c_P x w) := by
 refine enter_abs Tryd.func24 rfl fun a0 af aI hp => ?_
 have af : a0.tmps.size = 7 := af
 have an : New w w := Upd.refl _ _
 have hp0 : a0.eval (.tmp 0) = .int .u32 (x : Int) := hp 0 _ rfl
 refine wp_seq_k fun K1 aJ => ?_
 refine wp_g [true] [] [] 7
   [IsNew w 29 [iv 0, iv 0, iv 0, .bool false, sv none ([]) 0, sv none ([]) 0, iv 0]]
   [0] (newsCons (fun v w h => IsNew.old h) newsNil) af (.nw (.nil)) ?_ (fun i h => by cases h) ?_
 exact .o2 (step_allocN (cs := [iv 0, iv 0, iv 0, .bool false, sv none ([]) 0, sv none ([]) 0, iv 0]) (t := 29) rfl (noG rfl) (fun _ w hn k => rfl) (fun q _ hq hb => ⟨q, rfl, hq, hb⟩)) .nil
 refine aftI af aI an fun a2 w3 ao aK ag aT ap => ?_
 have h8 := ap.fx 0 hp0
 obtain ⟨aL, h9, av, aw⟩ : IsNew _ _ _ _ _ := ap.got 0 2 rfl (by kernel_rfl)
 have aQ := Nat.le_trans an.size av
 refine st_nil (aJ _ _ (wp_seq_k fun aU ax => ?_))
 refine wp_g0 [true, true, true, true, false] [(4, false)] 7
   [ve (.int .u32 (x : Int)),
    (OP w3.heap.size 53 .u32 ([x])), (fun (v_ : Value) (W : World) => ∃ (A9 : Option Addr) (aa : Nat), v_ = .agg #[.bool false, sv A9 ([x]) aa] ∧ SOwn W w3.heap.size 53 .u32 A9 ([x]) aa), (fun (v_ : Value) (W : World) => ∃ (ab : Option Addr) (ac : Nat), v_ = vv (Vl.mk 4 0 0 false [x] [] 0) ab ac none 0 ∧ SOwn W w3.heap.size 53 .u32 ab ([x]) ac), vt] ao (.eq (.cons (fun _ _ _ n ⟨_, _, e, h⟩ => ⟨_, _, e, h.new_ n⟩) (.cons (fun v W W' hn ⟨A9, aa, he, h0⟩ => ⟨A9, aa, he, h0.new_ hn⟩) (.cons (fun _ _ _ n ⟨_, _, e, h⟩ => ⟨_, _, e, h.new_ n⟩) (.tt (.nil)))))) ?_ ?_
 refine .m (fun k => k.fx 0 h8) ?_
 refine .o1 (tkA rfl (noG rfl) fun _ w hn k => (by
       exact x_bslice (k := .u32) (ps := [(0, .int .u32 (x : Int))]) [x] rfl (parts1 (k.eq1 0 3 rfl)) elW rfl (by omega) (by omega) (by first | kernel_rfl | (simp only [enc, List.map_cons, List.map_nil, Int.toNat_natCast, Int.toNat_of_nonneg (by omega : (0 : Int) ≤ _)]; kernel_rfl)) fun A1 c2 W' hmo => ⟨A1, c2, rfl, (hmo.more hn.size)⟩)) ?_
 refine .o1 (tk rfl rfl fun _ w hn k => (by
       obtain ⟨A5, c6, e7, aM⟩ : (OP w3.heap.size 53 .u32 ([x])) _ _ := k.dep 1 4 (by kernel_rfl) (by kernel_rfl)
       exact ⟨_, v_build (ps := [(1, sv A5 ([x]) c6)]) rfl (parts1 e7) (by kernel_rfl), ⟨A5, c6, rfl, aM⟩⟩)) ?_
 refine .o1 (tk rfl rfl fun _ w hn k => (by
       obtain ⟨aq, ar, aN, ay⟩ : (fun (v_ : Value) (W : World) => ∃ (A9 : Option Addr) (aa : Nat), v_ = .agg #[.bool false, sv A9 ([x]) aa] ∧ SOwn W w3.heap.size 53 .u32 A9 ([x]) aa) _ _ := k.dep 2 5 (by kernel_rfl) (by kernel_rfl)
       exact ⟨_, v_build (ps := [(0, iv 4), (2, .agg #[.bool false, sv aq ([x]) ar])]) rfl (parts2 rfl aN) (by kernel_rfl), ⟨aq, ar, rfl, ay⟩⟩)) ?_
 exact .off .nil
 refine aftI ao aK ag fun aO aV aR az aA aB ah => ?_
 have au := ah.fx 2 h9
 obtain ⟨ae, ad, ai, aC⟩ : (fun (v_ : Value) (W : World) => ∃ (ab : Option Addr) (ac : Nat), v_ = vv (Vl.mk 4 0 0 false [x] [] 0) ab ac none 0 ∧ SOwn W w3.heap.size 53 .u32 ab ([x]) ac) _ _ := ah.got 3 6 rfl (by kernel_rfl)
 have ai : aO.eval (.tmp 6) = vv (Vl.mk 4 0 0 false [x] [] 0) ae ad none 0 := ai
 have aj := aw.new_ aB
 have aD := aC.more ag.size
 obtain ⟨aP, al, am, ak, aS⟩ := s_many (P := Tryd.prog) (t := 29) (i := 0) [iv 4, iv 0, iv 0, .bool false, sv ae ([x]) ad, sv none ([]) 0, iv 0] Tryd.sizeOf29 rfl rfl rfl aj lb
 have aE : Blk aP aL 29 [iv 4, iv 0, iv 0, .bool false, sv ae ([x]) ad, sv none ([]) 0, iv 0] := am
 refine st_act rfl rfl fun aW aF => a_store' rfl au ai al (aF _ _ trivial ?_)
 have aG := aD.far aj ak (by decide)
 have aH := aA.trans ak (fun _ h b => by subst b; omega)
 refine st_nil (ax _ _ ?_)
 refine wp_ret (ret_k az (v := vv (Vl.mk 4 0 0 false [x] [] 0) ae ad none 0) (res_c rfl au (l_agg Tryd.isAgg29 Tryd.sizeOf29 aE rfl)) ?_)
 exact ⟨ae, ad, rfl, aG.row, aH⟩
theorem VOk.str (s : ByteArray) (h : s.size ≤ 20000) : VOk ⟨5, 0, 0, false, [], asc s, 0⟩ := ⟨Limbs.nil, U16s.asc s, Nat.zero_le _, by rw [asc_len]; exact h, (show (-9223372036854775808 : Int) ≤ 0 by decide), (show (0 : Int) ≤ 9223372036854775807 by decide), (show (-9223372036854775808 : Int) ≤ 0 by decide), (show (0 : Int) ≤ 9223372036854775807 by decide)⟩
theorem VOk.whole {n : Int} (h1 : -9223372036854775808 ≤ n) (h2 : n ≤ 9223372036854775807) : VOk ⟨3, 0, n, false, [], [], 0⟩ := ⟨Limbs.nil, U16s.nil, Nat.zero_le _, Nat.zero_le _, h1, h2, (show (-9223372036854775808 : Int) ≤ 0 by decide), (show (0 : Int) ≤ 9223372036854775807 by decide)⟩
theorem VOk.big {x : Nat} (h : x < 4294967296) : VOk ⟨4, 0, 0, false, [x], [], 0⟩ := ⟨Limbs.cons h Limbs.nil, U16s.nil, (show (1 : Nat) ≤ 40 by decide), Nat.zero_le _, (show (-9223372036854775808 : Int) ≤ 0 by decide), (show (0 : Int) ≤ 9223372036854775807 by decide), (show (-9223372036854775808 : Int) ≤ 0 by decide), (show (0 : Int) ≤ 9223372036854775807 by decide)⟩
theorem VOk.null : VOk ⟨1, 0, 0, false, [], [], 0⟩ := ⟨Limbs.nil, U16s.nil, by decide, by decide, by decide, by decide, by decide, by decide⟩
theorem VOk.truth (t : Bool) : VOk (truthV t) := by cases t <;> exact ⟨Limbs.nil, U16s.nil, by decide, by decide, by decide, by decide, by decide, by decide⟩
theorem few_ok {v : Vl} (h : (decide ((v.s.length : Int) ≤ 20000) && decide ((v.mag.length : Int) ≤ 40)) = true) (hl : Limbs v.mag) (hu : U16s v.s) (h1 : -9223372036854775808 ≤ v.nn) (h2 : v.nn ≤ 9223372036854775807) (h3 : -9223372036854775808 ≤ v.ref) (h4 : v.ref ≤ 9223372036854775807) : VOk v := by
  simp only [Bool.and_eq_true, decide_eq_true_eq] at h
  exact ⟨hl, hu, by omega, by omega, h1, h2, h3, h4⟩
set_option maxRecDepth 100000 in
theorem first_n1 (A0 : Option Addr) (c0 : Nat) (B0 : Option Addr) (d0 : Nat) (w : World) (hm0 : SRow w .u32 A0 [] c0) (hs0 : SRow w .u16 B0 (asc ⟨#[49, 50]⟩) d0) : Calls Tryd.prog 12 #[vv (Vl.mk 5 0 0 false [] (asc ⟨#[49, 50]⟩) 0) A0 c0 B0 d0] w (IsRet (.tuple #[nv (Nm.mk 0 12), iv 0]) w) := by
  have h := cnumber_c (Vl.mk 5 0 0 false [] (asc ⟨#[49, 50]⟩) 0) A0 c0 B0 d0 w hm0 hs0 (VOk.str ⟨#[49, 50]⟩ (by first | omega | decide))
  rw [show numberV (Vl.mk 5 0 0 false [] (asc ⟨#[49, 50]⟩) 0) = (⟨0, 12⟩, 0) from by decide +kernel] at h
  exact h
set_option maxRecDepth 100000 in
theorem first_n2 (A0 : Option Addr) (c0 : Nat) (B0 : Option Addr) (d0 : Nat) (w : World) (hm0 : SRow w .u32 A0 [] c0) (hs0 : SRow w .u16 B0 (asc ⟨#[49, 46, 53]⟩) d0) : Calls Tryd.prog 12 #[vv (Vl.mk 5 0 0 false [] (asc ⟨#[49, 46, 53]⟩) 0) A0 c0 B0 d0] w (IsRet (.tuple #[nv (Nm.mk 0 0), iv 3]) w) := by
  have h := cnumber_c (Vl.mk 5 0 0 false [] (asc ⟨#[49, 46, 53]⟩) 0) A0 c0 B0 d0 w hm0 hs0 (VOk.str ⟨#[49, 46, 53]⟩ (by first | omega | decide))
  rw [show numberV (Vl.mk 5 0 0 false [] (asc ⟨#[49, 46, 53]⟩) 0) = (⟨0, 0⟩, 3) from by decide +kernel] at h
  exact h
set_option maxRecDepth 100000 in
theorem first_n3 (A0 : Option Addr) (c0 : Nat) (B0 : Option Addr) (d0 : Nat) (w : World) (hm0 : SRow w .u32 A0 [5] c0) (hs0 : SRow w .u16 B0 [] d0) : Calls Tryd.prog 12 #[vv (Vl.mk 4 0 0 false [5] [] 0) A0 c0 B0 d0] w (IsRet (.tuple #[nv (Nm.mk 0 0), iv 1]) w) := by
  have h := cnumber_c (Vl.mk 4 0 0 false [5] [] 0) A0 c0 B0 d0 w hm0 hs0 (VOk.big (by omega))
  rw [show numberV (Vl.mk 4 0 0 false [5] [] 0) = (⟨0, 0⟩, 1) from by decide +kernel] at h
  exact h
set_option maxRecDepth 100000 in
theorem first_l2 (A0 : Option Addr) (c0 : Nat) (B0 : Option Addr) (d0 : Nat) (A1 : Option Addr) (c1 : Nat) (B1 : Option Addr) (d1 : Nat) (w : World) (hm0 : SRow w .u32 A0 [2] c0) (hs0 : SRow w .u16 B0 [] d0) (hm1 : SRow w .u32 A1 [] c1) (hs1 : SRow w .u16 B1 [] d1) : Calls Tryd.prog 8 #[vv (Vl.mk 4 0 0 false [2] [] 0) A0 c0 B0 d0, vv (Vl.mk 3 0 2 false [] [] 0) A1 c1 B1 d1] w (IsRet (.tuple #[.bool true, iv 0]) w) := by
  have h := cloose_c (Vl.mk 4 0 0 false [2] [] 0) A0 c0 B0 d0 (Vl.mk 3 0 2 false [] [] 0) A1 c1 B1 d1 w hm0 hs0 hm1 hs1 (VOk.big (by omega)) (VOk.whole (by omega) (by omega))
  rw [show looseV (Vl.mk 4 0 0 false [2] [] 0) (Vl.mk 3 0 2 false [] [] 0) = (true, 0) from by decide +kernel] at h
  exact h
set_option maxRecDepth 100000 in
theorem first_l3 (A0 : Option Addr) (c0 : Nat) (B0 : Option Addr) (d0 : Nat) (A1 : Option Addr) (c1 : Nat) (B1 : Option Addr) (d1 : Nat) (w : World) (hm0 : SRow w .u32 A0 [] c0) (hs0 : SRow w .u16 B0 [] d0) (hm1 : SRow w .u32 A1 [] c1) (hs1 : SRow w .u16 B1 [] d1) : Calls Tryd.prog 8 #[vv (Vl.mk 1 0 0 false [] [] 0) A0 c0 B0 d0, vv (Vl.mk 3 0 0 false [] [] 0) A1 c1 B1 d1] w (IsRet (.tuple #[.bool false, iv 0]) w) := by
  have h := cloose_c (Vl.mk 1 0 0 false [] [] 0) A0 c0 B0 d0 (Vl.mk 3 0 0 false [] [] 0) A1 c1 B1 d1 w hm0 hs0 hm1 hs1 VOk.null (VOk.whole (by omega) (by omega))
  rw [show looseV (Vl.mk 1 0 0 false [] [] 0) (Vl.mk 3 0 0 false [] [] 0) = (false, 0) from by decide +kernel] at h
  exact h
set_option maxRecDepth 100000 in
theorem first_l1 (A0 : Option Addr) (c0 : Nat) (B0 : Option Addr) (d0 : Nat) (A1 : Option Addr) (c1 : Nat) (B1 : Option Addr) (d1 : Nat) (w : World) (hm0 : SRow w .u32 A0 [] c0) (hs0 : SRow w .u16 B0 (asc ⟨#[49]⟩) d0) (hm1 : SRow w .u32 A1 (truthV true).mag c1) (hs1 : SRow w .u16 B1 (truthV true).s d1) : Calls Tryd.prog 8 #[vv (Vl.mk 5 0 0 false [] (asc ⟨#[49]⟩) 0) A0 c0 B0 d0, vv (truthV true) A1 c1 B1 d1] w (IsRet (.tuple #[.bool true, iv 0]) w) := by
  have h := cloose_c (Vl.mk 5 0 0 false [] (asc ⟨#[49]⟩) 0) A0 c0 B0 d0 (truthV true) A1 c1 B1 d1 w hm0 hs0 hm1 hs1 (VOk.str ⟨#[49]⟩ (by first | omega | decide)) (VOk.truth _)
  rw [show looseV (Vl.mk 5 0 0 false [] (asc ⟨#[49]⟩) 0) (truthV true) = (true, 0) from by decide +kernel] at h
  exact h
set_option maxRecDepth 100000 in
theorem first_i1 (A0 : Option Addr) (c0 : Nat) (B0 : Option Addr) (d0 : Nat) (w : World) (hm0 : SRow w .u32 A0 [] c0) (hs0 : SRow w .u16 B0 [] d0) : Calls Tryd.prog 16 #[vv (Vl.mk 3 0 (-1) false [] [] 0) A0 c0 B0 d0] w (IsRet (.tuple #[iv 0, iv 2]) w) := by
  have h := cindex_c (Vl.mk 3 0 (-1) false [] [] 0) A0 c0 B0 d0 w hm0 hs0 (VOk.whole (by omega) (by omega))
  rw [show indexV (Vl.mk 3 0 (-1) false [] [] 0) = (0, 2) from by decide +kernel] at h
  exact h
theorem first_c  (w : World) : Calls Tryd.prog 6 #[] w (IsRet (.bool true) w) := by
 refine enter_abs Tryd.func6 rfl fun a0 au cM hp => ?_
 have au : a0.tmps.size = 94 := au
 have cN : New w w := Upd.refl _ _
 refine wp_seq_k fun K1 cO => ?_
 refine wp_g0 [true] [] 94
   [vF] au (.eq (.nil)) ?_ ?_
 exact .t (fun _ w hn k => ⟨_, v_assign rfl rfl, rfl⟩) .nil
 refine aftI au cM cN fun a2 w3 bm cP bn ea eb => ?_
 refine st_nil (cO _ _ (wp_seq_k fun K9 cQ => ?_))
 refine wp_g [true, true, true, true, true, true, false, false] [4] [(6, false), (7, true)] 94
   [(fun (v_ : Value) (W : World) => ∃ (A3 : Option Addr) (c4 : Nat), v_ = vv (Vl.mk 5 0 0 false [] (asc ⟨#[49, 50]⟩) 0) none 0 A3 c4 ∧ SRow W .u16 A3 (asc ⟨#[49, 50]⟩) c4), ve (.tuple #[nv (Nm.mk 0 12), iv 0]), ve (.tuple #[nv (Nm.mk 0 12), iv 0]), ve (nv (Nm.mk 0 12)), ve (iv 0), IsNew w3 23 [iv 0, iv 0], vt, vt]
   [5] (newsCons (fun v w h => IsNew.old h) newsNil) bm (.cons (fun _ _ _ n ⟨_, _, e, h⟩ => ⟨_, _, e, h.new_ n⟩) (.eq (.eq (.eq (.eq (.nw (.tt (.tt (.nil))))))))) ?_ ?_ ?_
 refine .o1 (tkC rfl (noG rfl) rfl fun _ w hn k => (by
       refine ⟨#[.string ⟨#[49, 50]⟩], _, args1 rfl, fun w => by kernel_rfl, lstr_c ⟨#[49, 50]⟩ _ (by first | omega | (show (_ : Nat) ≤ _; decide)), ?_⟩
       rintro e w' ⟨A1, c2, rfl, hmo0, hm⟩
       exact ⟨_, rfl, hm, ⟨A1, c2, rfl, hmo0⟩⟩)) ?_
 refine .o1 (tkC rfl (noG rfl) rfl fun _ w hn k => (by
       obtain ⟨A5, c6, e7, cR⟩ : (fun (v_ : Value) (W : World) => ∃ (A3 : Option Addr) (c4 : Nat), v_ = vv (Vl.mk 5 0 0 false [] (asc ⟨#[49, 50]⟩) 0) none 0 A3 c4 ∧ SRow W .u16 A3 (asc ⟨#[49, 50]⟩) c4) _ _ := k.dep 0 16 (by kernel_rfl) (by kernel_rfl)
       refine ⟨#[vv (Vl.mk 5 0 0 false [] (asc ⟨#[49, 50]⟩) 0) none 0 A5 c6], _, args1 e7, fun w => by kernel_rfl, first_n1 _ _ _ _ _ (SRow.nil _ _) cR, ?_⟩
       rintro e w' ⟨rfl, hm⟩
       exact ⟨_, rfl, hm, rfl⟩)) ?_
 refine .m (fun k => k.eq1 1 17 rfl) <| .t (fun _ w hn k => ⟨_, v_extract rfl (k.eq1 2 15 rfl) rfl, rfl⟩) ?_
 refine .o3 ?_
 exact .o2 (step_allocN (cs := [iv 0, iv 0]) (t := 23) rfl (noG rfl) (fun _ w hn k => rfl) (fun q _ hq hb => ⟨q, rfl, hq, hb⟩)) <| .off <| .off .nil
 intro i h
 simp only [List.contains_eq_mem, List.mem_cons, List.not_mem_nil, or_false, decide_eq_true_eq] at h
 subst h
 exact eager_take rfl rfl fun _ w hn k => ⟨iv 0, fun w => v_extract rfl (k.eq1 2 15 rfl) rfl, rfl⟩
 refine aftI bm cP bn fun bo ec aA bB bC dL ar => ?_
 have bp := ar.ge 3 18 rfl
 have bq := ar.ge 4 19 rfl
 obtain ⟨aB, br, bD, bE⟩ : IsNew _ _ _ _ _ := ar.got 5 1 rfl (by kernel_rfl)
 have dM := Nat.le_trans bn.size bD
 obtain ⟨cS, -, aM, aC, bF, dN⟩ := s_two (v0 := iv 0) (v1 := iv 12) Tryd.sizeOf23 rfl rfl rfl bE
 refine st_act rfl rfl fun ed bG => a_store' rfl br bp aM (bG _ _ trivial ?_)
 have aD := bC.trans bF (fun _ h b => by subst b; omega)
 refine st_take rfl rfl (y_assign (v := iv 0) rfl bq) rfl ?_
 obtain ⟨cT, ag⟩ : ∃ a', a' = bo.put (some 2) (iv 0) := ⟨_, rfl⟩
 have aE := pz ag aA
 have bH := pd ag bB
 have ee := pn ag bp (by decide)
 have ef := pn ag bq (by decide)
 have cU := pn ag br (by decide)
 have cV : cT.eval (.tmp 2) = iv 0 := by rw [ag]; exact put_same _ _ _ (by rw [aA]; decide)
 show stepsTo _ _ _ _ _ (bo.put (some 2) (iv 0)) _
 rw [← ag]
 refine st_nil (cQ _ _ (wp_seq_k fun eg bI => ?_))
 refine wp_g [true, true, true, true, true, true, false, false] [4] [(6, false), (7, true)] 94
   [(fun (v_ : Value) (W : World) => ∃ (ai : Option Addr) (aj : Nat), v_ = vv (Vl.mk 5 0 0 false [] (asc ⟨#[49, 46, 53]⟩) 0) none 0 ai aj ∧ SRow W .u16 ai (asc ⟨#[49, 46, 53]⟩) aj), ve (.tuple #[nv (Nm.mk 0 0), iv 3]), ve (.tuple #[nv (Nm.mk 0 0), iv 3]), ve (nv (Nm.mk 0 0)), ve (iv 3), IsNew cS 23 [iv 0, iv 0], vt, vt]
   [5] (newsCons (fun v w h => IsNew.old h) newsNil) aE (.cons (fun _ _ _ n ⟨_, _, e, h⟩ => ⟨_, _, e, h.new_ n⟩) (.eq (.eq (.eq (.eq (.nw (.tt (.tt (.nil))))))))) ?_ ?_ ?_
 refine .o1 (tkC rfl (noG rfl) rfl fun _ w hn k => (by
       refine ⟨#[.string ⟨#[49, 46, 53]⟩], _, args1 rfl, fun w => by kernel_rfl, lstr_c ⟨#[49, 46, 53]⟩ _ (by first | omega | (show (_ : Nat) ≤ _; decide)), ?_⟩
       rintro e w' ⟨A9, cW, rfl, hmo0, hm⟩
       exact ⟨_, rfl, hm, ⟨A9, cW, rfl, hmo0⟩⟩)) ?_
 refine .o1 (tkC rfl (noG rfl) rfl fun _ w hn k => (by
       obtain ⟨cX, cY, cZ, bJ⟩ : (fun (v_ : Value) (W : World) => ∃ (ai : Option Addr) (aj : Nat), v_ = vv (Vl.mk 5 0 0 false [] (asc ⟨#[49, 46, 53]⟩) 0) none 0 ai aj ∧ SRow W .u16 ai (asc ⟨#[49, 46, 53]⟩) aj) _ _ := k.dep 0 21 (by kernel_rfl) (by kernel_rfl)
       refine ⟨#[vv (Vl.mk 5 0 0 false [] (asc ⟨#[49, 46, 53]⟩) 0) none 0 cX cY], _, args1 cZ, fun w => by kernel_rfl, first_n2 _ _ _ _ _ (SRow.nil _ _) bJ, ?_⟩
       rintro e w' ⟨rfl, hm⟩
       exact ⟨_, rfl, hm, rfl⟩)) ?_
 refine .m (fun k => k.eq1 1 22 rfl) <| .t (fun _ w hn k => ⟨_, v_extract rfl (k.eq1 2 20 rfl) rfl, rfl⟩) ?_
 refine .o3 ?_
 exact .o2 (step_allocN (cs := [iv 0, iv 0]) (t := 23) rfl (noG rfl) (fun _ w hn k => rfl) (fun q _ hq hb => ⟨q, rfl, hq, hb⟩)) <| .off <| .off .nil
 intro i h
 simp only [List.contains_eq_mem, List.mem_cons, List.not_mem_nil, or_false, decide_eq_true_eq] at h
 subst h
 exact eager_take rfl rfl fun _ w hn k => ⟨iv 3, fun w => v_extract rfl (k.eq1 2 20 rfl) rfl, rfl⟩
 refine aftI aE bH aD fun bs eh aF bK bL bM ak => ?_
 have c0 := ak.fx 1 cU
 have c1 := ak.fx 2 cV
 have bt := ak.ge 3 23 rfl
 have bu := ak.ge 4 24 rfl
 obtain ⟨c3, bv, aG, bN⟩ : IsNew _ _ _ _ _ := ak.got 5 3 rfl (by kernel_rfl)
 have bO := aC.new_ bM
 have hne56 : aB ≠ c3 := by have h1 := aC.lt; have h2 := aG; omega
 have dO := Nat.le_trans aD.size aG
 obtain ⟨c5, -, aN, dP, bP, bQ⟩ := s_two (v0 := iv 0) (v1 := iv 0) Tryd.sizeOf23 rfl rfl rfl bN
 refine st_act rfl rfl fun ei bR => a_store' rfl bv bt aN (bR _ _ trivial ?_)
 have aH := bQ _ _ _ (hne56) bO
 have aI := bL.trans bP (fun _ h b => by subst b; omega)
 refine st_take rfl rfl (y_assign (v := iv 3) rfl bu) rfl ?_
 obtain ⟨c7, ae⟩ : ∃ a', a' = bs.put (some 4) (iv 3) := ⟨_, rfl⟩
 have aJ := pz ae aF
 have bS := pd ae bK
 have c8 := pn ae c0 (by decide)
 have c9 := pn ae c1 (by decide)
 have ej := pn ae bt (by decide)
 have ek := pn ae bu (by decide)
 have el := pn ae bv (by decide)
 have da : c7.eval (.tmp 4) = iv 3 := by rw [ae]; exact put_same _ _ _ (by rw [aF]; decide)
 show stepsTo _ _ _ _ _ (bs.put (some 4) (iv 3)) _
 rw [← ae]
 refine st_nil (bI _ _ (wp_seq_k fun em bT => ?_))
 refine wp_g [true, true, true, true, true, true, false, false] [4] [(6, false), (7, true)] 94
   [(fun (v_ : Value) (W : World) => ∃ (al : Option Addr) (am : Nat), v_ = vv (Vl.mk 4 0 0 false [5] [] 0) al am none 0 ∧ SRow W .u32 al ([5]) am), ve (.tuple #[nv (Nm.mk 0 0), iv 1]), ve (.tuple #[nv (Nm.mk 0 0), iv 1]), ve (nv (Nm.mk 0 0)), ve (iv 1), IsNew c5 23 [iv 0, iv 0], vt, vt]
   [5] (newsCons (fun v w h => IsNew.old h) newsNil) aJ (.cons (fun _ _ _ n ⟨_, _, e, h⟩ => ⟨_, _, e, h.new_ n⟩) (.eq (.eq (.eq (.eq (.nw (.tt (.tt (.nil))))))))) ?_ ?_ ?_
 refine .o1 (tkC rfl (noG rfl) rfl fun _ w hn k => (by
       refine ⟨#[.int .u32 5], _, args1 rfl, fun w => by kernel_rfl, lbig_c 5 _ (by omega), ?_⟩
       rintro e w' ⟨db, dc, rfl, hmo0, hm⟩
       exact ⟨_, rfl, hm, ⟨db, dc, rfl, hmo0⟩⟩)) ?_
 refine .o1 (tkC rfl (noG rfl) rfl fun _ w hn k => (by
       obtain ⟨dd, de, df, bU⟩ : (fun (v_ : Value) (W : World) => ∃ (al : Option Addr) (am : Nat), v_ = vv (Vl.mk 4 0 0 false [5] [] 0) al am none 0 ∧ SRow W .u32 al ([5]) am) _ _ := k.dep 0 26 (by kernel_rfl) (by kernel_rfl)
       refine ⟨#[vv (Vl.mk 4 0 0 false [5] [] 0) dd de none 0], _, args1 df, fun w => by kernel_rfl, first_n3 _ _ _ _ _ bU (SRow.nil _ _), ?_⟩
       rintro e w' ⟨rfl, hm⟩
       exact ⟨_, rfl, hm, rfl⟩)) ?_
 refine .m (fun k => k.eq1 1 27 rfl) <| .t (fun _ w hn k => ⟨_, v_extract rfl (k.eq1 2 25 rfl) rfl, rfl⟩) ?_
 refine .o3 ?_
 exact .o2 (step_allocN (cs := [iv 0, iv 0]) (t := 23) rfl (noG rfl) (fun _ w hn k => rfl) (fun q _ hq hb => ⟨q, rfl, hq, hb⟩)) <| .off <| .off .nil
 intro i h
 simp only [List.contains_eq_mem, List.mem_cons, List.not_mem_nil, or_false, decide_eq_true_eq] at h
 subst h
 exact eager_take rfl rfl fun _ w hn k => ⟨iv 1, fun w => v_extract rfl (k.eq1 2 25 rfl) rfl, rfl⟩
 refine aftI aJ bS aI fun bw en aK bV bW bX ah => ?_
 have dg := ah.fx 1 c8
 have dh := ah.fx 2 c9
 have di := ah.fx 4 da
 have bx := ah.ge 3 28 rfl
 have bz := ah.ge 4 29 rfl
 obtain ⟨dj, bA, aL, bY⟩ : IsNew _ _ _ _ _ := ah.got 5 5 rfl (by kernel_rfl)
 have bZ := aH.new_ bX
 have hne95 : aB ≠ dj := by have h1 := aH.lt; have h2 := aL; omega
 have dQ := Nat.le_trans aI.size aL
 obtain ⟨eo, -, aO, dI, aP, aQ⟩ := s_two (v0 := iv 0) (v1 := iv 0) Tryd.sizeOf23 rfl rfl rfl bY
 refine st_act rfl rfl fun dR aR => a_store' rfl bA bx aO (aR _ _ trivial ?_)
 have aS := aQ _ _ _ (hne95) bZ
 have aT := bW.trans aP (fun _ h b => by subst b; omega)
 refine st_take rfl rfl (y_assign (v := iv 1) rfl bz) rfl ?_
 obtain ⟨b0, ab⟩ : ∃ a', a' = bw.put (some 6) (iv 1) := ⟨_, rfl⟩
 have av := pz ab aK
 have aU := pd ab bV
 have b1 := pn ab dg (by decide)
 have b2 := pn ab dh (by decide)
 have b3 := pn ab di (by decide)
 have dS := pn ab bx (by decide)
 have dT := pn ab bz (by decide)
 have dU := pn ab bA (by decide)
 have b4 : b0.eval (.tmp 6) = iv 1 := by rw [ab]; exact put_same _ _ _ (by rw [aK]; decide)
 show stepsTo _ _ _ _ _ (bw.put (some 6) (iv 1)) _
 rw [← ab]
 refine st_nil (bT _ _ (wp_seq_k fun dV aV => ?_))
 refine wp_g0 (.replicate 8 true) [] 94
   [(fun (v_ : Value) (W : World) => ∃ (an : Option Addr) (ao : Nat), v_ = vv (Vl.mk 5 0 0 false [] (asc ⟨#[49]⟩) 0) none 0 an ao ∧ SRow W .u16 an (asc ⟨#[49]⟩) ao),
    (VP (truthV true)), ve (.tuple #[.bool true, iv 0]), ve (.tuple #[.bool true, iv 0]), vT, ve (iv 0), vT, ve (iv 0)] av (.cons (fun _ _ _ n ⟨_, _, e, h⟩ => ⟨_, _, e, h.new_ n⟩) (.cons (fun v W W' hn ⟨dk, dl, dm, dn, he, h0, h1⟩ => ⟨dk, dl, dm, dn, he, h0.new_ hn, h1.new_ hn⟩) (.eq (.eq (.eq (.eq (.eq (.eq (.nil))))))))) ?_ ?_
 refine .o1 (tkC rfl (noG rfl) rfl fun _ w hn k => (by
       refine ⟨#[.string ⟨#[49]⟩], _, args1 rfl, fun w => by kernel_rfl, lstr_c ⟨#[49]⟩ _ (by first | omega | (show (_ : Nat) ≤ _; decide)), ?_⟩
       rintro e w' ⟨dp, dq, rfl, hmo0, hm⟩
       exact ⟨_, rfl, hm, ⟨dp, dq, rfl, hmo0⟩⟩)) ?_
 refine .o1 (tkC rfl (noG rfl) rfl fun _ w hn k => (by
       refine ⟨#[.bool true], _, args1 rfl, fun w => by kernel_rfl, truth_c true _ , ?_⟩
       rintro e w' ⟨dr, ds, dt, du, rfl, hmo0, hmo1, hm⟩
       exact ⟨_, rfl, hm, ⟨dr, ds, dt, du, rfl, hmo0, hmo1⟩⟩)) ?_
 refine .o1 (tkC rfl (noG rfl) rfl fun _ w hn k => (by
       obtain ⟨dv, dw, dx, b5⟩ : (fun (v_ : Value) (W : World) => ∃ (an : Option Addr) (ao : Nat), v_ = vv (Vl.mk 5 0 0 false [] (asc ⟨#[49]⟩) 0) none 0 an ao ∧ SRow W .u16 an (asc ⟨#[49]⟩) ao) _ _ := k.dep 0 31 (by kernel_rfl) (by kernel_rfl)
       obtain ⟨dy, dz, dA, dB, dC, b6, b7⟩ : (VP (truthV true)) _ _ := k.dep 1 32 (by kernel_rfl) (by kernel_rfl)
       refine ⟨#[vv (Vl.mk 5 0 0 false [] (asc ⟨#[49]⟩) 0) none 0 dv dw, vv (truthV true) dy dz dA dB], _, args2 dx dC, fun w => by kernel_rfl, first_l1 _ _ _ _ _ _ _ _ _ (SRow.nil _ _) b5 b6 b7, ?_⟩
       rintro e w' ⟨rfl, hm⟩
       exact ⟨_, rfl, hm, rfl⟩)) ?_
 exact .m (fun k => k.eq1 2 33 rfl) <| .t (fun _ w hn k => ⟨_, v_extract rfl (k.eq1 3 30 rfl) rfl, rfl⟩) <| .t (fun _ w hn k => ⟨_, v_extract rfl (k.eq1 3 30 rfl) rfl, rfl⟩) <| .a (fun k => k.eq1 4 34 rfl) <| .a (fun k => k.eq1 5 35 rfl) .nil
 refine aftI av aU aT fun dW dX aw aW aX aY af => ?_
 have b8 := af.fx 1 b1
 have b9 := af.fx 2 b2
 have ca := af.fx 4 b3
 have cb := af.fx 6 b4
 have cc := af.ge 6 7 rfl
 have cd := af.ge 7 8 rfl
 have aZ := aS.new_ aY
 refine st_nil (aV _ _ (wp_seq_k fun dY a1 => ?_))
 refine wp_g0 (.replicate 8 true) [] 94
   [(fun (v_ : Value) (W : World) => ∃ (ap : Option Addr) (aq : Nat), v_ = vv (Vl.mk 4 0 0 false [2] [] 0) ap aq none 0 ∧ SRow W .u32 ap ([2]) aq), ve (vv (Vl.mk 3 0 2 false [] [] 0) none 0 none 0), ve (.tuple #[.bool true, iv 0]), ve (.tuple #[.bool true, iv 0]), vT, ve (iv 0), vT, ve (iv 0)] aw (.cons (fun _ _ _ n ⟨_, _, e, h⟩ => ⟨_, _, e, h.new_ n⟩) (.eq (.eq (.eq (.eq (.eq (.eq (.eq (.nil))))))))) ?_ ?_
 refine .o1 (tkC rfl (noG rfl) rfl fun _ w hn k => (by
       refine ⟨#[.int .u32 2], _, args1 rfl, fun w => by kernel_rfl, lbig_c 2 _ (by omega), ?_⟩
       rintro e w' ⟨dD, dE, rfl, hmo0, hm⟩
       exact ⟨_, rfl, hm, ⟨dD, dE, rfl, hmo0⟩⟩)) ?_
 refine .o1 (ck rfl rfl rfl (fun _ w hn k => ⟨#[iv 2], args1 rfl, fun _ => by kernel_rfl, lwhole_c 2 _ ⟩) fun _ => rfl) ?_
 refine .o1 (tkC rfl (noG rfl) rfl fun _ w hn k => (by
       obtain ⟨dF, dG, dH, ce⟩ : (fun (v_ : Value) (W : World) => ∃ (ap : Option Addr) (aq : Nat), v_ = vv (Vl.mk 4 0 0 false [2] [] 0) ap aq none 0 ∧ SRow W .u32 ap ([2]) aq) _ _ := k.dep 0 37 (by kernel_rfl) (by kernel_rfl)
       refine ⟨#[vv (Vl.mk 4 0 0 false [2] [] 0) dF dG none 0, vv (Vl.mk 3 0 2 false [] [] 0) none 0 none 0], _, args2 dH (k.eq1 1 38 rfl), fun w => by kernel_rfl, first_l2 _ _ _ _ _ _ _ _ _ ce (SRow.nil _ _) (SRow.nil _ _) (SRow.nil _ _), ?_⟩
       rintro e w' ⟨rfl, hm⟩
       exact ⟨_, rfl, hm, rfl⟩)) ?_
 exact .m (fun k => k.eq1 2 39 rfl) <| .t (fun _ w hn k => ⟨_, v_extract rfl (k.eq1 3 36 rfl) rfl, rfl⟩) <| .t (fun _ w hn k => ⟨_, v_extract rfl (k.eq1 3 36 rfl) rfl, rfl⟩) <| .a (fun k => k.eq1 4 40 rfl) <| .a (fun k => k.eq1 5 41 rfl) .nil
 refine aftI aw aW aX fun dZ d0 ax a3 a4 a5 ad => ?_
 have cf := ad.fx 1 b8
 have ch := ad.fx 2 b9
 have ci := ad.fx 4 ca
 have cj := ad.fx 6 cb
 have cl := ad.fx 7 cc
 have cm := ad.fx 8 cd
 have cn := ad.ge 6 9 rfl
 have co := ad.ge 7 10 rfl
 have a6 := aZ.new_ a5
 refine st_nil (a1 _ _ (wp_seq_k fun d1 a7 => ?_))
 refine wp_g0 (.replicate 8 true) [] 94
   [ve (vv (Vl.mk 1 0 0 false [] [] 0) none 0 none 0), ve (vv (Vl.mk 3 0 0 false [] [] 0) none 0 none 0), ve (.tuple #[.bool false, iv 0]), ve (.tuple #[.bool false, iv 0]), vF, ve (iv 0), vF, ve (iv 0)] ax (.eq (.eq (.eq (.eq (.eq (.eq (.eq (.eq (.nil))))))))) ?_ ?_
 exact .t (fun _ w hn k => ⟨_, v_build (ps := [(0, iv 1)]) rfl (parts1 rfl) (by kernel_rfl), rfl⟩) <| .o1 (ck rfl rfl rfl (fun _ w hn k => ⟨#[iv 0], args1 rfl, fun _ => by kernel_rfl, lwhole_c 0 _ ⟩) fun _ => rfl) <| .o1 (ck rfl rfl rfl (fun _ w hn k => ⟨#[vv (Vl.mk 1 0 0 false [] [] 0) none 0 none 0, vv (Vl.mk 3 0 0 false [] [] 0) none 0 none 0], args2 (k.eq1 0 43 rfl) (k.eq1 1 44 rfl), fun _ => by kernel_rfl, first_l3 _ _ _ _ _ _ _ _ _ (SRow.nil _ _) (SRow.nil _ _) (SRow.nil _ _) (SRow.nil _ _)⟩) fun _ => rfl) <| .m (fun k => k.eq1 2 45 rfl) <| .t (fun _ w hn k => ⟨_, v_extract rfl (k.eq1 3 42 rfl) rfl, rfl⟩) <| .t (fun _ w hn k => ⟨_, v_extract rfl (k.eq1 3 42 rfl) rfl, rfl⟩) <| .a (fun k => k.eq1 4 46 rfl) <| .a (fun k => k.eq1 5 47 rfl) .nil
 refine aftI ax a3 a4 fun d2 d3 ay a8 a9 ba ac => ?_
 have cp := ac.fx 1 cf
 have cq := ac.fx 2 ch
 have cr := ac.fx 4 ci
 have ct := ac.fx 6 cj
 have cu := ac.fx 7 cl
 have cv := ac.fx 8 cm
 have cw := ac.fx 9 cn
 have cx := ac.fx 10 co
 have cy := ac.ge 6 11 rfl
 have cz := ac.ge 7 12 rfl
 have bb := a6.new_ ba
 refine st_nil (a7 _ _ (wp_seq_k fun d4 bd => ?_))
 refine wp_g0 [true, true, true, true, true, true, true] [] 94
   [ve (vv (Vl.mk 3 0 (-1) false [] [] 0) none 0 none 0), ve (.tuple #[iv 0, iv 2]), ve (.tuple #[iv 0, iv 2]), ve (iv 0), ve (iv 2), ve (iv 0), ve (iv 2)] ay (.eq (.eq (.eq (.eq (.eq (.eq (.eq (.nil)))))))) ?_ ?_
 exact .o1 (ck rfl rfl rfl (fun _ w hn k => ⟨#[iv (-1)], args1 rfl, fun _ => by kernel_rfl, lwhole_c (-1) _ ⟩) fun _ => rfl) <| .o1 (ck rfl rfl rfl (fun _ w hn k => ⟨#[vv (Vl.mk 3 0 (-1) false [] [] 0) none 0 none 0], args1 (k.eq1 0 49 rfl), fun _ => by kernel_rfl, first_i1 _ _ _ _ _ (SRow.nil _ _) (SRow.nil _ _)⟩) fun _ => rfl) <| .m (fun k => k.eq1 1 50 rfl) <| .t (fun _ w hn k => ⟨_, v_extract rfl (k.eq1 2 48 rfl) rfl, rfl⟩) <| .t (fun _ w hn k => ⟨_, v_extract rfl (k.eq1 2 48 rfl) rfl, rfl⟩) <| .a (fun k => k.eq1 3 51 rfl) <| .a (fun k => k.eq1 4 52 rfl) .nil
 refine aftI ay a8 a9 fun d5 d6 az be bf bg aa => ?_
 have cA := aa.fx 1 cp
 have cB := aa.fx 2 cq
 have cC := aa.fx 4 cr
 have cD := aa.fx 6 ct
 have cE := aa.fx 7 cu
 have cF := aa.fx 8 cv
 have cG := aa.fx 9 cw
 have cH := aa.fx 10 cx
 have cI := aa.fx 11 cy
 have cJ := aa.fx 12 cz
 have cK := aa.ge 6 14 rfl
 have bh := bb.new_ bg
 refine st_nil (bd _ _ (wp_seq_k fun d7 bi => ?_))
 refine wp_g0 (.replicate 42 true) [] 94
   [ve (iv 0), vT, vT, ve (.pointer (some ⟨aB, 1, none⟩)), ve (iv 12), vT, vT, vT, ve (iv 3), vT, vT, vT, ve (iv 1), vT, vT, vT, ve (iv 0), vT, vT, vT, vT, vT, vT, ve (iv 0), vT, vT, vT, vT, vT, vT, ve (iv 0), vT, vT, vT, vF, vT, vT, vT, ve (iv 2), vT, vT, vT] az (.eq (.eq (.eq (.eq (.eq (.eq (.eq (.eq (.eq (.eq (.eq (.eq (.eq (.eq (.eq (.eq (.eq (.eq (.eq (.eq (.eq (.eq (.eq (.eq (.eq (.eq (.eq (.eq (.eq (.eq (.eq (.eq (.eq (.eq (.eq (.eq (.eq (.eq (.eq (.eq (.eq (.eq (.nil))))))))))))))))))))))))))))))))))))))))))) ?_ ?_
 exact .m (fun k => k.fx 2 cB) <| .t (fun _ w hn k => ⟨_, v_bin rfl (k.eq1 0 53 rfl) rfl (fun _ => rfl) (fun w => by kernel_rfl), rfl⟩) <| .m (fun k => k.eq1 1 54 rfl) <| .gf (fun k => k.eq1 2 55 rfl) (fun k => k.fx 1 cA) <| .g (fun k => k.eq1 2 55 rfl) (fun _ w hn k => ⟨_, v_load rfl (k.eq1 3 56 rfl) (l_one Tryd.isAgg3 ((bh.new_ hn).cell 1)), rfl⟩) <| .g (fun k => k.eq1 2 55 rfl) (fun _ w hn k => ⟨_, v_bin rfl (k.eq1 4 57 rfl) rfl (fun _ => rfl) (fun w => by kernel_rfl), rfl⟩) <| .t (fun _ w hn k => ⟨_, v_pickT rfl (k.eq1 2 55 rfl) (k.eq1 5 58 rfl), rfl⟩) <| .m (fun k => k.eq1 6 59 rfl) <| .gm (fun k => k.eq1 7 60 rfl) (fun k => k.fx 4 cC) <| .g (fun k => k.eq1 7 60 rfl) (fun _ w hn k => ⟨_, v_bin rfl (k.eq1 8 61 rfl) rfl (fun _ => rfl) (fun w => by kernel_rfl), rfl⟩) <| .t (fun _ w hn k => ⟨_, v_pickT rfl (k.eq1 7 60 rfl) (k.eq1 9 62 rfl), rfl⟩) <| .m (fun k => k.eq1 10 63 rfl) <| .gm (fun k => k.eq1 11 64 rfl) (fun k => k.fx 6 cD) <| .g (fun k => k.eq1 11 64 rfl) (fun _ w hn k => ⟨_, v_bin rfl (k.eq1 12 65 rfl) rfl (fun _ => rfl) (fun w => by kernel_rfl), rfl⟩) <| .t (fun _ w hn k => ⟨_, v_pickT rfl (k.eq1 11 64 rfl) (k.eq1 13 66 rfl), rfl⟩) <| .m (fun k => k.eq1 14 67 rfl) <| .gm (fun k => k.eq1 15 68 rfl) (fun k => k.fx 8 cF) <| .g (fun k => k.eq1 15 68 rfl) (fun _ w hn k => ⟨_, v_bin rfl (k.eq1 16 69 rfl) rfl (fun _ => rfl) (fun w => by kernel_rfl), rfl⟩) <| .t (fun _ w hn k => ⟨_, v_pickT rfl (k.eq1 15 68 rfl) (k.eq1 17 70 rfl), rfl⟩) <| .m (fun k => k.eq1 18 71 rfl) <| .gm (fun k => k.eq1 19 72 rfl) (fun k => k.fx 7 cE) <| .t (fun _ w hn k => ⟨_, v_pickT rfl (k.eq1 19 72 rfl) (k.eq1 20 73 rfl), rfl⟩) <| .m (fun k => k.eq1 21 74 rfl) <| .gm (fun k => k.eq1 22 75 rfl) (fun k => k.fx 10 cH) <| .g (fun k => k.eq1 22 75 rfl) (fun _ w hn k => ⟨_, v_bin rfl (k.eq1 23 76 rfl) rfl (fun _ => rfl) (fun w => by kernel_rfl), rfl⟩) <| .t (fun _ w hn k => ⟨_, v_pickT rfl (k.eq1 22 75 rfl) (k.eq1 24 77 rfl), rfl⟩) <| .m (fun k => k.eq1 25 78 rfl) <| .gm (fun k => k.eq1 26 79 rfl) (fun k => k.fx 9 cG) <| .t (fun _ w hn k => ⟨_, v_pickT rfl (k.eq1 26 79 rfl) (k.eq1 27 80 rfl), rfl⟩) <| .m (fun k => k.eq1 28 81 rfl) <| .gm (fun k => k.eq1 29 82 rfl) (fun k => k.fx 12 cJ) <| .g (fun k => k.eq1 29 82 rfl) (fun _ w hn k => ⟨_, v_bin rfl (k.eq1 30 83 rfl) rfl (fun _ => rfl) (fun w => by kernel_rfl), rfl⟩) <| .t (fun _ w hn k => ⟨_, v_pickT rfl (k.eq1 29 82 rfl) (k.eq1 31 84 rfl), rfl⟩) <| .m (fun k => k.eq1 32 85 rfl) <| .gm (fun k => k.eq1 33 86 rfl) (fun k => k.fx 11 cI) <| .g (fun k => k.eq1 33 86 rfl) (fun _ w hn k => ⟨_, v_not rfl (k.eq1 34 87 rfl), rfl⟩) <| .t (fun _ w hn k => ⟨_, v_pickT rfl (k.eq1 33 86 rfl) (k.eq1 35 88 rfl), rfl⟩) <| .m (fun k => k.eq1 36 89 rfl) <| .gm (fun k => k.eq1 37 90 rfl) (fun k => k.fx 14 cK) <| .g (fun k => k.eq1 37 90 rfl) (fun _ w hn k => ⟨_, v_bin rfl (k.eq1 38 91 rfl) rfl (fun _ => rfl) (fun w => by kernel_rfl), rfl⟩) <| .t (fun _ w hn k => ⟨_, v_pickT rfl (k.eq1 37 90 rfl) (k.eq1 39 92 rfl), rfl⟩) <| .a (fun k => k.eq1 40 93 rfl) .nil
 refine aftI az be bf fun d8 d9 dJ bj bk dK bl => ?_
 have cL := bl.ge 41 0 rfl
 refine st_nil (bi _ _ ?_)
 refine wp_ret (ret_k bj (v := .bool true) (res_t rfl cL _) ?_)
 exact ⟨rfl, bk⟩
end Go.Proofs.YtecgdgjlmlpcnaaDoor
