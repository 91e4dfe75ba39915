import Derived.Test.YtecgdgjlmlpcnaaCcd
namespace Go.Proofs.Ytecgdgjlmlpcnaa
open Go.RowKit
set_option linter.unusedSimpArgs false
set_option linter.unusedVariables false
set_option maxHeartbeats 16000000
set_option maxRecDepth 100000
theorem qnumber_c0 (v : Vl) (Av : Option Addr) (cv : Nat) (Bv : Option Addr) (dv : Nat) (w : World) (hmv : SRow w .u32 Av v.mag cv) (hsv : SRow w .u16 Bv v.s dv) (hvv : VOk v) : Calls Try.prog 53 #[vv v Av cv Bv dv] w (IsRet (.tuple #[nv ((numberR v).1), iv ((numberR v).2)]) w) := by
 refine enter_abs Try.func53 rfl fun a0 aZ gh hp => ?_
 have aZ : a0.tmps.size = 40 := aZ
 have bE : New w w := Upd.refl _ _
 have hp0 : a0.eval (.tmp 0) = vv v Av cv Bv dv := hp 0 _ rfl
 refine wp_seq_k fun K1 gi => ?_
 refine wp_g [true, true, true] [] [] 40
   [IsNew w 32 [iv v.k, iv v.nk, iv v.nn, .bool v.neg, sv Av v.mag cv, sv Bv v.s dv, iv v.ref], IsNew w 23 [iv 0, iv 0], ve (iv 0)]
   [0, 1] (newsCons (fun v w h => IsNew.old h) (newsCons (fun v w h => IsNew.old h) newsNil)) aZ (.nw (.nw (.eq (.nil)))) ?_ (fun i h => by cases h) ?_
 exact .o2 (step_allocN (cs := [iv v.k, iv v.nk, iv v.nn, .bool v.neg, sv Av v.mag cv, sv Bv v.s dv, iv v.ref]) (t := 32) rfl (noG rfl) (fun _ w hn k => v_box rfl (k.fx 0 hp0) (fun w => rfl)) (fun q _ hq hb => ⟨q, rfl, hq, hb⟩)) <| .o2 (step_allocN (cs := [iv 0, iv 0]) (t := 23) rfl (noG rfl) (fun _ w hn k => rfl) (fun q _ hq hb => ⟨q, rfl, hq, hb⟩)) <| .t (fun _ w hn k => ⟨_, v_assign rfl rfl, rfl⟩) .nil
 refine aftI aZ gh bE fun a2 w3 eZ gj aK hR bF => ?_
 obtain ⟨q9, h8, e8, e9⟩ : IsNew _ _ _ _ _ := bF.got 0 1 rfl (by kernel_rfl)
 obtain ⟨bG, e0, fa, bH⟩ : IsNew _ _ _ _ _ := bF.got 1 2 rfl (by kernel_rfl)
 have hne16 : q9 ≠ bG := bF.ne 0 1 1 2 h8 e0
 have gI := Nat.le_trans bE.size e8
 have gJ := Nat.le_trans bE.size fa
 refine st_nil (gi _ _ (wp_seq_k fun hS fb => ?_))
 refine wp_g [true, true, true, false] [] [(3, false)] 40
   [ve (vv v Av cv Bv dv),
    (VP (cleanV v)), IsNew w3 32 [iv 0, iv 0, iv 0, .bool false, sv none ([]) 0, sv none ([]) 0, iv 0], vt]
   [2] (newsCons (fun v w h => IsNew.old h) newsNil) eZ (.eq (.cons (fun v W W' hn ⟨A5, c6, A7, c8, he, h0, h1⟩ => ⟨A5, c6, A7, c8, he, h0.new_ hn, h1.new_ hn⟩) (.nw (.tt (.nil))))) ?_ (fun i h => by cases h) ?_
 refine .t (fun _ w hn k => ⟨_, v_load rfl (k.fx 1 h8) (l_agg Try.isAgg32 Try.sizeOf32 (e9.new_ hn) rfl), rfl⟩) ?_
 refine .o1 (tkC rfl (noG rfl) rfl fun _ w hn k => (by
       refine ⟨#[vv v Av cv Bv dv], _, args1 (k.eq1 0 7 rfl), fun w => by kernel_rfl, qgood_c v _ _ _ _ _ (hmv.new_ (aK.transNew hn)) (hsv.new_ (aK.transNew hn)), ?_⟩
       rintro e w' ⟨A1, c2, A3, c4, rfl, hmo0, hmo1, hm⟩
       exact ⟨_, rfl, hm, ⟨A1, c2, A3, c4, rfl, hmo0, hmo1⟩⟩)) ?_
 exact .o2 (step_allocN (cs := [iv 0, iv 0, iv 0, .bool false, sv none ([]) 0, sv none ([]) 0, iv 0]) (t := 32) rfl (noG rfl) (fun _ w hn k => rfl) (fun q _ hq hb => ⟨q, rfl, hq, hb⟩)) <| .off .nil
 refine aftI eZ gj aK fun gk hT bI fc fd fe aU => ?_
 have gl := aU.fx 2 e0
 obtain ⟨bJ, aV, aT, aI, bK, ff, fg⟩ : (VP (cleanV v)) _ _ := aU.got 1 8 rfl (by kernel_rfl)
 have bK : gk.eval (.tmp 8) = vv (cleanV v) bJ aV aT aI := bK
 obtain ⟨aJ, bL, bM, aW⟩ : IsNew _ _ _ _ _ := aU.got 2 4 rfl (by kernel_rfl)
 have fh := bH.new_ fe
 have hne40 : bG ≠ aJ := by have h1 := bH.lt; have h2 := bM; omega
 have gK := Nat.le_trans aK.size bM
 obtain ⟨gm, cT, cU, aX, fi⟩ := s_many (P := Try.prog) (t := 32) (i := 0) [iv ((cleanV v).k), iv ((cleanV v).nk), iv ((cleanV v).nn), .bool ((cleanV v).neg), sv bJ ((cleanV v).mag) aV, sv aT ((cleanV v).s) aI, iv ((cleanV v).ref)] Try.sizeOf32 rfl rfl rfl aW lb
 have bN : Blk gm aJ 32 [iv ((cleanV v).k), iv ((cleanV v).nk), iv ((cleanV v).nn), .bool ((cleanV v).neg), sv bJ ((cleanV v).mag) aV, sv aT ((cleanV v).s) aI, iv ((cleanV v).ref)] := cU
 refine st_act rfl rfl fun hU fj => a_store' rfl bL bK cT (fj _ _ trivial ?_)
 have fk := ff.far aW aX (by first | rfl | decide | simp [notK])
 have fl := fg.far aW aX (by first | rfl | decide | simp [notK])
 have fm := fi _ _ _ (hne40) fh
 have fn := fd.trans aX (fun _ h b => by subst b; omega)
 refine st_nil (fb _ _ (wp_seq_k fun hV bO => ?_))
 refine wp_seq_k fun hW fo => ?_
 refine wp_g0 [true, true] [] 40
   [ve (pv aJ), ve (iv ((cleanV v).k))] bI (.eq (.eq (.nil))) ?_ ?_
 exact .f (fun k => k.fx 4 bL) <| .t (fun _ w hn k => ⟨_, v_load rfl (k.eq1 0 9 rfl) (l_one Try.isAgg3 ((bN.new_ hn).cell 0)), rfl⟩) .nil
 refine aftI bI fc fn fun hX hY bP fp fq aL aY => ?_
 have gn := aY.fx 2 gl
 have go := aY.fx 4 bL
 have e1 := aY.ge 1 10 rfl
 have fr := fm.new_ aL
 have fs := bN.new_ aL
 have ft := fk.new_ aL
 have fu := fl.new_ aL
 refine st_nil (fo _ _ ?_)
 refine wp_block ?_
 refine wp_seq_k fun hZ fv => ?_
 refine wp_g0 [true, true] [] 40
   [ve (.bool (decide (((cleanV v).k) = 0))), ve (.bool (decide (((cleanV v).k) = 0)))] bP (.eq (.eq (.nil))) ?_ ?_
 exact .t (fun _ w hn k => ⟨_, v_bin rfl (k.fx 10 e1) rfl (fun _ => rfl) (r_eql rfl), rfl⟩) <| .a (fun k => k.eq1 0 12 rfl) .nil
 refine aftI bP fp fq fun h3 h4 aM bQ bR aN aO => ?_
 have e2 := aO.fx 2 gn
 have gp := aO.fx 4 go
 have e3 := aO.fx 10 e1
 have e4 := aO.ge 1 11 rfl
 have bS := fr.new_ aN
 have fw := fs.new_ aN
 have fy := ft.new_ aN
 have fz := fu.new_ aN
 refine st_nil (fv _ _ ?_)
 rcases bc (decide (((cleanV v).k) = 0)) with ac | ac
 have cV := oT ac
 have fA := hB e4 ac
 refine wp_cond_true fA ?_
 refine wp_seq_k fun h5 fB => ?_
 refine wp_g0 [true, false, false] [(1, false), (2, true)] 40
   [ve (nv (Nm.mk 2 0)), vt, vt] aM (.eq (.tt (.tt (.nil)))) ?_ ?_
 exact .o1 (ck rfl rfl rfl (fun _ w hn k => ⟨#[], rfl, fun _ => by kernel_rfl, rNaN_c  _ ⟩) fun _ => rfl) <| .off <| .off .nil
 refine aftI aM bQ bR fun e5 h6 bT fC fD fE bU => ?_
 have e6 := bU.fx 2 e2
 have e7 := bU.ge 0 13 rfl
 have fF := bS.new_ fE
 obtain ⟨h7, -, bV, cW, cX, gq⟩ := s_two (v0 := iv 2) (v1 := iv 0) Try.sizeOf23 rfl rfl rfl fF
 refine st_act rfl rfl fun gL cY => a_store' rfl e6 e7 bV (cY _ _ trivial ?_)
 have cZ := fD.trans cX (fun _ h b => by subst b; omega)
 refine st_take rfl rfl (y_assign (v := iv 0) rfl rfl) rfl ?_
 obtain ⟨fG, ah⟩ : ∃ a', a' = e5.put (some 3) (iv 0) := ⟨_, rfl⟩
 have gr := pz ah bT
 have c0 := pd ah fC
 have fH := pn ah e6 (by decide)
 have gM := pn ah e7 (by decide)
 have fI : fG.eval (.tmp 3) = iv 0 := by rw [ah]; exact put_same _ _ _ (by rw [bT]; decide)
 show stepsTo _ _ _ _ _ (e5.put (some 3) (iv 0)) _
 rw [← ah]
 refine st_nil (fB _ _ ?_)
 refine wp_ret (ret_k c0 (v := .tuple #[nv (Nm.mk 2 0), iv 0]) (res_ct rfl fH fI (l_two Try.isAgg23 Try.sizeOf23 cW)) ?_)
 refine ⟨?_, cZ⟩
 show Ending.returned (.tuple #[nv (Nm.mk 2 0), iv 0]) = Ending.returned (.tuple #[nv ((numberR v).1), iv ((numberR v).2)])
 first | rfl | (simp only [numberR, ac, bsm] <;> rfl) | (exfalso; omega)
 have cV := oF ac
 have c1 := hB e4 ac
 refine wp_cond_false c1 ?_
 refine wp_seq_k fun gN c3 => ?_
 refine wp_g0 [true, true] [] 40
   [ve (.bool (decide (((cleanV v).k) = 1))), ve (.bool (decide (((cleanV v).k) = 1)))] aM (.eq (.eq (.nil))) ?_ ?_
 exact .t (fun _ w hn k => ⟨_, v_bin rfl (k.fx 10 e3) rfl (fun _ => rfl) (r_eql rfl), rfl⟩) <| .a (fun k => k.eq1 0 15 rfl) .nil
 refine aftI aM bQ bR fun gO gP aq a1 a3 ar au => ?_
 have bW := au.fx 2 e2
 have fJ := au.fx 4 gp
 have bX := au.fx 10 e3
 have bY := au.ge 1 14 rfl
 have a4 := bS.new_ ar
 have c5 := fw.new_ ar
 have c7 := fy.new_ ar
 have c9 := fz.new_ ar
 refine st_nil (c3 _ _ ?_)
 rcases bc (decide (((cleanV v).k) = 1)) with aa | aa
 have bZ := oT aa
 have da := hB bY aa
 refine wp_cond_true da ?_
 refine wp_seq_k fun gQ db => ?_
 refine wp_g0 [true, false, false] [(1, false), (2, true)] 40
   [ve (nv (Nm.mk 0 0)), vt, vt] aq (.eq (.tt (.tt (.nil)))) ?_ ?_
 exact .t (fun _ w hn k => ⟨_, v_build (ps := []) rfl parts0 (by kernel_rfl), rfl⟩) <| .off <| .off .nil
 refine aftI aq a1 a3 fun b0 gR a5 dc dd de a6 => ?_
 have b1 := a6.fx 2 bW
 have b2 := a6.ge 0 16 rfl
 have df := a4.new_ de
 obtain ⟨gS, -, b3, dg, dh, gs⟩ := s_two (v0 := iv 0) (v1 := iv 0) Try.sizeOf23 rfl rfl rfl df
 refine st_act rfl rfl fun gT di => a_store' rfl b1 b2 b3 (di _ _ trivial ?_)
 have dj := dd.trans dh (fun _ h b => by subst b; omega)
 refine st_take rfl rfl (y_assign (v := iv 0) rfl rfl) rfl ?_
 obtain ⟨fK, ai⟩ : ∃ a', a' = b0.put (some 3) (iv 0) := ⟨_, rfl⟩
 have gt := pz ai a5
 have dk := pd ai dc
 have fL := pn ai b1 (by decide)
 have gU := pn ai b2 (by decide)
 have fM : fK.eval (.tmp 3) = iv 0 := by rw [ai]; exact put_same _ _ _ (by rw [a5]; decide)
 show stepsTo _ _ _ _ _ (b0.put (some 3) (iv 0)) _
 rw [← ai]
 refine st_nil (db _ _ ?_)
 refine wp_ret (ret_k dk (v := .tuple #[nv (Nm.mk 0 0), iv 0]) (res_ct rfl fL fM (l_two Try.isAgg23 Try.sizeOf23 dg)) ?_)
 refine ⟨?_, dj⟩
 show Ending.returned (.tuple #[nv (Nm.mk 0 0), iv 0]) = Ending.returned (.tuple #[nv ((numberR v).1), iv ((numberR v).2)])
 first | rfl | (simp only [numberR, ac, aa, bsm] <;> rfl) | (exfalso; omega)
 have bZ := oF aa
 have dl := hB bY aa
 refine wp_cond_false dl ?_
 refine wp_seq_k fun gV dm => ?_
 refine wp_g0 [true, true] [] 40
   [ve (.bool (decide (((cleanV v).k) = 2))), ve (.bool (decide (((cleanV v).k) = 2)))] aq (.eq (.eq (.nil))) ?_ ?_
 exact .t (fun _ w hn k => ⟨_, v_bin rfl (k.fx 10 bX) rfl (fun _ => rfl) (r_eql rfl), rfl⟩) <| .a (fun k => k.eq1 0 18 rfl) .nil
 refine aftI aq a1 a3 fun gW gX av a7 a8 aw ax => ?_
 have b4 := ax.fx 2 bW
 have b5 := ax.fx 4 fJ
 have b6 := ax.fx 10 bX
 have b7 := ax.ge 1 17 rfl
 have a9 := a4.new_ aw
 have ba := c5.new_ aw
 have dn := c7.new_ aw
 have dp := c9.new_ aw
 refine st_nil (dm _ _ ?_)
 rcases bc (decide (((cleanV v).k) = 2)) with ab | ab
 have b8 := oT ab
 have dq := hB b7 ab
 refine wp_cond_true dq ?_
 refine wp_seq_k fun gY dr => ?_
 refine wp_g0 [true, true, true, false, false] [(3, false), (4, true)] 40
   [ve (.pointer (some ⟨aJ, 6, none⟩)), ve (iv ((cleanV v).ref)), ve (nv (Nm.mk 0 ((cleanV v).ref))), vt, vt] av (.eq (.eq (.eq (.tt (.tt (.nil)))))) ?_ ?_
 exact .f (fun k => k.fx 4 b5) <| .t (fun _ w hn k => ⟨_, v_load rfl (k.eq1 0 19 rfl) (l_one Try.isAgg3 ((ba.new_ hn).cell 6)), rfl⟩) <| .t (fun _ w hn k => ⟨_, v_build (ps := [(1, iv ((cleanV v).ref))]) rfl (parts1 (k.eq1 1 20 rfl)) (by kernel_rfl), rfl⟩) <| .off <| .off .nil
 refine aftI av a7 a8 fun b9 gZ bb ds dt du bd => ?_
 have ca := bd.fx 2 b4
 have cb := bd.ge 2 21 rfl
 have dw := a9.new_ du
 obtain ⟨g0, -, cc, dx, dy, gu⟩ := s_two (v0 := iv 0) (v1 := iv ((cleanV v).ref)) Try.sizeOf23 rfl rfl rfl dw
 refine st_act rfl rfl fun g1 dz => a_store' rfl ca cb cc (dz _ _ trivial ?_)
 have dA := dt.trans dy (fun _ h b => by subst b; omega)
 refine st_take rfl rfl (y_assign (v := iv 0) rfl rfl) rfl ?_
 obtain ⟨fN, aj⟩ : ∃ a', a' = b9.put (some 3) (iv 0) := ⟨_, rfl⟩
 have gv := pz aj bb
 have dB := pd aj ds
 have fO := pn aj ca (by decide)
 have g2 := pn aj cb (by decide)
 have fP : fN.eval (.tmp 3) = iv 0 := by rw [aj]; exact put_same _ _ _ (by rw [bb]; decide)
 show stepsTo _ _ _ _ _ (b9.put (some 3) (iv 0)) _
 rw [← aj]
 refine st_nil (dr _ _ ?_)
 refine wp_ret (ret_k dB (v := .tuple #[nv (Nm.mk 0 ((cleanV v).ref)), iv 0]) (res_ct rfl fO fP (l_two Try.isAgg23 Try.sizeOf23 dx)) ?_)
 refine ⟨?_, dA⟩
 show Ending.returned (.tuple #[nv (Nm.mk 0 ((cleanV v).ref)), iv 0]) = Ending.returned (.tuple #[nv ((numberR v).1), iv ((numberR v).2)])
 first | rfl | (simp only [numberR, ac, aa, ab, bsm] <;> rfl) | (exfalso; omega)
 have b8 := oF ab
 have dC := hB b7 ab
 refine wp_cond_false dC ?_
 refine wp_seq_k fun g3 dD => ?_
 refine wp_g0 [true, true] [] 40
   [ve (.bool (decide (((cleanV v).k) = 3))), ve (.bool (decide (((cleanV v).k) = 3)))] av (.eq (.eq (.nil))) ?_ ?_
 exact .t (fun _ w hn k => ⟨_, v_bin rfl (k.fx 10 b6) rfl (fun _ => rfl) (r_eql rfl), rfl⟩) <| .a (fun k => k.eq1 0 23 rfl) .nil
 refine aftI av a7 a8 fun g4 g5 ay be bf az aA => ?_
 have cd := aA.fx 2 b4
 have ce := aA.fx 4 b5
 have cf := aA.fx 10 b6
 have ch := aA.ge 1 22 rfl
 have bg := a9.new_ az
 have bh := ba.new_ az
 have dE := dn.new_ az
 have dF := dp.new_ az
 refine st_nil (dD _ _ ?_)
 rcases bc (decide (((cleanV v).k) = 3)) with ad | ad
 have ci := oT ad
 have dG := hB ch ad
 refine wp_cond_true dG ?_
 refine wp_seq_k fun g6 dH => ?_
 refine wp_g0 [true, true, false, false] [(2, false), (3, true)] 40
   [ve (.pointer (some ⟨aJ, 1, none⟩)), ve (nv (Nm.mk ((cleanV v).nk) ((cleanV v).nn))), vt, vt] ay (.eq (.eq (.tt (.tt (.nil))))) ?_ ?_
 exact .f (fun k => k.fx 4 ce) <| .t (fun _ w hn k => ⟨_, v_load rfl (k.eq1 0 24 rfl) (l_part Try.isAgg23 Try.sizeOf23 (bh.new_ hn) lb), rfl⟩) <| .off <| .off .nil
 refine aftI ay be bf fun cj g7 bi dI dJ dK bj => ?_
 have cl := bj.fx 2 cd
 have cm := bj.ge 1 25 rfl
 have dL := bg.new_ dK
 obtain ⟨g8, -, cn, dM, dN, gw⟩ := s_two (v0 := iv ((cleanV v).nk)) (v1 := iv ((cleanV v).nn)) Try.sizeOf23 rfl rfl rfl dL
 refine st_act rfl rfl fun g9 dO => a_store' rfl cl cm cn (dO _ _ trivial ?_)
 have dP := dJ.trans dN (fun _ h b => by subst b; omega)
 refine st_take rfl rfl (y_assign (v := iv 0) rfl rfl) rfl ?_
 obtain ⟨fQ, ak⟩ : ∃ a', a' = cj.put (some 3) (iv 0) := ⟨_, rfl⟩
 have gx := pz ak bi
 have dQ := pd ak dI
 have fR := pn ak cl (by decide)
 have ha := pn ak cm (by decide)
 have fS : fQ.eval (.tmp 3) = iv 0 := by rw [ak]; exact put_same _ _ _ (by rw [bi]; decide)
 show stepsTo _ _ _ _ _ (cj.put (some 3) (iv 0)) _
 rw [← ak]
 refine st_nil (dH _ _ ?_)
 refine wp_ret (ret_k dQ (v := .tuple #[nv (Nm.mk ((cleanV v).nk) ((cleanV v).nn)), iv 0]) (res_ct rfl fR fS (l_two Try.isAgg23 Try.sizeOf23 dM)) ?_)
 refine ⟨?_, dP⟩
 show Ending.returned (.tuple #[nv (Nm.mk ((cleanV v).nk) ((cleanV v).nn)), iv 0]) = Ending.returned (.tuple #[nv ((numberR v).1), iv ((numberR v).2)])
 first | rfl | (simp only [numberR, ac, aa, ab, ad, bsm] <;> rfl) | (exfalso; omega)
 have ci := oF ad
 have dR := hB ch ad
 refine wp_cond_false dR ?_
 refine wp_seq_k fun hc dS => ?_
 refine wp_g0 [true, true] [] 40
   [ve (.bool (decide (((cleanV v).k) = 4))), ve (.bool (decide (((cleanV v).k) = 4)))] ay (.eq (.eq (.nil))) ?_ ?_
 exact .t (fun _ w hn k => ⟨_, v_bin rfl (k.fx 10 cf) rfl (fun _ => rfl) (r_eql rfl), rfl⟩) <| .a (fun k => k.eq1 0 27 rfl) .nil
 refine aftI ay be bf fun hd hf aB bk bl aC aD => ?_
 have co := aD.fx 2 cd
 have fT := aD.fx 4 ce
 have fU := aD.fx 10 cf
 have cp := aD.ge 1 26 rfl
 have bm := bg.new_ aC
 have dT := bh.new_ aC
 have dU := dE.new_ aC
 have dV := dF.new_ aC
 refine st_nil (dS _ _ ?_)
 rcases bc (decide (((cleanV v).k) = 4)) with ae | ae
 have cq := oT ae
 have dW := hB cp ae
 refine wp_cond_true dW ?_
 refine wp_seq_k fun hg dX => ?_
 refine wp_g0 [true, false, false] [(1, false), (2, true)] 40
   [ve (nv (Nm.mk 0 0)), vt, vt] aB (.eq (.tt (.tt (.nil)))) ?_ ?_
 exact .t (fun _ w hn k => ⟨_, v_build (ps := []) rfl parts0 (by kernel_rfl), rfl⟩) <| .off <| .off .nil
 refine aftI aB bk bl fun cr hh bn dY dZ d0 bo => ?_
 have ct := bo.fx 2 co
 have cu := bo.ge 0 28 rfl
 have d1 := bm.new_ d0
 obtain ⟨hi, -, cw, d2, d3, gy⟩ := s_two (v0 := iv 0) (v1 := iv 0) Try.sizeOf23 rfl rfl rfl d1
 refine st_act rfl rfl fun hj d4 => a_store' rfl ct cu cw (d4 _ _ trivial ?_)
 have d5 := dZ.trans d3 (fun _ h b => by subst b; omega)
 refine st_take rfl rfl (y_assign (v := iv 1) rfl rfl) rfl ?_
 obtain ⟨fV, al⟩ : ∃ a', a' = cr.put (some 3) (iv 1) := ⟨_, rfl⟩
 have gz := pz al bn
 have d6 := pd al dY
 have fW := pn al ct (by decide)
 have hl := pn al cu (by decide)
 have fX : fV.eval (.tmp 3) = iv 1 := by rw [al]; exact put_same _ _ _ (by rw [bn]; decide)
 show stepsTo _ _ _ _ _ (cr.put (some 3) (iv 1)) _
 rw [← al]
 refine st_nil (dX _ _ ?_)
 refine wp_ret (ret_k d6 (v := .tuple #[nv (Nm.mk 0 0), iv 1]) (res_ct rfl fW fX (l_two Try.isAgg23 Try.sizeOf23 d2)) ?_)
 refine ⟨?_, d5⟩
 show Ending.returned (.tuple #[nv (Nm.mk 0 0), iv 1]) = Ending.returned (.tuple #[nv ((numberR v).1), iv ((numberR v).2)])
 first | rfl | (simp only [numberR, ac, aa, ab, ad, ae, bsm] <;> rfl) | (exfalso; omega)
 have cq := oF ae
 have d7 := hB cp ae
 refine wp_cond_false d7 ?_
 refine wp_seq_k fun ho d8 => ?_
 refine wp_g0 [true, true] [] 40
   [ve (.bool (decide (((cleanV v).k) = 5))), ve (.bool (decide (((cleanV v).k) = 5)))] aB (.eq (.eq (.nil))) ?_ ?_
 exact .t (fun _ w hn k => ⟨_, v_bin rfl (k.fx 10 fU) rfl (fun _ => rfl) (r_eql rfl), rfl⟩) <| .a (fun k => k.eq1 0 30 rfl) .nil
 refine aftI aB bk bl fun hr fY aE bp aP aF aQ => ?_
 have cx := aQ.fx 2 co
 have fZ := aQ.fx 4 fT
 have cy := aQ.ge 1 29 rfl
 have aR := bm.new_ aF
 have d9 := dT.new_ aF
 have gA := dU.new_ aF
 have ea := dV.new_ aF
 refine st_nil (d8 _ _ ?_)
 rcases bc (decide (((cleanV v).k) = 5)) with af | af
 have cz := oT af
 have eb := hB cy af
 refine wp_cond_true eb ?_
 refine wp_seq_k fun hs ec => ?_
 refine wp_g [true, true, true, true, true, true, true, false, false] [5] [(7, false), (8, true)] 40
   [ve (.pointer (some ⟨aJ, 5, none⟩)), ve (sv aT ((cleanV v).s) aI), ve (.tuple #[nv ((numT ((cleanV v).s)).1), .bool ((numT ((cleanV v).s)).2)]), ve (.tuple #[nv ((numT ((cleanV v).s)).1), .bool ((numT ((cleanV v).s)).2)]), ve (nv ((numT ((cleanV v).s)).1)), ve (.bool ((numT ((cleanV v).s)).2)), IsNew fY 23 [iv 0, iv 0], vt, vt]
   [6] (newsCons (fun v w h => IsNew.old h) newsNil) aE (.eq (.eq (.eq (.eq (.eq (.eq (.nw (.tt (.tt (.nil)))))))))) ?_ ?_ ?_
 refine .f (fun k => k.fx 4 fZ) <| .t (fun _ w hn k => ⟨_, v_load rfl (k.eq1 0 32 rfl) (l_one Try.isAgg27 ((d9.new_ hn).cell 5)), rfl⟩) <| .o1 (ck rfl rfl rfl (fun _ w hn k => ⟨#[sv aT ((cleanV v).s) aI], args1 (k.eq1 1 33 rfl), fun _ => by kernel_rfl, rnumber3_c _ ((cleanV v).s) _ _ (ea.new_ hn) hvv.clean.units⟩) fun _ => rfl) <| .m (fun k => k.eq1 2 34 rfl) <| .t (fun _ w hn k => ⟨_, v_extract rfl (k.eq1 3 31 rfl) rfl, rfl⟩) ?_
 refine .o3 ?_
 exact .o2 (step_allocN (cs := [iv 0, iv 0]) (t := 23) rfl (noG rfl) (fun _ w hn k => rfl) (fun q _ hq hb => ⟨q, rfl, hq, hb⟩)) <| .off <| .off .nil
 intro i h
 simp only [List.contains_eq_mem, List.mem_cons, List.not_mem_nil, or_false, decide_eq_true_eq] at h
 subst h
 exact eager_take rfl rfl fun _ w hn k => ⟨.bool ((numT ((cleanV v).s)).2), fun w => v_extract rfl (k.eq1 3 31 rfl) rfl, rfl⟩
 refine aftI aE bp aP fun cA ht bq ed ee ef aG => ?_
 have f0 := aG.fx 2 cx
 have cB := aG.ge 4 35 rfl
 have cC := aG.ge 5 36 rfl
 obtain ⟨f1, cD, br, eg⟩ : IsNew _ _ _ _ _ := aG.got 6 5 rfl (by kernel_rfl)
 have eh := aR.new_ ef
 have hne327 : bG ≠ f1 := by have h1 := aR.lt; have h2 := br; omega
 have gB := Nat.le_trans aP.size br
 obtain ⟨hu, -, cE, ei, ej, ek⟩ := s_two (v0 := iv ((numT ((cleanV v).s)).1.k)) (v1 := iv ((numT ((cleanV v).s)).1.n)) Try.sizeOf23 rfl rfl rfl eg
 refine st_act rfl rfl fun hv el => a_store' rfl cD cB cE (el _ _ trivial ?_)
 have em := ek _ _ _ (hne327) eh
 have en := ee.trans ej (fun _ h b => by subst b; omega)
 refine st_take rfl rfl (y_assign (v := .bool ((numT ((cleanV v).s)).2)) rfl cC) rfl ?_
 obtain ⟨f2, ag⟩ : ∃ a', a' = cA.put (some 6) (.bool ((numT ((cleanV v).s)).2)) := ⟨_, rfl⟩
 have bs := pz ag bq
 have eo := pd ag ed
 have f3 := pn ag f0 (by decide)
 have hw := pn ag cB (by decide)
 have hx := pn ag cC (by decide)
 have f4 := pn ag cD (by decide)
 have f5 : f2.eval (.tmp 6) = .bool ((numT ((cleanV v).s)).2) := by rw [ag]; exact put_same _ _ _ (by rw [bq]; decide)
 show stepsTo _ _ _ _ _ (cA.put (some 6) (.bool ((numT ((cleanV v).s)).2))) _
 rw [← ag]
 refine st_nil (ec _ _ (wp_seq_k fun hy ep => ?_))
 refine wp_g0 [true] [] 40
   [ve (.bool ((numT ((cleanV v).s)).2))] bs (.eq (.nil)) ?_ ?_
 exact .m (fun k => k.fx 6 f5) .nil
 refine aftI bs eo en fun hz hA aH bt bu bv aS => ?_
 have cF := aS.fx 2 f3
 have f6 := aS.fx 5 f4
 have cG := aS.ge 0 37 rfl
 have bw := em.new_ bv
 have er := ei.new_ bv
 refine st_nil (ep _ _ ?_)
 rcases bc ((numT ((cleanV v).s)).2) with ap | ap
 have es := hB cG ap
 refine wp_cond_true es ?_
 refine wp_seq_k fun hC et => ?_
 refine wp_g0 [true, false, false] [(1, false), (2, true)] 40
   [ve (nv ((numT ((cleanV v).s)).1)), vt, vt] aH (.eq (.tt (.tt (.nil)))) ?_ ?_
 exact .t (fun _ w hn k => ⟨_, v_load rfl (k.fx 5 f6) (l_two Try.isAgg23 Try.sizeOf23 (er.new_ hn)), rfl⟩) <| .off <| .off .nil
 refine aftI aH bt bu fun cH hD bx eu ev ew bz => ?_
 have cI := bz.fx 2 cF
 have cJ := bz.ge 0 38 rfl
 have ex := bw.new_ ew
 obtain ⟨hE, -, cK, ey, ez, gC⟩ := s_two (v0 := iv ((numT ((cleanV v).s)).1.k)) (v1 := iv ((numT ((cleanV v).s)).1.n)) Try.sizeOf23 rfl rfl rfl ex
 refine st_act rfl rfl fun hF eA => a_store' rfl cI cJ cK (eA _ _ trivial ?_)
 have eB := ev.trans ez (fun _ h b => by subst b; omega)
 refine st_take rfl rfl (y_assign (v := iv 0) rfl rfl) rfl ?_
 obtain ⟨f7, am⟩ : ∃ a', a' = cH.put (some 3) (iv 0) := ⟨_, rfl⟩
 have gD := pz am bx
 have eC := pd am eu
 have f8 := pn am cI (by decide)
 have hG := pn am cJ (by decide)
 have f9 : f7.eval (.tmp 3) = iv 0 := by rw [am]; exact put_same _ _ _ (by rw [bx]; decide)
 show stepsTo _ _ _ _ _ (cH.put (some 3) (iv 0)) _
 rw [← am]
 refine st_nil (et _ _ ?_)
 refine wp_ret (ret_k eC (v := .tuple #[nv ((numT ((cleanV v).s)).1), iv 0]) (res_ct rfl f8 f9 (l_two Try.isAgg23 Try.sizeOf23 ey)) ?_)
 refine ⟨?_, eB⟩
 show Ending.returned (.tuple #[nv ((numT ((cleanV v).s)).1), iv 0]) = Ending.returned (.tuple #[nv ((numberR v).1), iv ((numberR v).2)])
 first | rfl | (simp only [numberR, ac, aa, ab, ad, ae, af, ap, bsm] <;> rfl) | (exfalso; omega)
 have eD := hB cG ap
 refine wp_cond_false eD ?_
 refine wp_skip ?_
 refine bO _ _ ?_
 refine wp_seq_k fun hH eE => ?_
 refine wp_g0 [true, false, false] [(1, false), (2, true)] 40
   [ve (nv (Nm.mk 0 0)), vt, vt] aH (.eq (.tt (.tt (.nil)))) ?_ ?_
 exact .t (fun _ w hn k => ⟨_, v_build (ps := []) rfl parts0 (by kernel_rfl), rfl⟩) <| .off <| .off .nil
 refine aftI aH bt bu fun cL hI bA eF eG eH bB => ?_
 have cM := bB.fx 2 cF
 have cN := bB.ge 0 39 rfl
 have eI := bw.new_ eH
 obtain ⟨hJ, -, cO, eJ, eK, gE⟩ := s_two (v0 := iv 0) (v1 := iv 0) Try.sizeOf23 rfl rfl rfl eI
 refine st_act rfl rfl fun hK eL => a_store' rfl cM cN cO (eL _ _ trivial ?_)
 have eM := eG.trans eK (fun _ h b => by subst b; omega)
 refine st_take rfl rfl (y_assign (v := iv 3) rfl rfl) rfl ?_
 obtain ⟨ga, an⟩ : ∃ a', a' = cL.put (some 3) (iv 3) := ⟨_, rfl⟩
 have gF := pz an bA
 have eN := pd an eF
 have gb := pn an cM (by decide)
 have hL := pn an cN (by decide)
 have gc : ga.eval (.tmp 3) = iv 3 := by rw [an]; exact put_same _ _ _ (by rw [bA]; decide)
 show stepsTo _ _ _ _ _ (cL.put (some 3) (iv 3)) _
 rw [← an]
 refine st_nil (eE _ _ ?_)
 refine wp_ret (ret_k eN (v := .tuple #[nv (Nm.mk 0 0), iv 3]) (res_ct rfl gb gc (l_two Try.isAgg23 Try.sizeOf23 eJ)) ?_)
 refine ⟨?_, eM⟩
 show Ending.returned (.tuple #[nv (Nm.mk 0 0), iv 3]) = Ending.returned (.tuple #[nv ((numberR v).1), iv ((numberR v).2)])
 first | rfl | (simp only [numberR, ac, aa, ab, ad, ae, af, ap, bsm] <;> rfl) | (exfalso; omega)
 have cz := oF af
 have eO := hB cy af
 refine wp_cond_false eO ?_
 refine wp_skip ?_
 refine bO _ _ ?_
 refine wp_seq_k fun hM eP => ?_
 refine wp_g0 [true, false, false] [(1, false), (2, true)] 40
   [ve (nv (Nm.mk 0 0)), vt, vt] aE (.eq (.tt (.tt (.nil)))) ?_ ?_
 exact .t (fun _ w hn k => ⟨_, v_build (ps := []) rfl parts0 (by kernel_rfl), rfl⟩) <| .off <| .off .nil
 refine aftI aE bp aP fun cP hN bC eQ eR eS bD => ?_
 have cQ := bD.fx 2 cx
 have cR := bD.ge 0 39 rfl
 have eT := aR.new_ eS
 obtain ⟨hO, -, cS, eU, eV, gG⟩ := s_two (v0 := iv 0) (v1 := iv 0) Try.sizeOf23 rfl rfl rfl eT
 refine st_act rfl rfl fun hP eW => a_store' rfl cQ cR cS (eW _ _ trivial ?_)
 have eX := eR.trans eV (fun _ h b => by subst b; omega)
 refine st_take rfl rfl (y_assign (v := iv 3) rfl rfl) rfl ?_
 obtain ⟨gd, ao⟩ : ∃ a', a' = cP.put (some 3) (iv 3) := ⟨_, rfl⟩
 have gH := pz ao bC
 have eY := pd ao eQ
 have gf := pn ao cQ (by decide)
 have hQ := pn ao cR (by decide)
 have gg : gd.eval (.tmp 3) = iv 3 := by rw [ao]; exact put_same _ _ _ (by rw [bC]; decide)
 show stepsTo _ _ _ _ _ (cP.put (some 3) (iv 3)) _
 rw [← ao]
 refine st_nil (eP _ _ ?_)
 refine wp_ret (ret_k eY (v := .tuple #[nv (Nm.mk 0 0), iv 3]) (res_ct rfl gf gg (l_two Try.isAgg23 Try.sizeOf23 eU)) ?_)
 refine ⟨?_, eX⟩
 show Ending.returned (.tuple #[nv (Nm.mk 0 0), iv 3]) = Ending.returned (.tuple #[nv ((numberR v).1), iv ((numberR v).2)])
 first | rfl | (simp only [numberR, ac, aa, ab, ad, ae, af, bsm] <;> rfl) | (exfalso; omega)
theorem qnumber_c (v : Vl) (Av : Option Addr) (cv : Nat) (Bv : Option Addr) (dv : Nat) (w : World) (hmv : SRow w .u32 Av v.mag cv) (hsv : SRow w .u16 Bv v.s dv) (hvv : VOk v) : Calls Try.prog 53 #[vv v Av cv Bv dv] w (IsRet (.tuple #[nv ((numberV v).1), iv ((numberV v).2)]) w) := by
  have h := qnumber_c0 v Av cv Bv dv w hmv hsv hvv
  rw [numberR_eq] at h
  exact h
theorem qstrict_c (v : Vl) (Av : Option Addr) (cv : Nat) (Bv : Option Addr) (dv : Nat) (u : Vl) (Au : Option Addr) (cu : Nat) (Bu : Option Addr) (du : Nat) (w : World) (hmv : SRow w .u32 Av v.mag cv) (hsv : SRow w .u16 Bv v.s dv) (hmu : SRow w .u32 Au u.mag cu) (hsu : SRow w .u16 Bu u.s du) : Calls Try.prog 12 #[vv v Av cv Bv dv, vv u Au cu Bu du] w (IsRet (.bool (strictV v u)) w) := by
 refine enter_abs Try.func12 rfl fun a0 aG ca hp => ?_
 have aG : a0.tmps.size = 27 := aG
 have aM : New w w := Upd.refl _ _
 have hp0 : a0.eval (.tmp 0) = vv v Av cv Bv dv := hp 0 _ rfl
 have hp1 : a0.eval (.tmp 1) = vv u Au cu Bu du := hp 1 _ rfl
 refine wp_seq_k fun K1 cb => ?_
 refine wp_g [true, true, true] [] [] 27
   [IsNew w 32 [iv v.k, iv v.nk, iv v.nn, .bool v.neg, sv Av v.mag cv, sv Bv v.s dv, iv v.ref], IsNew w 32 [iv u.k, iv u.nk, iv u.nn, .bool u.neg, sv Au u.mag cu, sv Bu u.s du, iv u.ref], vF]
   [0, 1] (newsCons (fun v w h => IsNew.old h) (newsCons (fun v w h => IsNew.old h) newsNil)) aG (.nw (.nw (.eq (.nil)))) ?_ (fun i h => by cases h) ?_
 exact .o2 (step_allocN (cs := [iv v.k, iv v.nk, iv v.nn, .bool v.neg, sv Av v.mag cv, sv Bv v.s dv, iv v.ref]) (t := 32) rfl (noG rfl) (fun _ w hn k => v_box rfl (k.fx 0 hp0) (fun w => rfl)) (fun q _ hq hb => ⟨q, rfl, hq, hb⟩)) <| .o2 (step_allocN (cs := [iv u.k, iv u.nk, iv u.nn, .bool u.neg, sv Au u.mag cu, sv Bu u.s du, iv u.ref]) (t := 32) rfl (noG rfl) (fun _ w hn k => v_box rfl (k.fx 1 hp1) (fun w => rfl)) (fun q _ hq hb => ⟨q, rfl, hq, hb⟩)) <| .t (fun _ w hn k => ⟨_, v_assign rfl rfl, rfl⟩) .nil
 refine aftI aG ca aM fun a2 w3 bu cc ae cZ bv => ?_
 obtain ⟨q9, h8, bz, bA⟩ : IsNew _ _ _ _ _ := bv.got 0 2 rfl (by kernel_rfl)
 obtain ⟨c0, cd, bB, bC⟩ : IsNew _ _ _ _ _ := bv.got 1 3 rfl (by kernel_rfl)
 have cG := Nat.le_trans aM.size bz
 have cH := Nat.le_trans aM.size bB
 refine st_nil (cb _ _ (wp_seq_k fun c1 bD => ?_))
 refine wp_g [true, true, true, true, true, true, false, false] [] [(6, false), (7, false)] 27
   [ve (vv v Av cv Bv dv),
    (VP (cleanV v)), ve (vv u Au cu Bu du),
    (VP (cleanV u)), IsNew w3 32 [iv 0, iv 0, iv 0, .bool false, sv none ([]) 0, sv none ([]) 0, iv 0], IsNew w3 32 [iv 0, iv 0, iv 0, .bool false, sv none ([]) 0, sv none ([]) 0, iv 0], vt, vt]
   [4, 5] (newsCons (fun v w h => IsNew.old h) (newsCons (fun v w h => IsNew.old h) newsNil)) bu (.eq (.cons (fun v W W' hn ⟨A5, c6, A7, c8, he, h0, h1⟩ => ⟨A5, c6, A7, c8, he, h0.new_ hn, h1.new_ hn⟩) (.eq (.cons (fun v W W' hn ⟨ce, cf, ch, ci, he, h0, h1⟩ => ⟨ce, cf, ch, ci, he, h0.new_ hn, h1.new_ hn⟩) (.nw (.nw (.tt (.tt (.nil))))))))) ?_ (fun i h => by cases h) ?_
 refine .t (fun _ w hn k => ⟨_, v_load rfl (k.fx 2 h8) (l_agg Try.isAgg32 Try.sizeOf32 (bA.new_ hn) rfl), rfl⟩) ?_
 refine .o1 (tkC rfl (noG rfl) rfl fun _ w hn k => (by
       refine ⟨#[vv v Av cv Bv dv], _, args1 (k.eq1 0 7 rfl), fun w => by kernel_rfl, qgood_c v _ _ _ _ _ (hmv.new_ (ae.transNew hn)) (hsv.new_ (ae.transNew hn)), ?_⟩
       rintro e w' ⟨A1, c2, A3, c4, rfl, hmo0, hmo1, hm⟩
       exact ⟨_, rfl, hm, ⟨A1, c2, A3, c4, rfl, hmo0, hmo1⟩⟩)) ?_
 refine .t (fun _ w hn k => ⟨_, v_load rfl (k.fx 3 cd) (l_agg Try.isAgg32 Try.sizeOf32 (bC.new_ hn) rfl), rfl⟩) ?_
 refine .o1 (tkC rfl (noG rfl) rfl fun _ w hn k => (by
       refine ⟨#[vv u Au cu Bu du], _, args1 (k.eq1 2 9 rfl), fun w => by kernel_rfl, qgood_c u _ _ _ _ _ (hmu.new_ (ae.transNew hn)) (hsu.new_ (ae.transNew hn)), ?_⟩
       rintro e w' ⟨A9, cj, cl, cm, rfl, hmo0, hmo1, hm⟩
       exact ⟨_, rfl, hm, ⟨A9, cj, cl, cm, rfl, hmo0, hmo1⟩⟩)) ?_
 exact .o2 (step_allocN (cs := [iv 0, iv 0, iv 0, .bool false, sv none ([]) 0, sv none ([]) 0, iv 0]) (t := 32) rfl (noG rfl) (fun _ w hn k => rfl) (fun q _ hq hb => ⟨q, rfl, hq, hb⟩)) <| .o2 (step_allocN (cs := [iv 0, iv 0, iv 0, .bool false, sv none ([]) 0, sv none ([]) 0, iv 0]) (t := 32) rfl (noG rfl) (fun _ w hn k => rfl) (fun q _ hq hb => ⟨q, rfl, hq, hb⟩)) <| .off <| .off .nil
 refine aftI bu cc ae fun bw c3 av aN bE cI ah => ?_
 obtain ⟨aA, ai, aB, aj, aO, bF, bG⟩ : (VP (cleanV v)) _ _ := ah.got 1 8 rfl (by kernel_rfl)
 have aO : bw.eval (.tmp 8) = vv (cleanV v) aA ai aB aj := aO
 obtain ⟨aC, ak, aD, al, aP, bH, bI⟩ : (VP (cleanV u)) _ _ := ah.got 3 10 rfl (by kernel_rfl)
 have aP : bw.eval (.tmp 10) = vv (cleanV u) aC ak aD al := aP
 obtain ⟨aq, ar, bJ, am⟩ : IsNew _ _ _ _ _ := ah.got 4 5 rfl (by kernel_rfl)
 obtain ⟨aE, au, bK, bL⟩ : IsNew _ _ _ _ _ := ah.got 5 6 rfl (by kernel_rfl)
 have hne48 : aq ≠ aE := ah.ne 4 5 5 6 ar au
 have cJ := Nat.le_trans ae.size bJ
 have cK := Nat.le_trans ae.size bK
 obtain ⟨cn, a4, a5, an, bM⟩ := s_many (P := Try.prog) (t := 32) (i := 0) [iv ((cleanV v).k), iv ((cleanV v).nk), iv ((cleanV v).nn), .bool ((cleanV v).neg), sv aA ((cleanV v).mag) ai, sv aB ((cleanV v).s) aj, iv ((cleanV v).ref)] Try.sizeOf32 rfl rfl rfl am lb
 have bN : Blk cn aq 32 [iv ((cleanV v).k), iv ((cleanV v).nk), iv ((cleanV v).nn), .bool ((cleanV v).neg), sv aA ((cleanV v).mag) ai, sv aB ((cleanV v).s) aj, iv ((cleanV v).ref)] := a5
 refine st_act rfl rfl fun c5 bO => a_store' rfl ar aO a4 (bO _ _ trivial ?_)
 have bP := bF.far am an (by first | rfl | decide | simp [notK])
 have bQ := bG.far am an (by first | rfl | decide | simp [notK])
 have bR := bH.far am an (by first | rfl | decide | simp [notK])
 have bS := bI.far am an (by first | rfl | decide | simp [notK])
 have ao := bM _ _ _ (fun h => hne48 h.symm) bL
 have bT := bE.trans an (fun _ h b => by subst b; omega)
 obtain ⟨co, a6, a7, ap, bU⟩ := s_many (P := Try.prog) (t := 32) (i := 0) [iv ((cleanV u).k), iv ((cleanV u).nk), iv ((cleanV u).nn), .bool ((cleanV u).neg), sv aC ((cleanV u).mag) ak, sv aD ((cleanV u).s) al, iv ((cleanV u).ref)] Try.sizeOf32 rfl rfl rfl ao lb
 have aw : Blk co aE 32 [iv ((cleanV u).k), iv ((cleanV u).nk), iv ((cleanV u).nn), .bool ((cleanV u).neg), sv aC ((cleanV u).mag) ak, sv aD ((cleanV u).s) al, iv ((cleanV u).ref)] := a7
 refine st_act rfl rfl fun c7 bV => a_store' rfl au aP a6 (bV _ _ trivial ?_)
 have aQ := bP.far ao ap (by first | rfl | decide | simp [notK])
 have aR := bQ.far ao ap (by first | rfl | decide | simp [notK])
 have aS := bR.far ao ap (by first | rfl | decide | simp [notK])
 have aT := bS.far ao ap (by first | rfl | decide | simp [notK])
 have ax := bU _ _ _ (hne48) bN
 have aU := bT.trans ap (fun _ h b => by subst b; omega)
 refine st_nil (bD _ _ (wp_seq_k fun c9 bW => ?_))
 refine wp_seq_k fun da aV => ?_
 rcases bc (decide (((cleanV v).k) = ((cleanV u).k))) with ab | ab
 have a8 := oT ab
 refine wp_g0 [true, true, true, true, true] [] 27
   [ve (pv aq), ve (iv ((cleanV v).k)), ve (pv aE), ve (iv ((cleanV u).k)), vF] av (.eq (.eq (.eq (.eq (.eq (.nil)))))) ?_ ?_
 exact .f (fun k => k.fx 5 ar) <| .t (fun _ w hn k => ⟨_, v_load rfl (k.eq1 0 11 rfl) (l_one Try.isAgg3 ((ax.new_ hn).cell 0)), rfl⟩) <| .f (fun k => k.fx 6 au) <| .t (fun _ w hn k => ⟨_, v_load rfl (k.eq1 2 13 rfl) (l_one Try.isAgg3 ((aw.new_ hn).cell 0)), rfl⟩) <| .t (fun _ w hn k => ⟨_, v_bin rfl (k.eq1 1 12 rfl) (k.eq1 3 14 rfl) (fun _ => rfl) (r_neq ab), rfl⟩) .nil
 refine aftI av aN aU fun db dc aW bX bY af aF => ?_
 have bx := aF.fx 5 ar
 have cp := aF.fx 6 au
 have cq := aF.ge 4 15 rfl
 have aX := ax.new_ af
 have bZ := aw.new_ af
 have b0 := aQ.new_ af
 have b1 := aR.new_ af
 have b2 := aS.new_ af
 have b3 := aT.new_ af
 refine st_nil (aV _ _ ?_)
 refine wp_cond_false cq ?_
 refine wp_skip ?_
 refine bW _ _ ?_
 refine wp_seq_k fun dd b4 => ?_
 refine wp_seq_k fun de b5 => ?_
 refine wp_g0 [true, true, true] [] 27
   [ve (pv aq), ve (iv ((cleanV v).k)), ve (.bool (decide (((cleanV v).k) = 3)))] aW (.eq (.eq (.eq (.nil)))) ?_ ?_
 exact .f (fun k => k.fx 5 bx) <| .t (fun _ w hn k => ⟨_, v_load rfl (k.eq1 0 16 rfl) (l_one Try.isAgg3 ((aX.new_ hn).cell 0)), rfl⟩) <| .t (fun _ w hn k => ⟨_, v_bin rfl (k.eq1 1 17 rfl) rfl (fun _ => rfl) (r_eql rfl), rfl⟩) .nil
 refine aftI aW bX bY fun df cL ag aH aI ac ay => ?_
 have aY := ay.fx 5 bx
 have aZ := ay.fx 6 cp
 have a1 := ay.ge 2 18 rfl
 have aJ := aX.new_ ac
 have aK := bZ.new_ ac
 have a9 := b0.new_ ac
 have ba := b1.new_ ac
 have bb := b2.new_ ac
 have bd := b3.new_ ac
 refine st_nil (b5 _ _ ?_)
 rcases bc (decide (((cleanV v).k) = 3)) with aa | aa
 have a3 := oT aa
 have be := hB a1 aa
 refine wp_cond_true be ?_
 refine wp_seq_k fun cM bf => ?_
 refine wp_g0 [true, true, true, true, true, true] [] 27
   [ve (.pointer (some ⟨aq, 1, none⟩)), ve (nv (Nm.mk ((cleanV v).nk) ((cleanV v).nn))), ve (.pointer (some ⟨aE, 1, none⟩)), ve (nv (Nm.mk ((cleanV u).nk) ((cleanV u).nn))), ve (.bool (equalM (Nm.mk ((cleanV v).nk) ((cleanV v).nn)) (Nm.mk ((cleanV u).nk) ((cleanV u).nn)))), ve (.bool (equalM (Nm.mk ((cleanV v).nk) ((cleanV v).nn)) (Nm.mk ((cleanV u).nk) ((cleanV u).nn))))] ag (.eq (.eq (.eq (.eq (.eq (.eq (.nil))))))) ?_ ?_
 exact .f (fun k => k.fx 5 aY) <| .t (fun _ w hn k => ⟨_, v_load rfl (k.eq1 0 19 rfl) (l_part Try.isAgg23 Try.sizeOf23 (aJ.new_ hn) lb), rfl⟩) <| .f (fun k => k.fx 6 aZ) <| .t (fun _ w hn k => ⟨_, v_load rfl (k.eq1 2 21 rfl) (l_part Try.isAgg23 Try.sizeOf23 (aK.new_ hn) lb), rfl⟩) <| .o1 (ck rfl rfl rfl (fun _ w hn k => ⟨#[nv (Nm.mk ((cleanV v).nk) ((cleanV v).nn)), nv (Nm.mk ((cleanV u).nk) ((cleanV u).nn))], args2 (k.eq1 1 20 rfl) (k.eq1 3 22 rfl), fun _ => by kernel_rfl, requal_c (Nm.mk ((cleanV v).nk) ((cleanV v).nn)) (Nm.mk ((cleanV u).nk) ((cleanV u).nn)) _ ⟩) fun _ => rfl) <| .a (fun k => k.eq1 4 23 rfl) .nil
 refine aftI ag aH aI fun cN cO cr bg bh ct bi => ?_
 have b6 := bi.ge 5 4 rfl
 refine st_nil (bf _ _ ?_)
 refine wp_ret (ret_k bg (v := .bool (equalM (Nm.mk ((cleanV v).nk) ((cleanV v).nn)) (Nm.mk ((cleanV u).nk) ((cleanV u).nn)))) (res_t rfl b6 _) ?_)
 refine ⟨?_, bh⟩
 show Ending.returned (.bool (equalM (Nm.mk ((cleanV v).nk) ((cleanV v).nn)) (Nm.mk ((cleanV u).nk) ((cleanV u).nn)))) = Ending.returned (.bool (strictV v u))
 first | rfl | (simp only [strictV, ab, aa, bsm] <;> rfl) | (exfalso; omega)
 have a3 := oF aa
 have bj := hB a1 aa
 refine wp_cond_false bj ?_
 refine wp_skip ?_
 refine b4 _ _ ?_
 refine wp_seq_k fun cP bk => ?_
 refine wp_g0 [true, true, true, true] [] 27
   [ve (vv (cleanV v) aA ai aB aj), ve (vv (cleanV u) aC ak aD al), ve (.bool (sameV (cleanV v) (cleanV u))), ve (.bool (sameV (cleanV v) (cleanV u)))] ag (.eq (.eq (.eq (.eq (.nil))))) ?_ ?_
 exact .t (fun _ w hn k => ⟨_, v_load rfl (k.fx 5 aY) (l_agg Try.isAgg32 Try.sizeOf32 (aJ.new_ hn) rfl), rfl⟩) <| .t (fun _ w hn k => ⟨_, v_load rfl (k.fx 6 aZ) (l_agg Try.isAgg32 Try.sizeOf32 (aK.new_ hn) rfl), rfl⟩) <| .o1 (ck rfl rfl rfl (fun _ w hn k => ⟨#[vv (cleanV v) aA ai aB aj, vv (cleanV u) aC ak aD al], args2 (k.eq1 0 24 rfl) (k.eq1 1 25 rfl), fun _ => by kernel_rfl, qsame_c (cleanV v) _ _ _ _ (cleanV u) _ _ _ _ _ (a9.new_ hn) (ba.new_ hn) (bb.new_ hn) (bd.new_ hn)⟩) fun _ => rfl) <| .a (fun k => k.eq1 2 26 rfl) .nil
 refine aftI ag aH aI fun cQ cR cw bl bm cx bn => ?_
 have b7 := bn.ge 3 4 rfl
 refine st_nil (bk _ _ ?_)
 refine wp_ret (ret_k bl (v := .bool (sameV (cleanV v) (cleanV u))) (res_t rfl b7 _) ?_)
 refine ⟨?_, bm⟩
 show Ending.returned (.bool (sameV (cleanV v) (cleanV u))) = Ending.returned (.bool (strictV v u))
 first | rfl | (simp only [strictV, ab, aa, bsm] <;> rfl) | (exfalso; omega)
 have a8 := oF ab
 refine wp_g0 [true, true, true, true, true] [] 27
   [ve (pv aq), ve (iv ((cleanV v).k)), ve (pv aE), ve (iv ((cleanV u).k)), vT] av (.eq (.eq (.eq (.eq (.eq (.nil)))))) ?_ ?_
 exact .f (fun k => k.fx 5 ar) <| .t (fun _ w hn k => ⟨_, v_load rfl (k.eq1 0 11 rfl) (l_one Try.isAgg3 ((ax.new_ hn).cell 0)), rfl⟩) <| .f (fun k => k.fx 6 au) <| .t (fun _ w hn k => ⟨_, v_load rfl (k.eq1 2 13 rfl) (l_one Try.isAgg3 ((aw.new_ hn).cell 0)), rfl⟩) <| .t (fun _ w hn k => ⟨_, v_bin rfl (k.eq1 1 12 rfl) (k.eq1 3 14 rfl) (fun _ => rfl) (r_neq ab), rfl⟩) .nil
 refine aftI av aN aU fun cS cT aL bo bp ad az => ?_
 have cU := az.fx 5 ar
 have cV := az.fx 6 au
 have b8 := az.ge 4 15 rfl
 have cy := ax.new_ ad
 have cz := aw.new_ ad
 have cA := aQ.new_ ad
 have cB := aR.new_ ad
 have cC := aS.new_ ad
 have cD := aT.new_ ad
 refine st_nil (aV _ _ ?_)
 refine wp_cond_true b8 ?_
 refine wp_seq_k fun cW bq => ?_
 refine wp_g0 [true] [] 27
   [vF] aL (.eq (.nil)) ?_ ?_
 exact .t (fun _ w hn k => ⟨_, v_assign rfl rfl, rfl⟩) .nil
 refine aftI aL bo bp fun cX cY cE br bs cF bt => ?_
 have b9 := bt.ge 0 4 rfl
 refine st_nil (bq _ _ ?_)
 refine wp_ret (ret_k br (v := .bool false) (res_t rfl b9 _) ?_)
 refine ⟨?_, bs⟩
 show Ending.returned (.bool false) = Ending.returned (.bool (strictV v u))
 first | rfl | (simp only [strictV, ab, bsm] <;> rfl) | (exfalso; omega)
theorem qorder_a (v : Vl) (Av : Option Addr) (cv : Nat) (Bv : Option Addr) (dv : Nat) (u : Vl) (Au : Option Addr) (cu : Nat) (Bu : Option Addr) (du : Nat) (w : World) (hmv : SRow w .u32 Av v.mag cv) (hsv : SRow w .u16 Bv v.s dv) (hmu : SRow w .u32 Au u.mag cu) (hsu : SRow w .u16 Bu u.s du) (hvv : VOk v) (hvu : VOk u) (hk1 : v.k = 4) (hk2 : u.k = 3) : Calls Try.prog 52 #[vv v Av cv Bv dv, vv u Au cu Bu du] w (IsRet (iv (ordB v.neg v.mag u.num)) w) := by
 refine enter_abs Try.func52 rfl fun a0 ap b6 hp => ?_
 have ap : a0.tmps.size = 66 := ap
 have ax : New w w := Upd.refl _ _
 have hp0 : a0.eval (.tmp 0) = vv v Av cv Bv dv := hp 0 _ rfl
 have hp1 : a0.eval (.tmp 1) = vv u Au cu Bu du := hp 1 _ rfl
 have hqv3 : decide (v.k = 3) = false := decide_eq_false (by omega)
 have hqv4 : decide (v.k = 4) = true := decide_eq_true (by omega)
 have hqu3 : decide (u.k = 3) = true := decide_eq_true (by omega)
 have hqu4 : decide (u.k = 4) = false := decide_eq_false (by omega)
 have hnl : (canon u.nn.natAbs).length ≤ 8 := (canon_len8 _).2 (by have := hvu.nlo; have := hvu.nhi; omega)
 have cQ := hvu.nlo
 have cR := hvu.nhi
 have cS := hvv.mlen
 refine wp_seq_k fun K1 b7 => ?_
 refine wp_g [true, true, true] [] [] 66
   [IsNew w 32 [iv v.k, iv v.nk, iv v.nn, .bool v.neg, sv Av v.mag cv, sv Bv v.s dv, iv v.ref], IsNew w 32 [iv u.k, iv u.nk, iv u.nn, .bool u.neg, sv Au u.mag cu, sv Bu u.s du, iv u.ref], ve (iv 0)]
   [0, 1] (newsCons (fun v w h => IsNew.old h) (newsCons (fun v w h => IsNew.old h) newsNil)) ap (.nw (.nw (.eq (.nil)))) ?_ (fun i h => by cases h) ?_
 exact .o2 (step_allocN (cs := [iv v.k, iv v.nk, iv v.nn, .bool v.neg, sv Av v.mag cv, sv Bv v.s dv, iv v.ref]) (t := 32) rfl (noG rfl) (fun _ w hn k => v_box rfl (k.fx 0 hp0) (fun w => rfl)) (fun q _ hq hb => ⟨q, rfl, hq, hb⟩)) <| .o2 (step_allocN (cs := [iv u.k, iv u.nk, iv u.nn, .bool u.neg, sv Au u.mag cu, sv Bu u.s du, iv u.ref]) (t := 32) rfl (noG rfl) (fun _ w hn k => v_box rfl (k.fx 1 hp1) (fun w => rfl)) (fun q _ hq hb => ⟨q, rfl, hq, hb⟩)) <| .t (fun _ w hn k => ⟨_, v_assign rfl rfl, rfl⟩) .nil
 refine aftI ap b6 ax fun a2 w3 bi b8 bq cT bj => ?_
 obtain ⟨q9, h8, br, ay⟩ : IsNew _ _ _ _ _ := bj.got 0 2 rfl (by kernel_rfl)
 obtain ⟨ak, b9, bs, bt⟩ : IsNew _ _ _ _ _ := bj.got 1 3 rfl (by kernel_rfl)
 have cx := Nat.le_trans ax.size br
 have cy := Nat.le_trans ax.size bs
 refine st_nil (b7 _ _ (wp_seq_k fun cU bu => ?_))
 refine wp_seq_k fun cV bv => ?_
 refine wp_g0 (.replicate 8 true) [] 66
   [ve (pv q9), ve (iv v.k), vF, vF, vU, vU, vU, vF] bi (.eq (.eq (.eq (.eq (.eq (.eq (.eq (.eq (.nil))))))))) ?_ ?_
 exact .f (fun k => k.fx 2 h8) <| .t (fun _ w hn k => ⟨_, v_load rfl (k.eq1 0 6 rfl) (l_one Try.isAgg3 ((ay.new_ hn).cell 0)), rfl⟩) <| .t (fun _ w hn k => ⟨_, v_bin rfl (k.eq1 1 7 rfl) rfl (fun _ => rfl) (r_eql hqv3), rfl⟩) <| .m (fun k => k.eq1 2 8 rfl) <| .s (fun k => k.eq1 3 9 rfl) <| .s (fun k => k.eq1 3 9 rfl) <| .s (fun k => k.eq1 3 9 rfl) <| .t (fun _ w hn k => ⟨_, v_pickF rfl (k.eq1 3 9 rfl) rfl, rfl⟩) .nil
 refine aftI bi b8 bq fun cW cX az bw bx aA al => ?_
 have bk := al.fx 2 h8
 have ca := al.fx 3 b9
 have cb := al.ge 7 13 rfl
 have aB := ay.new_ aA
 have bz := bt.new_ aA
 refine st_nil (bv _ _ ?_)
 refine wp_cond_false cb ?_
 refine wp_skip ?_
 refine bu _ _ ?_
 refine wp_seq_k fun cY bA => ?_
 refine wp_seq_k fun cZ bB => ?_
 refine wp_g0 [true, true, true] [] 66
   [ve (pv q9), ve (iv v.k), vF] az (.eq (.eq (.eq (.nil)))) ?_ ?_
 exact .f (fun k => k.fx 2 bk) <| .t (fun _ w hn k => ⟨_, v_load rfl (k.eq1 0 32 rfl) (l_one Try.isAgg3 ((aB.new_ hn).cell 0)), rfl⟩) <| .t (fun _ w hn k => ⟨_, v_bin rfl (k.eq1 1 33 rfl) rfl (fun _ => rfl) (r_eql hqv3), rfl⟩) .nil
 refine aftI az bw bx fun c0 c1 aC bC bD aD am => ?_
 have cc := am.fx 2 bk
 have bl := am.fx 3 ca
 have cd := am.ge 2 34 rfl
 have bE := aB.new_ aD
 have aE := bz.new_ aD
 refine st_nil (bB _ _ ?_)
 refine wp_cond_false cd ?_
 refine wp_skip ?_
 refine bA _ _ ?_
 refine wp_seq_k fun c3 bF => ?_
 refine wp_seq_k fun c5 bG => ?_
 refine wp_g0 [true, true, true] [] 66
   [ve (pv ak), ve (iv u.k), vF] aC (.eq (.eq (.eq (.nil)))) ?_ ?_
 exact .f (fun k => k.fx 3 bl) <| .t (fun _ w hn k => ⟨_, v_load rfl (k.eq1 0 42 rfl) (l_one Try.isAgg3 ((aE.new_ hn).cell 0)), rfl⟩) <| .t (fun _ w hn k => ⟨_, v_bin rfl (k.eq1 1 43 rfl) rfl (fun _ => rfl) (r_eql hqu4), rfl⟩) .nil
 refine aftI aC bC bD fun c7 c8 aF bH bI aG an => ?_
 have ce := an.fx 2 cc
 have bm := an.fx 3 bl
 have cf := an.ge 2 44 rfl
 have bJ := bE.new_ aG
 have aH := aE.new_ aG
 refine st_nil (bG _ _ ?_)
 refine wp_cond_false cf ?_
 refine wp_skip ?_
 refine bF _ _ ?_
 refine wp_seq_k fun c9 bK => ?_
 refine wp_seq_k fun da bL => ?_
 refine wp_g0 [true, true, true] [] 66
   [ve (.pointer (some ⟨ak, 1, none⟩)), ve (.pointer (some ⟨ak, 1, none⟩)), ve (iv u.nk)] aF (.eq (.eq (.eq (.nil)))) ?_ ?_
 exact .f (fun k => k.fx 3 bm) <| .f (fun k => k.eq1 0 50 rfl) <| .t (fun _ w hn k => ⟨_, v_load rfl (k.eq1 1 51 rfl) (l_one Try.isAgg3 ((aH.new_ hn).cell 1)), rfl⟩) .nil
 refine aftI aF bH bI fun db dc aI bM bN aJ ao => ?_
 have ch := ao.fx 2 ce
 have ci := ao.fx 3 bm
 have bn := ao.ge 2 52 rfl
 have bO := bJ.new_ aJ
 have bP := aH.new_ aJ
 refine st_nil (bL _ _ ?_)
 refine wp_block ?_
 refine wp_seq_k fun dd bQ => ?_
 refine wp_g0 [true, true] [] 66
   [ve (.bool (decide (u.nk = 2))), ve (.bool (decide (u.nk = 2)))] aI (.eq (.eq (.nil))) ?_ ?_
 exact .t (fun _ w hn k => ⟨_, v_bin rfl (k.fx 52 bn) rfl (fun _ => rfl) (r_eql rfl), rfl⟩) <| .a (fun k => k.eq1 0 54 rfl) .nil
 refine aftI aI bM bN fun de df ag aK aL aM ah => ?_
 have cj := ah.fx 2 ch
 have cl := ah.fx 3 ci
 have bo := ah.fx 52 bn
 have bp := ah.ge 1 53 rfl
 have bR := bO.new_ aM
 have bS := bP.new_ aM
 refine st_nil (bQ _ _ ?_)
 rcases bc (decide (u.nk = 2)) with ab | ab
 have aR := oT ab
 have bT := hB bp ab
 refine wp_cond_true bT ?_
 refine wp_seq_k fun dg bU => ?_
 refine wp_g0 [true] [] 66
   [ve (iv 2)] ag (.eq (.nil)) ?_ ?_
 exact .t (fun _ w hn k => ⟨_, v_assign rfl rfl, rfl⟩) .nil
 refine aftI ag aK aL fun dh di cz bV bW cA bX => ?_
 have cm := bX.ge 0 4 rfl
 refine st_nil (bU _ _ ?_)
 refine wp_ret (ret_k bV (v := iv 2) (res_t rfl cm _) ?_)
 refine ⟨?_, bW⟩
 show Ending.returned (iv 2) = Ending.returned (iv (ordB v.neg v.mag u.num))
 first | rfl | (simp only [ordB, hqv3, hqv4, hqu3, hqu4, ab, good_canon (z := u.nn) (by omega), bsm] <;> rfl) | (exfalso; omega)
 have aR := oF ab
 have aS := hB bp ab
 refine wp_cond_false aS ?_
 refine wp_seq_k fun cB aT => ?_
 refine wp_g0 [true, true] [] 66
   [ve (.bool (decide (u.nk = 3))), ve (.bool (decide (u.nk = 3)))] ag (.eq (.eq (.nil))) ?_ ?_
 exact .t (fun _ w hn k => ⟨_, v_bin rfl (k.fx 52 bo) rfl (fun _ => rfl) (r_eql rfl), rfl⟩) <| .a (fun k => k.eq1 0 56 rfl) .nil
 refine aftI ag aK aL fun cC cD ad aq ar au ae => ?_
 have bY := ae.fx 2 cj
 have bZ := ae.fx 3 cl
 have b0 := ae.fx 52 bo
 have aN := ae.ge 1 55 rfl
 have aU := bR.new_ au
 have aV := bS.new_ au
 refine st_nil (aT _ _ ?_)
 rcases bc (decide (u.nk = 3)) with aa | aa
 have aO := oT aa
 have aW := hB aN aa
 refine wp_cond_true aW ?_
 refine wp_seq_k fun cE aX => ?_
 refine wp_g0 [true] [] 66
   [ve (iv (-1))] ad (.eq (.nil)) ?_ ?_
 exact .t (fun _ w hn k => ⟨_, v_assign rfl rfl, rfl⟩) .nil
 refine aftI ad aq ar fun cF cG co aY aZ cp a1 => ?_
 have b1 := a1.ge 0 4 rfl
 refine st_nil (aX _ _ ?_)
 refine wp_ret (ret_k aY (v := iv (-1)) (res_t rfl b1 _) ?_)
 refine ⟨?_, aZ⟩
 show Ending.returned (iv (-1)) = Ending.returned (iv (ordB v.neg v.mag u.num))
 first | rfl | (simp only [ordB, hqv3, hqv4, hqu3, hqu4, ab, aa, good_canon (z := u.nn) (by omega), bsm] <;> rfl) | (exfalso; omega)
 have aO := oF aa
 have a3 := hB aN aa
 refine wp_cond_false a3 ?_
 refine wp_seq_k fun cH a4 => ?_
 refine wp_g0 [true, true] [] 66
   [ve (.bool (decide (u.nk = 4))), ve (.bool (decide (u.nk = 4)))] ad (.eq (.eq (.nil))) ?_ ?_
 exact .t (fun _ w hn k => ⟨_, v_bin rfl (k.fx 52 b0) rfl (fun _ => rfl) (r_eql rfl), rfl⟩) <| .a (fun k => k.eq1 0 58 rfl) .nil
 refine aftI ad aq ar fun cI cJ af av ai aw aj => ?_
 have b2 := aj.fx 2 bY
 have b3 := aj.fx 3 bZ
 have aP := aj.ge 1 57 rfl
 have a5 := aU.new_ aw
 have a6 := aV.new_ aw
 refine st_nil (a4 _ _ ?_)
 rcases bc (decide (u.nk = 4)) with ac | ac
 have aQ := oT ac
 have a7 := hB aP ac
 refine wp_cond_true a7 ?_
 refine wp_seq_k fun cK a8 => ?_
 refine wp_g0 [true] [] 66
   [ve (iv 1)] af (.eq (.nil)) ?_ ?_
 exact .t (fun _ w hn k => ⟨_, v_assign rfl rfl, rfl⟩) .nil
 refine aftI af av ai fun cL cM cq a9 ba cr bb => ?_
 have b4 := bb.ge 0 4 rfl
 refine st_nil (a8 _ _ ?_)
 refine wp_ret (ret_k a9 (v := iv 1) (res_t rfl b4 _) ?_)
 refine ⟨?_, ba⟩
 show Ending.returned (iv 1) = Ending.returned (iv (ordB v.neg v.mag u.num))
 first | rfl | (simp only [ordB, hqv3, hqv4, hqu3, hqu4, ab, aa, ac, good_canon (z := u.nn) (by omega), bsm] <;> rfl) | (exfalso; omega)
 have aQ := oF ac
 have bd := hB aP ac
 refine wp_cond_false bd ?_
 refine wp_skip ?_
 refine bK _ _ ?_
 refine wp_seq_k fun cN be => ?_
 refine wp_g0 (.replicate 8 true) [] 66
   [ve (.pointer (some ⟨q9, 3, none⟩)), ve (.agg #[.bool v.neg, sv Av v.mag cv]), ve (.pointer (some ⟨ak, 1, none⟩)), ve (.pointer (some ⟨ak, 2, none⟩)), ve (iv u.nn), (fun (v_ : Value) (W : World) => ∃ (A3 : Option Addr) (c4 : Nat), v_ = .agg #[.bool (decide (u.nn < 0)), sv A3 (canon (u.nn).natAbs) c4] ∧ SRow W .u32 A3 (canon (u.nn).natAbs) c4), ve (iv (cmpZ (goodI v.neg v.mag) (goodI (decide (u.nn < 0)) (canon (u.nn).natAbs)))), ve (iv (cmpZ (goodI v.neg v.mag) (goodI (decide (u.nn < 0)) (canon (u.nn).natAbs))))] af (.eq (.eq (.eq (.eq (.eq (.cons (fun _ _ _ n ⟨_, _, e, h⟩ => ⟨_, _, e, h.new_ n⟩) (.eq (.eq (.nil))))))))) ?_ ?_
 refine .f (fun k => k.fx 2 b2) <| .t (fun _ w hn k => ⟨_, v_load rfl (k.eq1 0 59 rfl) (l_part Try.isAgg26 Try.sizeOf26 (a5.new_ hn) lb), rfl⟩) <| .f (fun k => k.fx 3 b3) <| .f (fun k => k.eq1 2 61 rfl) <| .t (fun _ w hn k => ⟨_, v_load rfl (k.eq1 3 62 rfl) (l_one Try.isAgg3 ((a6.new_ hn).cell 2)), rfl⟩) ?_
 refine .o1 (tkC rfl (noG rfl) rfl fun _ w hn k => (by
       refine ⟨#[iv u.nn], _, args1 (k.eq1 4 63 rfl), fun w => by kernel_rfl, sOf_c u.nn _ (by omega) (by omega), ?_⟩
       rintro e w' ⟨A1, c2, rfl, hmo0, hm⟩
       exact ⟨_, rfl, hm, ⟨A1, c2, rfl, hmo0⟩⟩)) ?_
 refine .o1 (tkC rfl (noG rfl) rfl fun _ w hn k => (by
       obtain ⟨A5, c6, e7, cn⟩ : (fun (v_ : Value) (W : World) => ∃ (A3 : Option Addr) (c4 : Nat), v_ = .agg #[.bool (decide (u.nn < 0)), sv A3 (canon (u.nn).natAbs) c4] ∧ SRow W .u32 A3 (canon (u.nn).natAbs) c4) _ _ := k.dep 5 64 (by kernel_rfl) (by kernel_rfl)
       refine ⟨#[.agg #[.bool v.neg, sv Av v.mag cv], .agg #[.bool (decide (u.nn < 0)), sv A5 (canon (u.nn).natAbs) c6]], _, args2 (k.eq1 1 60 rfl) e7, fun w => by kernel_rfl, sCmp_c v.neg _ v.mag _ (decide (u.nn < 0)) _ (canon (u.nn).natAbs) _ _ (hmv.new_ (ai.transNew hn)) cn hvv.limbs (limbs_canon _), ?_⟩
       rintro e w' ⟨rfl, hm⟩
       exact ⟨_, rfl, hm, rfl⟩)) ?_
 exact .a (fun k => k.eq1 6 65 rfl) .nil
 refine aftI af av ai fun cO cP ct bf bg cw bh => ?_
 have b5 := bh.ge 7 4 rfl
 refine st_nil (be _ _ ?_)
 refine wp_ret (ret_k bf (v := iv (cmpZ (goodI v.neg v.mag) (goodI (decide (u.nn < 0)) (canon (u.nn).natAbs)))) (res_t rfl b5 _) ?_)
 refine ⟨?_, bg⟩
 show Ending.returned (iv (cmpZ (goodI v.neg v.mag) (goodI (decide (u.nn < 0)) (canon (u.nn).natAbs)))) = Ending.returned (iv (ordB v.neg v.mag u.num))
 first | rfl | (simp only [ordB, hqv3, hqv4, hqu3, hqu4, ab, aa, ac, good_canon (z := u.nn) (by omega), bsm] <;> rfl) | (exfalso; omega)
theorem qorder_b (v : Vl) (Av : Option Addr) (cv : Nat) (Bv : Option Addr) (dv : Nat) (u : Vl) (Au : Option Addr) (cu : Nat) (Bu : Option Addr) (du : Nat) (w : World) (hmv : SRow w .u32 Av v.mag cv) (hsv : SRow w .u16 Bv v.s dv) (hmu : SRow w .u32 Au u.mag cu) (hsu : SRow w .u16 Bu u.s du) (hvv : VOk v) (hvu : VOk u) (hk1 : v.k = 3) (hk2 : u.k = 4) : Calls Try.prog 52 #[vv v Av cv Bv dv, vv u Au cu Bu du] w (IsRet (iv (ordC u.neg u.mag v.num)) w) := by
 refine enter_abs Try.func52 rfl fun a0 af a5 hp => ?_
 have af : a0.tmps.size = 66 := af
 have ag : New w w := Upd.refl _ _
 have hp0 : a0.eval (.tmp 0) = vv v Av cv Bv dv := hp 0 _ rfl
 have hp1 : a0.eval (.tmp 1) = vv u Au cu Bu du := hp 1 _ rfl
 have hqv3 : decide (v.k = 3) = true := decide_eq_true (by omega)
 have hqv4 : decide (v.k = 4) = false := decide_eq_false (by omega)
 have hqu3 : decide (u.k = 3) = false := decide_eq_false (by omega)
 have hqu4 : decide (u.k = 4) = true := decide_eq_true (by omega)
 have hob := ordB_bd u.neg u.mag v.num
 refine wp_seq_k fun K1 a6 => ?_
 refine wp_g [true, true, true] [] [] 66
   [IsNew w 32 [iv v.k, iv v.nk, iv v.nn, .bool v.neg, sv Av v.mag cv, sv Bv v.s dv, iv v.ref], IsNew w 32 [iv u.k, iv u.nk, iv u.nn, .bool u.neg, sv Au u.mag cu, sv Bu u.s du, iv u.ref], ve (iv 0)]
   [0, 1] (newsCons (fun v w h => IsNew.old h) (newsCons (fun v w h => IsNew.old h) newsNil)) af (.nw (.nw (.eq (.nil)))) ?_ (fun i h => by cases h) ?_
 exact .o2 (step_allocN (cs := [iv v.k, iv v.nk, iv v.nn, .bool v.neg, sv Av v.mag cv, sv Bv v.s dv, iv v.ref]) (t := 32) rfl (noG rfl) (fun _ w hn k => v_box rfl (k.fx 0 hp0) (fun w => rfl)) (fun q _ hq hb => ⟨q, rfl, hq, hb⟩)) <| .o2 (step_allocN (cs := [iv u.k, iv u.nk, iv u.nn, .bool u.neg, sv Au u.mag cu, sv Bu u.s du, iv u.ref]) (t := 32) rfl (noG rfl) (fun _ w hn k => v_box rfl (k.fx 1 hp1) (fun w => rfl)) (fun q _ hq hb => ⟨q, rfl, hq, hb⟩)) <| .t (fun _ w hn k => ⟨_, v_assign rfl rfl, rfl⟩) .nil
 refine aftI af a5 ag fun a2 w3 av a7 aB br aw => ?_
 obtain ⟨q9, h8, aC, ah⟩ : IsNew _ _ _ _ _ := aw.got 0 2 rfl (by kernel_rfl)
 obtain ⟨a8, ax, aD, ai⟩ : IsNew _ _ _ _ _ := aw.got 1 3 rfl (by kernel_rfl)
 have bi := Nat.le_trans ag.size aC
 have bj := Nat.le_trans ag.size aD
 refine st_nil (a6 _ _ (wp_seq_k fun bs aE => ?_))
 refine wp_seq_k fun bt aF => ?_
 refine wp_g0 (.replicate 8 true) [] 66
   [ve (pv q9), ve (iv v.k), vT, vT, ve (pv a8), ve (iv u.k), vF, vF] av (.eq (.eq (.eq (.eq (.eq (.eq (.eq (.eq (.nil))))))))) ?_ ?_
 exact .f (fun k => k.fx 2 h8) <| .t (fun _ w hn k => ⟨_, v_load rfl (k.eq1 0 6 rfl) (l_one Try.isAgg3 ((ah.new_ hn).cell 0)), rfl⟩) <| .t (fun _ w hn k => ⟨_, v_bin rfl (k.eq1 1 7 rfl) rfl (fun _ => rfl) (r_eql hqv3), rfl⟩) <| .m (fun k => k.eq1 2 8 rfl) <| .gf (fun k => k.eq1 3 9 rfl) (fun k => k.fx 3 ax) <| .g (fun k => k.eq1 3 9 rfl) (fun _ w hn k => ⟨_, v_load rfl (k.eq1 4 10 rfl) (l_one Try.isAgg3 ((ai.new_ hn).cell 0)), rfl⟩) <| .g (fun k => k.eq1 3 9 rfl) (fun _ w hn k => ⟨_, v_bin rfl (k.eq1 5 11 rfl) rfl (fun _ => rfl) (r_eql hqu3), rfl⟩) <| .t (fun _ w hn k => ⟨_, v_pickT rfl (k.eq1 3 9 rfl) (k.eq1 6 12 rfl), rfl⟩) .nil
 refine aftI av a7 aB fun bu bv aj aG aH ak ad => ?_
 have ay := ad.fx 2 h8
 have a9 := ad.fx 3 ax
 have ba := ad.ge 7 13 rfl
 have al := ah.new_ ak
 have aI := ai.new_ ak
 refine st_nil (aF _ _ ?_)
 refine wp_cond_false ba ?_
 refine wp_skip ?_
 refine aE _ _ ?_
 refine wp_seq_k fun bw bk => ?_
 refine wp_seq_k fun bx aJ => ?_
 refine wp_g0 [true, true, true] [] 66
   [ve (pv q9), ve (iv v.k), vT] aj (.eq (.eq (.eq (.nil)))) ?_ ?_
 exact .f (fun k => k.fx 2 ay) <| .t (fun _ w hn k => ⟨_, v_load rfl (k.eq1 0 32 rfl) (l_one Try.isAgg3 ((al.new_ hn).cell 0)), rfl⟩) <| .t (fun _ w hn k => ⟨_, v_bin rfl (k.eq1 1 33 rfl) rfl (fun _ => rfl) (r_eql hqv3), rfl⟩) .nil
 refine aftI aj aG aH fun bz bA am aK ab an ae => ?_
 have bb := ae.fx 2 ay
 have bd := ae.fx 3 a9
 have be := ae.ge 2 34 rfl
 have aL := al.new_ an
 have aM := aI.new_ an
 refine st_nil (aJ _ _ ?_)
 refine wp_cond_true be ?_
 refine wp_seq_k fun bB aN => ?_
 refine wp_g0 [true, true, true, true] [] 66
   [ve (vv u Au cu Bu du), ve (vv v Av cv Bv dv), ve (iv (ordB u.neg u.mag v.num)), ve (iv (ordB u.neg u.mag v.num))] am (.eq (.eq (.eq (.eq (.nil))))) ?_ ?_
 exact .t (fun _ w hn k => ⟨_, v_load rfl (k.fx 3 bd) (l_agg Try.isAgg32 Try.sizeOf32 (aM.new_ hn) rfl), rfl⟩) <| .t (fun _ w hn k => ⟨_, v_load rfl (k.fx 2 bb) (l_agg Try.isAgg32 Try.sizeOf32 (aL.new_ hn) rfl), rfl⟩) <| .o1 (ck rfl rfl rfl (fun _ w hn k => ⟨#[vv u Au cu Bu du, vv v Av cv Bv dv], args2 (k.eq1 0 35 rfl) (k.eq1 1 36 rfl), fun _ => by kernel_rfl, qorder_a u _ _ _ _ v _ _ _ _ _ (hmu.new_ (ab.transNew hn)) (hsu.new_ (ab.transNew hn)) (hmv.new_ (ab.transNew hn)) (hsv.new_ (ab.transNew hn)) hvu hvv (by omega) (by omega)⟩) fun _ => rfl) <| .a (fun k => k.eq1 2 37 rfl) .nil
 refine aftI am aK ab fun bC bD ao aO aP bl aQ => ?_
 have az := aQ.ge 3 5 rfl
 refine st_nil (aN _ _ (wp_seq_k fun bE aR => ?_))
 refine wp_seq_k fun bF aS => ?_
 refine wp_g0 [true, true] [] 66
   [ve (iv (ordB u.neg u.mag v.num)), ve (.bool (decide ((ordB u.neg u.mag v.num) = 2)))] ao (.eq (.eq (.nil))) ?_ ?_
 exact .m (fun k => k.fx 5 az) <| .t (fun _ w hn k => ⟨_, v_bin rfl (k.eq1 0 38 rfl) rfl (fun _ => rfl) (r_eql rfl), rfl⟩) .nil
 refine aftI ao aO aP fun bG bH ac ap aq bm ar => ?_
 have bf := ar.fx 5 az
 have aA := ar.ge 1 39 rfl
 refine st_nil (aS _ _ ?_)
 rcases bc (decide ((ordB u.neg u.mag v.num) = 2)) with aa | aa
 have au := oT aa
 have aT := hB aA aa
 refine wp_cond_true aT ?_
 refine wp_seq_k fun bI aU => ?_
 refine wp_g0 [true] [] 66
   [ve (iv 2)] ac (.eq (.nil)) ?_ ?_
 exact .t (fun _ w hn k => ⟨_, v_assign rfl rfl, rfl⟩) .nil
 refine aftI ac ap aq fun bJ bK bn aV aW bo aX => ?_
 have bg := aX.ge 0 4 rfl
 refine st_nil (aU _ _ ?_)
 refine wp_ret (ret_k aV (v := iv 2) (res_t rfl bg _) ?_)
 refine ⟨?_, aW⟩
 show Ending.returned (iv 2) = Ending.returned (iv (ordC u.neg u.mag v.num))
 first | rfl | (simp only [ordC, hqv3, hqv4, hqu3, hqu4, aa, bsm] <;> rfl) | (exfalso; omega)
 have au := oF aa
 have aY := hB aA aa
 refine wp_cond_false aY ?_
 refine wp_skip ?_
 refine aR _ _ ?_
 refine wp_seq_k fun bL aZ => ?_
 refine wp_g0 [true, true, true] [] 66
   [ve (iv (ordB u.neg u.mag v.num)), ve (iv (-(ordB u.neg u.mag v.num))), ve (iv (-(ordB u.neg u.mag v.num)))] ac (.eq (.eq (.eq (.nil)))) ?_ ?_
 exact .m (fun k => k.fx 5 bf) <| .t (fun _ w hn k => ⟨_, v_neg rfl (k.eq1 0 40 rfl) (by omega), rfl⟩) <| .a (fun k => k.eq1 1 41 rfl) .nil
 refine aftI ac ap aq fun bM bN bp a1 a3 bq a4 => ?_
 have bh := a4.ge 2 4 rfl
 refine st_nil (aZ _ _ ?_)
 refine wp_ret (ret_k a1 (v := iv (-(ordB u.neg u.mag v.num))) (res_t rfl bh _) ?_)
 refine ⟨?_, a3⟩
 show Ending.returned (iv (-(ordB u.neg u.mag v.num))) = Ending.returned (iv (ordC u.neg u.mag v.num))
 first | rfl | (simp only [ordC, hqv3, hqv4, hqu3, hqu4, aa, bsm] <;> rfl) | (exfalso; omega)
theorem qbeside_c (v : Vl) (Av : Option Addr) (cv : Nat) (Bv : Option Addr) (dv : Nat) (u : Vl) (Au : Option Addr) (cu : Nat) (Bu : Option Addr) (du : Nat) (w : World) (hmv : SRow w .u32 Av v.mag cv) (hsv : SRow w .u16 Bv v.s dv) (hmu : SRow w .u32 Au u.mag cu) (hsu : SRow w .u16 Bu u.s du) (hvv : VOk v) (hvu : VOk u) (hk1 : 3 ≤ v.k ∧ v.k ≤ 5) (hk2 : 3 ≤ u.k ∧ u.k ≤ 5) (hk3 : v.k ≠ u.k) : Calls Try.prog 34 #[vv v Av cv Bv dv, vv u Au cu Bu du] w (IsRet (.tuple #[.bool ((besideR v u).1), iv ((besideR v u).2)]) w) := by
 refine enter_abs Try.func34 rfl fun a0 bo go hp => ?_
 have bo : a0.tmps.size = 59 := bo
 have cf : New w w := Upd.refl _ _
 have hp0 : a0.eval (.tmp 0) = vv v Av cv Bv dv := hp 0 _ rfl
 have hp1 : a0.eval (.tmp 1) = vv u Au cu Bu du := hp 1 _ rfl
 refine wp_seq_k fun K1 gp => ?_
 refine wp_g [true, true, true, true] [] [] 59
   [IsNew w 32 [iv v.k, iv v.nk, iv v.nn, .bool v.neg, sv Av v.mag cv, sv Bv v.s dv, iv v.ref], IsNew w 32 [iv u.k, iv u.nk, iv u.nn, .bool u.neg, sv Au u.mag cu, sv Bu u.s du, iv u.ref], vF, ve (iv 0)]
   [0, 1] (newsCons (fun v w h => IsNew.old h) (newsCons (fun v w h => IsNew.old h) newsNil)) bo (.nw (.nw (.eq (.eq (.nil))))) ?_ (fun i h => by cases h) ?_
 exact .o2 (step_allocN (cs := [iv v.k, iv v.nk, iv v.nn, .bool v.neg, sv Av v.mag cv, sv Bv v.s dv, iv v.ref]) (t := 32) rfl (noG rfl) (fun _ w hn k => v_box rfl (k.fx 0 hp0) (fun w => rfl)) (fun q _ hq hb => ⟨q, rfl, hq, hb⟩)) <| .o2 (step_allocN (cs := [iv u.k, iv u.nk, iv u.nn, .bool u.neg, sv Au u.mag cu, sv Bu u.s du, iv u.ref]) (t := 32) rfl (noG rfl) (fun _ w hn k => v_box rfl (k.fx 1 hp1) (fun w => rfl)) (fun q _ hq hb => ⟨q, rfl, hq, hb⟩)) <| .t (fun _ w hn k => ⟨_, v_assign rfl rfl, rfl⟩) <| .t (fun _ w hn k => ⟨_, v_assign rfl rfl, rfl⟩) .nil
 refine aftI bo go cf fun a2 w3 av bd aJ iT e0 => ?_
 obtain ⟨q9, h8, e3, ac⟩ : IsNew _ _ _ _ _ := e0.got 0 2 rfl (by kernel_rfl)
 obtain ⟨ay, aw, e4, am⟩ : IsNew _ _ _ _ _ := e0.got 1 3 rfl (by kernel_rfl)
 have g6 := Nat.le_trans cf.size e3
 have g7 := Nat.le_trans cf.size e4
 refine st_nil (gp _ _ (wp_seq_k fun iU aM => ?_))
 refine wp_seq_k fun iV aK => ?_
 rcases bc (decide (v.k = 4)) with aa | aa
 have dc := oT aa
 rcases bc (decide (u.k = 5)) with an | an
 have dd := oT an
 refine wp_g0 (.replicate 18 true) [] 59
   [ve (pv q9), ve (iv v.k), vT, vT, ve (pv ay), ve (iv u.k), vT, vT, vT, vU, vU, vU, vU, vU, vU, vU, vU, vT] av (.eq (.eq (.eq (.eq (.eq (.eq (.eq (.eq (.eq (.eq (.eq (.eq (.eq (.eq (.eq (.eq (.eq (.eq (.nil))))))))))))))))))) ?_ ?_
 exact .f (fun k => k.fx 2 h8) <| .t (fun _ w hn k => ⟨_, v_load rfl (k.eq1 0 10 rfl) (l_one Try.isAgg3 ((ac.new_ hn).cell 0)), rfl⟩) <| .t (fun _ w hn k => ⟨_, v_bin rfl (k.eq1 1 11 rfl) rfl (fun _ => rfl) (r_eql aa), rfl⟩) <| .m (fun k => k.eq1 2 12 rfl) <| .gf (fun k => k.eq1 3 13 rfl) (fun k => k.fx 3 aw) <| .g (fun k => k.eq1 3 13 rfl) (fun _ w hn k => ⟨_, v_load rfl (k.eq1 4 14 rfl) (l_one Try.isAgg3 ((am.new_ hn).cell 0)), rfl⟩) <| .g (fun k => k.eq1 3 13 rfl) (fun _ w hn k => ⟨_, v_bin rfl (k.eq1 5 15 rfl) rfl (fun _ => rfl) (r_eql an), rfl⟩) <| .t (fun _ w hn k => ⟨_, v_pickT rfl (k.eq1 3 13 rfl) (k.eq1 6 16 rfl), rfl⟩) <| .m (fun k => k.eq1 7 17 rfl) <| .s (fun k => k.eq1 8 18 rfl) <| .s (fun k => k.eq1 8 18 rfl) <| .s (fun k => k.eq1 8 18 rfl) <| .s (fun k => k.eq1 8 18 rfl) <| .o1 (su rfl rfl rfl (fun _ _ _ k => k.eq1 12 22 rfl) (fun _ => rfl)) <| .o1 (su rfl rfl rfl (fun _ _ _ k => k.eq1 12 22 rfl) (fun _ => rfl)) <| .o1 (su rfl rfl rfl (fun _ _ _ k => k.eq1 12 22 rfl) (fun _ => rfl)) <| .s (fun k => k.eq1 8 18 rfl) <| .t (fun _ w hn k => ⟨_, v_pickT rfl (k.eq1 8 18 rfl) rfl, rfl⟩) .nil
 refine aftI av bd aJ fun iW iX ch e5 e6 ci be => ?_
 have iY := be.fx 2 h8
 have iZ := be.fx 3 aw
 have gq := be.ge 17 27 rfl
 have g8 := ac.new_ ci
 have g9 := am.new_ ci
 refine st_nil (aK _ _ ?_)
 refine wp_cond_true gq ?_
 refine wp_seq_k fun i0 e7 => ?_
 refine wp_g0 [true, true] [] 59
   [vF, ve (iv 3)] ch (.eq (.eq (.nil))) ?_ ?_
 exact .t (fun _ w hn k => ⟨_, v_assign rfl rfl, rfl⟩) <| .t (fun _ w hn k => ⟨_, v_assign rfl rfl, rfl⟩) .nil
 refine aftI ch e5 e6 fun i1 i2 ha e8 e9 hc cj => ?_
 have gr := cj.ge 0 4 rfl
 have gs := cj.ge 1 5 rfl
 refine st_nil (e7 _ _ ?_)
 refine wp_ret (ret_k e8 (v := .tuple #[.bool false, iv 3]) (res_tt rfl gr gs _) ?_)
 refine ⟨?_, e9⟩
 show Ending.returned (.tuple #[.bool false, iv 3]) = Ending.returned (.tuple #[.bool ((besideR v u).1), iv ((besideR v u).2)])
 first | rfl | (simp only [besideR, aa, an, bsm] <;> rfl) | (exfalso; omega)
 have dd := oF an
 rcases bc (decide (v.k = 5)) with aq | aq
 have de := oT aq
 refine wp_g0 (.replicate 18 true) [] 59
   [ve (pv q9), ve (iv v.k), vT, vT, ve (pv ay), ve (iv u.k), vF, vF, vF, ve (pv q9), ve (iv v.k), vT, vT, ve (pv ay), ve (iv u.k), ve (.bool (decide (u.k = 4))), ve (.bool (decide (u.k = 4))), ve (.bool (decide (u.k = 4)))] av (.eq (.eq (.eq (.eq (.eq (.eq (.eq (.eq (.eq (.eq (.eq (.eq (.eq (.eq (.eq (.eq (.eq (.eq (.nil))))))))))))))))))) ?_ ?_
 exact .f (fun k => k.fx 2 h8) <| .t (fun _ w hn k => ⟨_, v_load rfl (k.eq1 0 10 rfl) (l_one Try.isAgg3 ((ac.new_ hn).cell 0)), rfl⟩) <| .t (fun _ w hn k => ⟨_, v_bin rfl (k.eq1 1 11 rfl) rfl (fun _ => rfl) (r_eql aa), rfl⟩) <| .m (fun k => k.eq1 2 12 rfl) <| .gf (fun k => k.eq1 3 13 rfl) (fun k => k.fx 3 aw) <| .g (fun k => k.eq1 3 13 rfl) (fun _ w hn k => ⟨_, v_load rfl (k.eq1 4 14 rfl) (l_one Try.isAgg3 ((am.new_ hn).cell 0)), rfl⟩) <| .g (fun k => k.eq1 3 13 rfl) (fun _ w hn k => ⟨_, v_bin rfl (k.eq1 5 15 rfl) rfl (fun _ => rfl) (r_eql an), rfl⟩) <| .t (fun _ w hn k => ⟨_, v_pickT rfl (k.eq1 3 13 rfl) (k.eq1 6 16 rfl), rfl⟩) <| .m (fun k => k.eq1 7 17 rfl) <| .gf (fun k => k.eq1 8 18 rfl) (fun k => k.fx 2 h8) <| .g (fun k => k.eq1 8 18 rfl) (fun _ w hn k => ⟨_, v_load rfl (k.eq1 9 19 rfl) (l_one Try.isAgg3 ((ac.new_ hn).cell 0)), rfl⟩) <| .g (fun k => k.eq1 8 18 rfl) (fun _ w hn k => ⟨_, v_bin rfl (k.eq1 10 20 rfl) rfl (fun _ => rfl) (r_eql aq), rfl⟩) <| .gm (fun k => k.eq1 8 18 rfl) (fun k => k.eq1 11 21 rfl) <| .gf (fun k => k.eq1 12 22 rfl) (fun k => k.fx 3 aw) <| .g (fun k => k.eq1 12 22 rfl) (fun _ w hn k => ⟨_, v_load rfl (k.eq1 13 23 rfl) (l_one Try.isAgg3 ((am.new_ hn).cell 0)), rfl⟩) <| .g (fun k => k.eq1 12 22 rfl) (fun _ w hn k => ⟨_, v_bin rfl (k.eq1 14 24 rfl) rfl (fun _ => rfl) (r_eql rfl), rfl⟩) <| .g (fun k => k.eq1 8 18 rfl) (fun _ w hn k => ⟨_, v_pickT rfl (k.eq1 12 22 rfl) (k.eq1 15 25 rfl), rfl⟩) <| .t (fun _ w hn k => ⟨_, v_pickF rfl (k.eq1 8 18 rfl) (k.eq1 16 26 rfl), rfl⟩) .nil
 refine aftI av bd aJ fun i3 i4 aN cl cm cn bf => ?_
 have e1 := bf.fx 2 h8
 have gt := bf.fx 3 aw
 have e2 := bf.ge 17 27 rfl
 have co := ac.new_ cn
 have fa := am.new_ cn
 refine st_nil (aK _ _ ?_)
 rcases bc (decide (u.k = 4)) with ax | ax
 have df := oT ax
 have fb := hB e2 ax
 refine wp_cond_true fb ?_
 refine wp_seq_k fun i5 fc => ?_
 refine wp_g0 [true, true] [] 59
   [vF, ve (iv 3)] aN (.eq (.eq (.nil))) ?_ ?_
 exact .t (fun _ w hn k => ⟨_, v_assign rfl rfl, rfl⟩) <| .t (fun _ w hn k => ⟨_, v_assign rfl rfl, rfl⟩) .nil
 refine aftI aN cl cm fun i6 i7 hd fd fe he cp => ?_
 have gu := cp.ge 0 4 rfl
 have gv := cp.ge 1 5 rfl
 refine st_nil (fc _ _ ?_)
 refine wp_ret (ret_k fd (v := .tuple #[.bool false, iv 3]) (res_tt rfl gu gv _) ?_)
 refine ⟨?_, fe⟩
 show Ending.returned (.tuple #[.bool false, iv 3]) = Ending.returned (.tuple #[.bool ((besideR v u).1), iv ((besideR v u).2)])
 first | rfl | (simp only [besideR, aa, an, aq, ax, bsm] <;> rfl) | (exfalso; omega)
 have df := oF ax
 have ff := hB e2 ax
 refine wp_cond_false ff ?_
 refine wp_skip ?_
 refine aM _ _ ?_
 refine wp_seq_k fun i8 hf => ?_
 refine wp_seq_k fun i9 fg => ?_
 refine wp_g0 (.replicate 8 true) [] 59
   [ve (pv q9), ve (iv v.k), vT, vT, vU, vU, vU, vT] aN (.eq (.eq (.eq (.eq (.eq (.eq (.eq (.eq (.nil))))))))) ?_ ?_
 exact .f (fun k => k.fx 2 e1) <| .t (fun _ w hn k => ⟨_, v_load rfl (k.eq1 0 28 rfl) (l_one Try.isAgg3 ((co.new_ hn).cell 0)), rfl⟩) <| .t (fun _ w hn k => ⟨_, v_bin rfl (k.eq1 1 29 rfl) rfl (fun _ => rfl) (r_eql aa), rfl⟩) <| .m (fun k => k.eq1 2 30 rfl) <| .s (fun k => k.eq1 3 31 rfl) <| .s (fun k => k.eq1 3 31 rfl) <| .s (fun k => k.eq1 3 31 rfl) <| .t (fun _ w hn k => ⟨_, v_pickT rfl (k.eq1 3 31 rfl) rfl, rfl⟩) .nil
 refine aftI aN cl cm fun ja jb cq fh aL cr bg => ?_
 have gw := bg.fx 2 e1
 have gx := bg.fx 3 gt
 have gy := bg.ge 7 35 rfl
 have fi := co.new_ cr
 have fj := fa.new_ cr
 refine st_nil (fg _ _ ?_)
 refine wp_cond_true gy ?_
 refine wp_seq_k fun jc fk => ?_
 refine wp_g0 [true, true, true, true, true, true] [] 59
   [ve (vv v Av cv Bv dv), ve (vv u Au cu Bu du), ve (iv (ordB v.neg v.mag u.num)), ve (.bool (decide ((ordB v.neg v.mag u.num) = 0))), ve (.bool (decide ((ordB v.neg v.mag u.num) = 0))), ve (iv 0)] cq (.eq (.eq (.eq (.eq (.eq (.eq (.nil))))))) ?_ ?_
 exact .t (fun _ w hn k => ⟨_, v_load rfl (k.fx 2 gw) (l_agg Try.isAgg32 Try.sizeOf32 (fi.new_ hn) rfl), rfl⟩) <| .t (fun _ w hn k => ⟨_, v_load rfl (k.fx 3 gx) (l_agg Try.isAgg32 Try.sizeOf32 (fj.new_ hn) rfl), rfl⟩) <| .o1 (ck rfl rfl rfl (fun _ w hn k => ⟨#[vv v Av cv Bv dv, vv u Au cu Bu du], args2 (k.eq1 0 36 rfl) (k.eq1 1 37 rfl), fun _ => by kernel_rfl, qorder_a v _ _ _ _ u _ _ _ _ _ (hmv.new_ (aL.transNew hn)) (hsv.new_ (aL.transNew hn)) (hmu.new_ (aL.transNew hn)) (hsu.new_ (aL.transNew hn)) hvv hvu (by omega) (by omega)⟩) fun _ => rfl) <| .t (fun _ w hn k => ⟨_, v_bin rfl (k.eq1 2 38 rfl) rfl (fun _ => rfl) (r_eql rfl), rfl⟩) <| .a (fun k => k.eq1 3 39 rfl) <| .t (fun _ w hn k => ⟨_, v_assign rfl rfl, rfl⟩) .nil
 refine aftI cq fh aL fun jd je hg fl fm hh ct => ?_
 have gz := ct.ge 4 4 rfl
 have gA := ct.ge 5 5 rfl
 refine st_nil (fk _ _ ?_)
 refine wp_ret (ret_k fl (v := .tuple #[.bool (decide ((ordB v.neg v.mag u.num) = 0)), iv 0]) (res_tt rfl gz gA _) ?_)
 refine ⟨?_, fm⟩
 show Ending.returned (.tuple #[.bool (decide ((ordB v.neg v.mag u.num) = 0)), iv 0]) = Ending.returned (.tuple #[.bool ((besideR v u).1), iv ((besideR v u).2)])
 first | rfl | (simp only [besideR, aa, an, aq, ax, bsm] <;> rfl) | (exfalso; omega)
 have de := oF aq
 refine wp_g0 (.replicate 18 true) [] 59
   [ve (pv q9), ve (iv v.k), vT, vT, ve (pv ay), ve (iv u.k), vF, vF, vF, ve (pv q9), ve (iv v.k), vF, vF, vU, vU, vU, vF, vF] av (.eq (.eq (.eq (.eq (.eq (.eq (.eq (.eq (.eq (.eq (.eq (.eq (.eq (.eq (.eq (.eq (.eq (.eq (.nil))))))))))))))))))) ?_ ?_
 exact .f (fun k => k.fx 2 h8) <| .t (fun _ w hn k => ⟨_, v_load rfl (k.eq1 0 10 rfl) (l_one Try.isAgg3 ((ac.new_ hn).cell 0)), rfl⟩) <| .t (fun _ w hn k => ⟨_, v_bin rfl (k.eq1 1 11 rfl) rfl (fun _ => rfl) (r_eql aa), rfl⟩) <| .m (fun k => k.eq1 2 12 rfl) <| .gf (fun k => k.eq1 3 13 rfl) (fun k => k.fx 3 aw) <| .g (fun k => k.eq1 3 13 rfl) (fun _ w hn k => ⟨_, v_load rfl (k.eq1 4 14 rfl) (l_one Try.isAgg3 ((am.new_ hn).cell 0)), rfl⟩) <| .g (fun k => k.eq1 3 13 rfl) (fun _ w hn k => ⟨_, v_bin rfl (k.eq1 5 15 rfl) rfl (fun _ => rfl) (r_eql an), rfl⟩) <| .t (fun _ w hn k => ⟨_, v_pickT rfl (k.eq1 3 13 rfl) (k.eq1 6 16 rfl), rfl⟩) <| .m (fun k => k.eq1 7 17 rfl) <| .gf (fun k => k.eq1 8 18 rfl) (fun k => k.fx 2 h8) <| .g (fun k => k.eq1 8 18 rfl) (fun _ w hn k => ⟨_, v_load rfl (k.eq1 9 19 rfl) (l_one Try.isAgg3 ((ac.new_ hn).cell 0)), rfl⟩) <| .g (fun k => k.eq1 8 18 rfl) (fun _ w hn k => ⟨_, v_bin rfl (k.eq1 10 20 rfl) rfl (fun _ => rfl) (r_eql aq), rfl⟩) <| .gm (fun k => k.eq1 8 18 rfl) (fun k => k.eq1 11 21 rfl) <| .s (fun k => k.eq1 12 22 rfl) <| .s (fun k => k.eq1 12 22 rfl) <| .s (fun k => k.eq1 12 22 rfl) <| .g (fun k => k.eq1 8 18 rfl) (fun _ w hn k => ⟨_, v_pickF rfl (k.eq1 12 22 rfl) rfl, rfl⟩) <| .t (fun _ w hn k => ⟨_, v_pickF rfl (k.eq1 8 18 rfl) (k.eq1 16 26 rfl), rfl⟩) .nil
 refine aftI av bd aJ fun jf jg cw dg dh cx bh => ?_
 have cy := bh.fx 2 h8
 have fn := bh.fx 3 aw
 have fo := bh.ge 17 27 rfl
 have bp := ac.new_ cx
 have di := am.new_ cx
 refine st_nil (aK _ _ ?_)
 refine wp_cond_false fo ?_
 refine wp_skip ?_
 refine aM _ _ ?_
 refine wp_seq_k fun hi gB => ?_
 refine wp_seq_k fun hj dj => ?_
 refine wp_g0 (.replicate 8 true) [] 59
   [ve (pv q9), ve (iv v.k), vT, vT, vU, vU, vU, vT] cw (.eq (.eq (.eq (.eq (.eq (.eq (.eq (.eq (.nil))))))))) ?_ ?_
 exact .f (fun k => k.fx 2 cy) <| .t (fun _ w hn k => ⟨_, v_load rfl (k.eq1 0 28 rfl) (l_one Try.isAgg3 ((bp.new_ hn).cell 0)), rfl⟩) <| .t (fun _ w hn k => ⟨_, v_bin rfl (k.eq1 1 29 rfl) rfl (fun _ => rfl) (r_eql aa), rfl⟩) <| .m (fun k => k.eq1 2 30 rfl) <| .s (fun k => k.eq1 3 31 rfl) <| .s (fun k => k.eq1 3 31 rfl) <| .s (fun k => k.eq1 3 31 rfl) <| .t (fun _ w hn k => ⟨_, v_pickT rfl (k.eq1 3 31 rfl) rfl, rfl⟩) .nil
 refine aftI cw dg dh fun hl hm bq dk az br aO => ?_
 have fp := aO.fx 2 cy
 have fq := aO.fx 3 fn
 have fr := aO.ge 7 35 rfl
 have dl := bp.new_ br
 have dm := di.new_ br
 refine st_nil (dj _ _ ?_)
 refine wp_cond_true fr ?_
 refine wp_seq_k fun ho dn => ?_
 refine wp_g0 [true, true, true, true, true, true] [] 59
   [ve (vv v Av cv Bv dv), ve (vv u Au cu Bu du), ve (iv (ordB v.neg v.mag u.num)), ve (.bool (decide ((ordB v.neg v.mag u.num) = 0))), ve (.bool (decide ((ordB v.neg v.mag u.num) = 0))), ve (iv 0)] bq (.eq (.eq (.eq (.eq (.eq (.eq (.nil))))))) ?_ ?_
 exact .t (fun _ w hn k => ⟨_, v_load rfl (k.fx 2 fp) (l_agg Try.isAgg32 Try.sizeOf32 (dl.new_ hn) rfl), rfl⟩) <| .t (fun _ w hn k => ⟨_, v_load rfl (k.fx 3 fq) (l_agg Try.isAgg32 Try.sizeOf32 (dm.new_ hn) rfl), rfl⟩) <| .o1 (ck rfl rfl rfl (fun _ w hn k => ⟨#[vv v Av cv Bv dv, vv u Au cu Bu du], args2 (k.eq1 0 36 rfl) (k.eq1 1 37 rfl), fun _ => by kernel_rfl, qorder_a v _ _ _ _ u _ _ _ _ _ (hmv.new_ (az.transNew hn)) (hsv.new_ (az.transNew hn)) (hmu.new_ (az.transNew hn)) (hsu.new_ (az.transNew hn)) hvv hvu (by omega) (by omega)⟩) fun _ => rfl) <| .t (fun _ w hn k => ⟨_, v_bin rfl (k.eq1 2 38 rfl) rfl (fun _ => rfl) (r_eql rfl), rfl⟩) <| .a (fun k => k.eq1 3 39 rfl) <| .t (fun _ w hn k => ⟨_, v_assign rfl rfl, rfl⟩) .nil
 refine aftI bq dk az fun hr hs gC dp dq gD bs => ?_
 have fs := bs.ge 4 4 rfl
 have ft := bs.ge 5 5 rfl
 refine st_nil (dn _ _ ?_)
 refine wp_ret (ret_k dp (v := .tuple #[.bool (decide ((ordB v.neg v.mag u.num) = 0)), iv 0]) (res_tt rfl fs ft _) ?_)
 refine ⟨?_, dq⟩
 show Ending.returned (.tuple #[.bool (decide ((ordB v.neg v.mag u.num) = 0)), iv 0]) = Ending.returned (.tuple #[.bool ((besideR v u).1), iv ((besideR v u).2)])
 first | rfl | (simp only [besideR, aa, an, aq, bsm] <;> rfl) | (exfalso; omega)
 have dc := oF aa
 rcases bc (decide (v.k = 5)) with ab | ab
 have cz := oT ab
 refine wp_g0 (.replicate 18 true) [] 59
   [ve (pv q9), ve (iv v.k), vF, vF, vU, vU, vU, vF, vF, ve (pv q9), ve (iv v.k), vT, vT, ve (pv ay), ve (iv u.k), ve (.bool (decide (u.k = 4))), ve (.bool (decide (u.k = 4))), ve (.bool (decide (u.k = 4)))] av (.eq (.eq (.eq (.eq (.eq (.eq (.eq (.eq (.eq (.eq (.eq (.eq (.eq (.eq (.eq (.eq (.eq (.eq (.nil))))))))))))))))))) ?_ ?_
 exact .f (fun k => k.fx 2 h8) <| .t (fun _ w hn k => ⟨_, v_load rfl (k.eq1 0 10 rfl) (l_one Try.isAgg3 ((ac.new_ hn).cell 0)), rfl⟩) <| .t (fun _ w hn k => ⟨_, v_bin rfl (k.eq1 1 11 rfl) rfl (fun _ => rfl) (r_eql aa), rfl⟩) <| .m (fun k => k.eq1 2 12 rfl) <| .s (fun k => k.eq1 3 13 rfl) <| .s (fun k => k.eq1 3 13 rfl) <| .s (fun k => k.eq1 3 13 rfl) <| .t (fun _ w hn k => ⟨_, v_pickF rfl (k.eq1 3 13 rfl) rfl, rfl⟩) <| .m (fun k => k.eq1 7 17 rfl) <| .gf (fun k => k.eq1 8 18 rfl) (fun k => k.fx 2 h8) <| .g (fun k => k.eq1 8 18 rfl) (fun _ w hn k => ⟨_, v_load rfl (k.eq1 9 19 rfl) (l_one Try.isAgg3 ((ac.new_ hn).cell 0)), rfl⟩) <| .g (fun k => k.eq1 8 18 rfl) (fun _ w hn k => ⟨_, v_bin rfl (k.eq1 10 20 rfl) rfl (fun _ => rfl) (r_eql ab), rfl⟩) <| .gm (fun k => k.eq1 8 18 rfl) (fun k => k.eq1 11 21 rfl) <| .gf (fun k => k.eq1 12 22 rfl) (fun k => k.fx 3 aw) <| .g (fun k => k.eq1 12 22 rfl) (fun _ w hn k => ⟨_, v_load rfl (k.eq1 13 23 rfl) (l_one Try.isAgg3 ((am.new_ hn).cell 0)), rfl⟩) <| .g (fun k => k.eq1 12 22 rfl) (fun _ w hn k => ⟨_, v_bin rfl (k.eq1 14 24 rfl) rfl (fun _ => rfl) (r_eql rfl), rfl⟩) <| .g (fun k => k.eq1 8 18 rfl) (fun _ w hn k => ⟨_, v_pickT rfl (k.eq1 12 22 rfl) (k.eq1 15 25 rfl), rfl⟩) <| .t (fun _ w hn k => ⟨_, v_pickF rfl (k.eq1 8 18 rfl) (k.eq1 16 26 rfl), rfl⟩) .nil
 refine aftI av bd aJ fun ht hu aC bt bu bv aP => ?_
 have cA := aP.fx 2 h8
 have cB := aP.fx 3 aw
 have cC := aP.ge 17 27 rfl
 have bw := ac.new_ bv
 have bx := am.new_ bv
 refine st_nil (aK _ _ ?_)
 rcases bc (decide (u.k = 4)) with ad | ad
 have cD := oT ad
 have dr := hB cC ad
 refine wp_cond_true dr ?_
 refine wp_seq_k fun hv ds => ?_
 refine wp_g0 [true, true] [] 59
   [vF, ve (iv 3)] aC (.eq (.eq (.nil))) ?_ ?_
 exact .t (fun _ w hn k => ⟨_, v_assign rfl rfl, rfl⟩) <| .t (fun _ w hn k => ⟨_, v_assign rfl rfl, rfl⟩) .nil
 refine aftI aC bt bu fun hw hx gE dt dw gF bz => ?_
 have fu := bz.ge 0 4 rfl
 have fv := bz.ge 1 5 rfl
 refine st_nil (ds _ _ ?_)
 refine wp_ret (ret_k dt (v := .tuple #[.bool false, iv 3]) (res_tt rfl fu fv _) ?_)
 refine ⟨?_, dw⟩
 show Ending.returned (.tuple #[.bool false, iv 3]) = Ending.returned (.tuple #[.bool ((besideR v u).1), iv ((besideR v u).2)])
 first | rfl | (simp only [besideR, aa, ab, ad, bsm] <;> rfl) | (exfalso; omega)
 have cD := oF ad
 have dx := hB cC ad
 refine wp_cond_false dx ?_
 refine wp_skip ?_
 refine aM _ _ ?_
 refine wp_seq_k fun hy dy => ?_
 refine wp_seq_k fun hz dz => ?_
 refine wp_g0 (.replicate 8 true) [] 59
   [ve (pv q9), ve (iv v.k), vF, vF, ve (pv ay), ve (iv u.k), vF, vF] aC (.eq (.eq (.eq (.eq (.eq (.eq (.eq (.eq (.nil))))))))) ?_ ?_
 exact .f (fun k => k.fx 2 cA) <| .t (fun _ w hn k => ⟨_, v_load rfl (k.eq1 0 28 rfl) (l_one Try.isAgg3 ((bw.new_ hn).cell 0)), rfl⟩) <| .t (fun _ w hn k => ⟨_, v_bin rfl (k.eq1 1 29 rfl) rfl (fun _ => rfl) (r_eql aa), rfl⟩) <| .m (fun k => k.eq1 2 30 rfl) <| .gf (fun k => k.eq1 3 31 rfl) (fun k => k.fx 3 cB) <| .g (fun k => k.eq1 3 31 rfl) (fun _ w hn k => ⟨_, v_load rfl (k.eq1 4 32 rfl) (l_one Try.isAgg3 ((bx.new_ hn).cell 0)), rfl⟩) <| .g (fun k => k.eq1 3 31 rfl) (fun _ w hn k => ⟨_, v_bin rfl (k.eq1 5 33 rfl) rfl (fun _ => rfl) (r_eql ad), rfl⟩) <| .t (fun _ w hn k => ⟨_, v_pickF rfl (k.eq1 3 31 rfl) (k.eq1 6 34 rfl), rfl⟩) .nil
 refine aftI aC bt bu fun hA fw bA dA aD bB aQ => ?_
 have fy := aQ.fx 2 cA
 have fz := aQ.fx 3 cB
 have fA := aQ.ge 7 35 rfl
 have dB := bw.new_ bB
 have bC := bx.new_ bB
 refine st_nil (dz _ _ ?_)
 refine wp_cond_false fA ?_
 refine wp_skip ?_
 refine dy _ _ ?_
 refine wp_seq_k fun hC dC => ?_
 refine wp_g [true, true, true, true, true, true, false, false] [4] [(6, false), (7, true)] 59
   [ve (vv v Av cv Bv dv), ve (.tuple #[nv ((numberV v).1), iv ((numberV v).2)]), ve (.tuple #[nv ((numberV v).1), iv ((numberV v).2)]), ve (nv ((numberV v).1)), ve (iv ((numberV v).2)), IsNew fw 23 [iv 0, iv 0], vt, vt]
   [5] (newsCons (fun v w h => IsNew.old h) newsNil) bA (.eq (.eq (.eq (.eq (.eq (.nw (.tt (.tt (.nil))))))))) ?_ ?_ ?_
 refine .t (fun _ w hn k => ⟨_, v_load rfl (k.fx 2 fy) (l_agg Try.isAgg32 Try.sizeOf32 (dB.new_ hn) rfl), rfl⟩) <| .o1 (ck rfl rfl rfl (fun _ w hn k => ⟨#[vv v Av cv Bv dv], args1 (k.eq1 0 41 rfl), fun _ => by kernel_rfl, qnumber_c v _ _ _ _ _ (hmv.new_ (aD.transNew hn)) (hsv.new_ (aD.transNew hn)) hvv⟩) fun _ => rfl) <| .m (fun k => k.eq1 1 42 rfl) <| .t (fun _ w hn k => ⟨_, v_extract rfl (k.eq1 2 40 rfl) rfl, rfl⟩) ?_
 refine .o3 ?_
 exact .o2 (step_allocN (cs := [iv 0, iv 0]) (t := 23) rfl (noG rfl) (fun _ w hn k => rfl) (fun q _ hq hb => ⟨q, rfl, hq, hb⟩)) <| .off <| .off .nil
 intro i h
 simp only [List.contains_eq_mem, List.mem_cons, List.not_mem_nil, or_false, decide_eq_true_eq] at h
 subst h
 exact eager_take rfl rfl fun _ w hn k => ⟨iv ((numberV v).2), fun w => v_extract rfl (k.eq1 2 40 rfl) rfl, rfl⟩
 refine aftI bA dA aD fun cE hD bD dD dE dF aE => ?_
 have fB := aE.fx 3 fz
 have cF := aE.ge 3 43 rfl
 have cG := aE.ge 4 44 rfl
 obtain ⟨cH, cI, bE, dG⟩ : IsNew _ _ _ _ _ := aE.got 5 6 rfl (by kernel_rfl)
 have dH := bC.new_ dF
 have hne186 : ay ≠ cH := by have h1 := bC.lt; have h2 := bE; omega
 have gG := Nat.le_trans aD.size bE
 obtain ⟨fC, -, cJ, bF, dI, dJ⟩ := s_two (v0 := iv ((numberV v).1.k)) (v1 := iv ((numberV v).1.n)) Try.sizeOf23 rfl rfl rfl dG
 refine st_act rfl rfl fun hE dK => a_store' rfl cI cF cJ (dK _ _ trivial ?_)
 have dL := dJ _ _ _ (hne186) dH
 have aF := dE.trans dI (fun _ h b => by subst b; omega)
 refine st_take rfl rfl (y_assign (v := iv ((numberV v).2)) rfl cG) rfl ?_
 obtain ⟨fD, ak⟩ : ∃ a', a' = cE.put (some 7) (iv ((numberV v).2)) := ⟨_, rfl⟩
 have bG := pz ak bD
 have dM := pd ak dD
 have fE := pn ak fB (by decide)
 have hF := pn ak cF (by decide)
 have hG := pn ak cG (by decide)
 have fF := pn ak cI (by decide)
 have fG : fD.eval (.tmp 7) = iv ((numberV v).2) := by rw [ak]; exact put_same _ _ _ (by rw [bD]; decide)
 show stepsTo _ _ _ _ _ (cE.put (some 7) (iv ((numberV v).2))) _
 rw [← ak]
 refine st_nil (dC _ _ (wp_seq_k fun hH dN => ?_))
 refine wp_g [true, true, true, true, true, true, false, false] [4] [(6, false), (7, true)] 59
   [ve (vv u Au cu Bu du), ve (.tuple #[nv ((numberV u).1), iv ((numberV u).2)]), ve (.tuple #[nv ((numberV u).1), iv ((numberV u).2)]), ve (nv ((numberV u).1)), ve (iv ((numberV u).2)), IsNew fC 23 [iv 0, iv 0], vt, vt]
   [5] (newsCons (fun v w h => IsNew.old h) newsNil) bG (.eq (.eq (.eq (.eq (.eq (.nw (.tt (.tt (.nil))))))))) ?_ ?_ ?_
 refine .t (fun _ w hn k => ⟨_, v_load rfl (k.fx 3 fE) (l_agg Try.isAgg32 Try.sizeOf32 (dL.new_ hn) rfl), rfl⟩) <| .o1 (ck rfl rfl rfl (fun _ w hn k => ⟨#[vv u Au cu Bu du], args1 (k.eq1 0 46 rfl), fun _ => by kernel_rfl, qnumber_c u _ _ _ _ _ (hmu.new_ (aF.transNew hn)) (hsu.new_ (aF.transNew hn)) hvu⟩) fun _ => rfl) <| .m (fun k => k.eq1 1 47 rfl) <| .t (fun _ w hn k => ⟨_, v_extract rfl (k.eq1 2 45 rfl) rfl, rfl⟩) ?_
 refine .o3 ?_
 exact .o2 (step_allocN (cs := [iv 0, iv 0]) (t := 23) rfl (noG rfl) (fun _ w hn k => rfl) (fun q _ hq hb => ⟨q, rfl, hq, hb⟩)) <| .off <| .off .nil
 intro i h
 simp only [List.contains_eq_mem, List.mem_cons, List.not_mem_nil, or_false, decide_eq_true_eq] at h
 subst h
 exact eager_take rfl rfl fun _ w hn k => ⟨iv ((numberV u).2), fun w => v_extract rfl (k.eq1 2 45 rfl) rfl, rfl⟩
 refine aftI bG dM aF fun cK hI bH dO dP dQ aA => ?_
 have fH := aA.fx 6 fF
 have fI := aA.fx 7 fG
 have cL := aA.ge 3 48 rfl
 have cM := aA.ge 4 49 rfl
 obtain ⟨fJ, cN, bI, dR⟩ : IsNew _ _ _ _ _ := aA.got 5 8 rfl (by kernel_rfl)
 have dS := bF.new_ dQ
 have hne223 : cH ≠ fJ := by have h1 := bF.lt; have h2 := bI; omega
 have gH := Nat.le_trans aF.size bI
 obtain ⟨hJ, -, cO, aR, dT, dU⟩ := s_two (v0 := iv ((numberV u).1.k)) (v1 := iv ((numberV u).1.n)) Try.sizeOf23 rfl rfl rfl dR
 refine st_act rfl rfl fun hK dV => a_store' rfl cN cL cO (dV _ _ trivial ?_)
 have aS := dU _ _ _ (hne223) dS
 have aT := dP.trans dT (fun _ h b => by subst b; omega)
 refine st_take rfl rfl (y_assign (v := iv ((numberV u).2)) rfl cM) rfl ?_
 obtain ⟨fK, ae⟩ : ∃ a', a' = cK.put (some 9) (iv ((numberV u).2)) := ⟨_, rfl⟩
 have ar := pz ae bH
 have aU := pd ae dO
 have bi := pn ae fH (by decide)
 have bj := pn ae fI (by decide)
 have hL := pn ae cL (by decide)
 have hM := pn ae cM (by decide)
 have bk := pn ae cN (by decide)
 have cP : fK.eval (.tmp 9) = iv ((numberV u).2) := by rw [ae]; exact put_same _ _ _ (by rw [bH]; decide)
 show stepsTo _ _ _ _ _ (cK.put (some 9) (iv ((numberV u).2))) _
 rw [← ae]
 refine st_nil (dN _ _ (wp_seq_k fun hN dW => ?_))
 refine wp_seq_k fun hO aV => ?_
 rcases bc (decide (((numberV v).2) = 0)) with af | af
 have cQ := oT af
 rcases bc (decide (((numberV u).2) = 0)) with ao | ao
 have cR := oT ao
 refine wp_g0 [true, true, true, true, true, true] [] 59
   [ve (iv ((numberV v).2)), vF, vF, ve (iv ((numberV u).2)), vF, vF] ar (.eq (.eq (.eq (.eq (.eq (.eq (.nil))))))) ?_ ?_
 exact .m (fun k => k.fx 7 bj) <| .t (fun _ w hn k => ⟨_, v_bin rfl (k.eq1 0 50 rfl) rfl (fun _ => rfl) (r_neq af), rfl⟩) <| .m (fun k => k.eq1 1 51 rfl) <| .gm (fun k => k.eq1 2 52 rfl) (fun k => k.fx 9 cP) <| .g (fun k => k.eq1 2 52 rfl) (fun _ w hn k => ⟨_, v_bin rfl (k.eq1 3 53 rfl) rfl (fun _ => rfl) (r_neq ao), rfl⟩) <| .t (fun _ w hn k => ⟨_, v_pickF rfl (k.eq1 2 52 rfl) (k.eq1 4 54 rfl), rfl⟩) .nil
 refine aftI ar aU aT fun hP hQ bJ dX dY bK aW => ?_
 have fL := aW.fx 6 bi
 have fM := aW.fx 8 bk
 have fN := aW.ge 5 55 rfl
 have dZ := aS.new_ bK
 have d0 := aR.new_ bK
 refine st_nil (aV _ _ ?_)
 refine wp_cond_false fN ?_
 refine wp_skip ?_
 refine dW _ _ ?_
 refine wp_seq_k fun hR d1 => ?_
 refine wp_g0 [true, true, true, true, true] [] 59
   [ve (nv ((numberV v).1)), ve (nv ((numberV u).1)), ve (.bool (equalM ((numberV v).1) ((numberV u).1))), ve (.bool (equalM ((numberV v).1) ((numberV u).1))), ve (iv 0)] bJ (.eq (.eq (.eq (.eq (.eq (.nil)))))) ?_ ?_
 exact .t (fun _ w hn k => ⟨_, v_load rfl (k.fx 6 fL) (l_two Try.isAgg23 Try.sizeOf23 (dZ.new_ hn)), rfl⟩) <| .t (fun _ w hn k => ⟨_, v_load rfl (k.fx 8 fM) (l_two Try.isAgg23 Try.sizeOf23 (d0.new_ hn)), rfl⟩) <| .o1 (ck rfl rfl rfl (fun _ w hn k => ⟨#[nv ((numberV v).1), nv ((numberV u).1)], args2 (k.eq1 0 56 rfl) (k.eq1 1 57 rfl), fun _ => by kernel_rfl, requal_c ((numberV v).1) ((numberV u).1) _ ⟩) fun _ => rfl) <| .a (fun k => k.eq1 2 58 rfl) <| .t (fun _ w hn k => ⟨_, v_assign rfl rfl, rfl⟩) .nil
 refine aftI bJ dX dY fun hS hT gI d2 d3 gJ bL => ?_
 have fO := bL.ge 3 4 rfl
 have fP := bL.ge 4 5 rfl
 refine st_nil (d1 _ _ ?_)
 refine wp_ret (ret_k d2 (v := .tuple #[.bool (equalM ((numberV v).1) ((numberV u).1)), iv 0]) (res_tt rfl fO fP _) ?_)
 refine ⟨?_, d3⟩
 show Ending.returned (.tuple #[.bool (equalM ((numberV v).1) ((numberV u).1)), iv 0]) = Ending.returned (.tuple #[.bool ((besideR v u).1), iv ((besideR v u).2)])
 first | rfl | (simp only [besideR, aa, ab, ad, af, ao, bsm] <;> rfl) | (exfalso; omega)
 have cR := oF ao
 refine wp_g0 [true, true, true, true, true, true] [] 59
   [ve (iv ((numberV v).2)), vF, vF, ve (iv ((numberV u).2)), vT, vT] ar (.eq (.eq (.eq (.eq (.eq (.eq (.nil))))))) ?_ ?_
 exact .m (fun k => k.fx 7 bj) <| .t (fun _ w hn k => ⟨_, v_bin rfl (k.eq1 0 50 rfl) rfl (fun _ => rfl) (r_neq af), rfl⟩) <| .m (fun k => k.eq1 1 51 rfl) <| .gm (fun k => k.eq1 2 52 rfl) (fun k => k.fx 9 cP) <| .g (fun k => k.eq1 2 52 rfl) (fun _ w hn k => ⟨_, v_bin rfl (k.eq1 3 53 rfl) rfl (fun _ => rfl) (r_neq ao), rfl⟩) <| .t (fun _ w hn k => ⟨_, v_pickF rfl (k.eq1 2 52 rfl) (k.eq1 4 54 rfl), rfl⟩) .nil
 refine aftI ar aU aT fun hU hV bM d4 d5 bN aX => ?_
 have hW := aX.fx 6 bi
 have hX := aX.fx 8 bk
 have fQ := aX.ge 5 55 rfl
 have gK := aS.new_ bN
 have gL := aR.new_ bN
 refine st_nil (aV _ _ ?_)
 refine wp_cond_true fQ ?_
 refine wp_seq_k fun hY d6 => ?_
 refine wp_g0 [true, true] [] 59
   [vF, ve (iv 3)] bM (.eq (.eq (.nil))) ?_ ?_
 exact .t (fun _ w hn k => ⟨_, v_assign rfl rfl, rfl⟩) <| .t (fun _ w hn k => ⟨_, v_assign rfl rfl, rfl⟩) .nil
 refine aftI bM d4 d5 fun hZ h0 gM d7 d8 gN bO => ?_
 have fR := bO.ge 0 4 rfl
 have fS := bO.ge 1 5 rfl
 refine st_nil (d6 _ _ ?_)
 refine wp_ret (ret_k d7 (v := .tuple #[.bool false, iv 3]) (res_tt rfl fR fS _) ?_)
 refine ⟨?_, d8⟩
 show Ending.returned (.tuple #[.bool false, iv 3]) = Ending.returned (.tuple #[.bool ((besideR v u).1), iv ((besideR v u).2)])
 first | rfl | (simp only [besideR, aa, ab, ad, af, ao, bsm] <;> rfl) | (exfalso; omega)
 have cQ := oF af
 refine wp_g0 [true, true, true, true, true, true] [] 59
   [ve (iv ((numberV v).2)), vT, vT, vU, vU, vT] ar (.eq (.eq (.eq (.eq (.eq (.eq (.nil))))))) ?_ ?_
 exact .m (fun k => k.fx 7 bj) <| .t (fun _ w hn k => ⟨_, v_bin rfl (k.eq1 0 50 rfl) rfl (fun _ => rfl) (r_neq af), rfl⟩) <| .m (fun k => k.eq1 1 51 rfl) <| .s (fun k => k.eq1 2 52 rfl) <| .s (fun k => k.eq1 2 52 rfl) <| .t (fun _ w hn k => ⟨_, v_pickT rfl (k.eq1 2 52 rfl) rfl, rfl⟩) .nil
 refine aftI ar aU aT fun h3 h4 bP d9 ea bQ aY => ?_
 have h5 := aY.fx 6 bi
 have h6 := aY.fx 8 bk
 have fT := aY.ge 5 55 rfl
 have gO := aS.new_ bQ
 have gP := aR.new_ bQ
 refine st_nil (aV _ _ ?_)
 refine wp_cond_true fT ?_
 refine wp_seq_k fun h7 eb => ?_
 refine wp_g0 [true, true] [] 59
   [vF, ve (iv 3)] bP (.eq (.eq (.nil))) ?_ ?_
 exact .t (fun _ w hn k => ⟨_, v_assign rfl rfl, rfl⟩) <| .t (fun _ w hn k => ⟨_, v_assign rfl rfl, rfl⟩) .nil
 refine aftI bP d9 ea fun h9 ia gQ ec ed gR bR => ?_
 have fU := bR.ge 0 4 rfl
 have fV := bR.ge 1 5 rfl
 refine st_nil (eb _ _ ?_)
 refine wp_ret (ret_k ec (v := .tuple #[.bool false, iv 3]) (res_tt rfl fU fV _) ?_)
 refine ⟨?_, ed⟩
 show Ending.returned (.tuple #[.bool false, iv 3]) = Ending.returned (.tuple #[.bool ((besideR v u).1), iv ((besideR v u).2)])
 first | rfl | (simp only [besideR, aa, ab, ad, af, bsm] <;> rfl) | (exfalso; omega)
 have cz := oF ab
 refine wp_g0 (.replicate 18 true) [] 59
   [ve (pv q9), ve (iv v.k), vF, vF, vU, vU, vU, vF, vF, ve (pv q9), ve (iv v.k), vF, vF, vU, vU, vU, vF, vF] av (.eq (.eq (.eq (.eq (.eq (.eq (.eq (.eq (.eq (.eq (.eq (.eq (.eq (.eq (.eq (.eq (.eq (.eq (.nil))))))))))))))))))) ?_ ?_
 exact .f (fun k => k.fx 2 h8) <| .t (fun _ w hn k => ⟨_, v_load rfl (k.eq1 0 10 rfl) (l_one Try.isAgg3 ((ac.new_ hn).cell 0)), rfl⟩) <| .t (fun _ w hn k => ⟨_, v_bin rfl (k.eq1 1 11 rfl) rfl (fun _ => rfl) (r_eql aa), rfl⟩) <| .m (fun k => k.eq1 2 12 rfl) <| .s (fun k => k.eq1 3 13 rfl) <| .s (fun k => k.eq1 3 13 rfl) <| .s (fun k => k.eq1 3 13 rfl) <| .t (fun _ w hn k => ⟨_, v_pickF rfl (k.eq1 3 13 rfl) rfl, rfl⟩) <| .m (fun k => k.eq1 7 17 rfl) <| .gf (fun k => k.eq1 8 18 rfl) (fun k => k.fx 2 h8) <| .g (fun k => k.eq1 8 18 rfl) (fun _ w hn k => ⟨_, v_load rfl (k.eq1 9 19 rfl) (l_one Try.isAgg3 ((ac.new_ hn).cell 0)), rfl⟩) <| .g (fun k => k.eq1 8 18 rfl) (fun _ w hn k => ⟨_, v_bin rfl (k.eq1 10 20 rfl) rfl (fun _ => rfl) (r_eql ab), rfl⟩) <| .gm (fun k => k.eq1 8 18 rfl) (fun k => k.eq1 11 21 rfl) <| .s (fun k => k.eq1 12 22 rfl) <| .s (fun k => k.eq1 12 22 rfl) <| .s (fun k => k.eq1 12 22 rfl) <| .g (fun k => k.eq1 8 18 rfl) (fun _ w hn k => ⟨_, v_pickF rfl (k.eq1 12 22 rfl) rfl, rfl⟩) <| .t (fun _ w hn k => ⟨_, v_pickF rfl (k.eq1 8 18 rfl) (k.eq1 16 26 rfl), rfl⟩) .nil
 refine aftI av bd aJ fun ib ic bS ee ef bT aZ => ?_
 have cS := aZ.fx 2 h8
 have cT := aZ.fx 3 aw
 have fW := aZ.ge 17 27 rfl
 have bU := ac.new_ bT
 have bV := am.new_ bT
 refine st_nil (aK _ _ ?_)
 refine wp_cond_false fW ?_
 refine wp_skip ?_
 refine aM _ _ ?_
 refine wp_seq_k fun id eg => ?_
 refine wp_seq_k fun ie eh => ?_
 refine wp_g0 (.replicate 8 true) [] 59
   [ve (pv q9), ve (iv v.k), vF, vF, ve (pv ay), ve (iv u.k), ve (.bool (decide (u.k = 4))), ve (.bool (decide (u.k = 4)))] bS (.eq (.eq (.eq (.eq (.eq (.eq (.eq (.eq (.nil))))))))) ?_ ?_
 exact .f (fun k => k.fx 2 cS) <| .t (fun _ w hn k => ⟨_, v_load rfl (k.eq1 0 28 rfl) (l_one Try.isAgg3 ((bU.new_ hn).cell 0)), rfl⟩) <| .t (fun _ w hn k => ⟨_, v_bin rfl (k.eq1 1 29 rfl) rfl (fun _ => rfl) (r_eql aa), rfl⟩) <| .m (fun k => k.eq1 2 30 rfl) <| .gf (fun k => k.eq1 3 31 rfl) (fun k => k.fx 3 cT) <| .g (fun k => k.eq1 3 31 rfl) (fun _ w hn k => ⟨_, v_load rfl (k.eq1 4 32 rfl) (l_one Try.isAgg3 ((bV.new_ hn).cell 0)), rfl⟩) <| .g (fun k => k.eq1 3 31 rfl) (fun _ w hn k => ⟨_, v_bin rfl (k.eq1 5 33 rfl) rfl (fun _ => rfl) (r_eql rfl), rfl⟩) <| .t (fun _ w hn k => ⟨_, v_pickF rfl (k.eq1 3 31 rfl) (k.eq1 6 34 rfl), rfl⟩) .nil
 refine aftI bS ee ef fun ig fX aG bW ag bX a1 => ?_
 have cU := a1.fx 2 cS
 have cV := a1.fx 3 cT
 have cW := a1.ge 7 35 rfl
 have bY := bU.new_ bX
 have a3 := bV.new_ bX
 refine st_nil (eh _ _ ?_)
 rcases bc (decide (u.k = 4)) with ah | ah
 have cX := oT ah
 have ei := hB cW ah
 refine wp_cond_true ei ?_
 refine wp_seq_k fun ih ej => ?_
 refine wp_g0 [true, true, true, true, true, true] [] 59
   [ve (vv v Av cv Bv dv), ve (vv u Au cu Bu du), ve (iv (ordC u.neg u.mag v.num)), ve (.bool (decide ((ordC u.neg u.mag v.num) = 0))), ve (.bool (decide ((ordC u.neg u.mag v.num) = 0))), ve (iv 0)] aG (.eq (.eq (.eq (.eq (.eq (.eq (.nil))))))) ?_ ?_
 exact .t (fun _ w hn k => ⟨_, v_load rfl (k.fx 2 cU) (l_agg Try.isAgg32 Try.sizeOf32 (bY.new_ hn) rfl), rfl⟩) <| .t (fun _ w hn k => ⟨_, v_load rfl (k.fx 3 cV) (l_agg Try.isAgg32 Try.sizeOf32 (a3.new_ hn) rfl), rfl⟩) <| .o1 (ck rfl rfl rfl (fun _ w hn k => ⟨#[vv v Av cv Bv dv, vv u Au cu Bu du], args2 (k.eq1 0 36 rfl) (k.eq1 1 37 rfl), fun _ => by kernel_rfl, qorder_b v _ _ _ _ u _ _ _ _ _ (hmv.new_ (ag.transNew hn)) (hsv.new_ (ag.transNew hn)) (hmu.new_ (ag.transNew hn)) (hsu.new_ (ag.transNew hn)) hvv hvu (by omega) (by omega)⟩) fun _ => rfl) <| .t (fun _ w hn k => ⟨_, v_bin rfl (k.eq1 2 38 rfl) rfl (fun _ => rfl) (r_eql rfl), rfl⟩) <| .a (fun k => k.eq1 3 39 rfl) <| .t (fun _ w hn k => ⟨_, v_assign rfl rfl, rfl⟩) .nil
 refine aftI aG bW ag fun ii ij gS ek el gT bZ => ?_
 have fY := bZ.ge 4 4 rfl
 have fZ := bZ.ge 5 5 rfl
 refine st_nil (ej _ _ ?_)
 refine wp_ret (ret_k ek (v := .tuple #[.bool (decide ((ordC u.neg u.mag v.num) = 0)), iv 0]) (res_tt rfl fY fZ _) ?_)
 refine ⟨?_, el⟩
 show Ending.returned (.tuple #[.bool (decide ((ordC u.neg u.mag v.num) = 0)), iv 0]) = Ending.returned (.tuple #[.bool ((besideR v u).1), iv ((besideR v u).2)])
 first | rfl | (simp only [besideR, aa, ab, ah, bsm] <;> rfl) | (exfalso; omega)
 have cX := oF ah
 have em := hB cW ah
 refine wp_cond_false em ?_
 refine wp_skip ?_
 refine eg _ _ ?_
 refine wp_seq_k fun ik en => ?_
 refine wp_g [true, true, true, true, true, true, false, false] [4] [(6, false), (7, true)] 59
   [ve (vv v Av cv Bv dv), ve (.tuple #[nv ((numberV v).1), iv ((numberV v).2)]), ve (.tuple #[nv ((numberV v).1), iv ((numberV v).2)]), ve (nv ((numberV v).1)), ve (iv ((numberV v).2)), IsNew fX 23 [iv 0, iv 0], vt, vt]
   [5] (newsCons (fun v w h => IsNew.old h) newsNil) aG (.eq (.eq (.eq (.eq (.eq (.nw (.tt (.tt (.nil))))))))) ?_ ?_ ?_
 refine .t (fun _ w hn k => ⟨_, v_load rfl (k.fx 2 cU) (l_agg Try.isAgg32 Try.sizeOf32 (bY.new_ hn) rfl), rfl⟩) <| .o1 (ck rfl rfl rfl (fun _ w hn k => ⟨#[vv v Av cv Bv dv], args1 (k.eq1 0 41 rfl), fun _ => by kernel_rfl, qnumber_c v _ _ _ _ _ (hmv.new_ (ag.transNew hn)) (hsv.new_ (ag.transNew hn)) hvv⟩) fun _ => rfl) <| .m (fun k => k.eq1 1 42 rfl) <| .t (fun _ w hn k => ⟨_, v_extract rfl (k.eq1 2 40 rfl) rfl, rfl⟩) ?_
 refine .o3 ?_
 exact .o2 (step_allocN (cs := [iv 0, iv 0]) (t := 23) rfl (noG rfl) (fun _ w hn k => rfl) (fun q _ hq hb => ⟨q, rfl, hq, hb⟩)) <| .off <| .off .nil
 intro i h
 simp only [List.contains_eq_mem, List.mem_cons, List.not_mem_nil, or_false, decide_eq_true_eq] at h
 subst h
 exact eager_take rfl rfl fun _ w hn k => ⟨iv ((numberV v).2), fun w => v_extract rfl (k.eq1 2 40 rfl) rfl, rfl⟩
 refine aftI aG bW ag fun cY il b0 eo ep er aH => ?_
 have f0 := aH.fx 3 cV
 have cZ := aH.ge 3 43 rfl
 have c0 := aH.ge 4 44 rfl
 obtain ⟨c1, c2, b1, es⟩ : IsNew _ _ _ _ _ := aH.got 5 6 rfl (by kernel_rfl)
 have et := a3.new_ er
 have hne369 : ay ≠ c1 := by have h1 := a3.lt; have h2 := b1; omega
 have gU := Nat.le_trans ag.size b1
 obtain ⟨f1, -, c3, b2, eu, ev⟩ := s_two (v0 := iv ((numberV v).1.k)) (v1 := iv ((numberV v).1.n)) Try.sizeOf23 rfl rfl rfl es
 refine st_act rfl rfl fun im ew => a_store' rfl c2 cZ c3 (ew _ _ trivial ?_)
 have ex := ev _ _ _ (hne369) et
 have aI := ep.trans eu (fun _ h b => by subst b; omega)
 refine st_take rfl rfl (y_assign (v := iv ((numberV v).2)) rfl c0) rfl ?_
 obtain ⟨f2, al⟩ : ∃ a', a' = cY.put (some 7) (iv ((numberV v).2)) := ⟨_, rfl⟩
 have b3 := pz al b0
 have ey := pd al eo
 have f3 := pn al f0 (by decide)
 have io := pn al cZ (by decide)
 have ip := pn al c0 (by decide)
 have f4 := pn al c2 (by decide)
 have f5 : f2.eval (.tmp 7) = iv ((numberV v).2) := by rw [al]; exact put_same _ _ _ (by rw [b0]; decide)
 show stepsTo _ _ _ _ _ (cY.put (some 7) (iv ((numberV v).2))) _
 rw [← al]
 refine st_nil (en _ _ (wp_seq_k fun iq ez => ?_))
 refine wp_g [true, true, true, true, true, true, false, false] [4] [(6, false), (7, true)] 59
   [ve (vv u Au cu Bu du), ve (.tuple #[nv ((numberV u).1), iv ((numberV u).2)]), ve (.tuple #[nv ((numberV u).1), iv ((numberV u).2)]), ve (nv ((numberV u).1)), ve (iv ((numberV u).2)), IsNew f1 23 [iv 0, iv 0], vt, vt]
   [5] (newsCons (fun v w h => IsNew.old h) newsNil) b3 (.eq (.eq (.eq (.eq (.eq (.nw (.tt (.tt (.nil))))))))) ?_ ?_ ?_
 refine .t (fun _ w hn k => ⟨_, v_load rfl (k.fx 3 f3) (l_agg Try.isAgg32 Try.sizeOf32 (ex.new_ hn) rfl), rfl⟩) <| .o1 (ck rfl rfl rfl (fun _ w hn k => ⟨#[vv u Au cu Bu du], args1 (k.eq1 0 46 rfl), fun _ => by kernel_rfl, qnumber_c u _ _ _ _ _ (hmu.new_ (aI.transNew hn)) (hsu.new_ (aI.transNew hn)) hvu⟩) fun _ => rfl) <| .m (fun k => k.eq1 1 47 rfl) <| .t (fun _ w hn k => ⟨_, v_extract rfl (k.eq1 2 45 rfl) rfl, rfl⟩) ?_
 refine .o3 ?_
 exact .o2 (step_allocN (cs := [iv 0, iv 0]) (t := 23) rfl (noG rfl) (fun _ w hn k => rfl) (fun q _ hq hb => ⟨q, rfl, hq, hb⟩)) <| .off <| .off .nil
 intro i h
 simp only [List.contains_eq_mem, List.mem_cons, List.not_mem_nil, or_false, decide_eq_true_eq] at h
 subst h
 exact eager_take rfl rfl fun _ w hn k => ⟨iv ((numberV u).2), fun w => v_extract rfl (k.eq1 2 45 rfl) rfl, rfl⟩
 refine aftI b3 ey aI fun c4 ir b4 eA eB eC aB => ?_
 have f6 := aB.fx 6 f4
 have f7 := aB.fx 7 f5
 have c5 := aB.ge 3 48 rfl
 have c6 := aB.ge 4 49 rfl
 obtain ⟨f8, c7, b5, eD⟩ : IsNew _ _ _ _ _ := aB.got 5 8 rfl (by kernel_rfl)
 have eE := b2.new_ eC
 have hne406 : c1 ≠ f8 := by have h1 := b2.lt; have h2 := b5; omega
 have gV := Nat.le_trans aI.size b5
 obtain ⟨it, -, c8, a4, eF, eG⟩ := s_two (v0 := iv ((numberV u).1.k)) (v1 := iv ((numberV u).1.n)) Try.sizeOf23 rfl rfl rfl eD
 refine st_act rfl rfl fun iu eH => a_store' rfl c7 c5 c8 (eH _ _ trivial ?_)
 have a5 := eG _ _ _ (hne406) eE
 have a6 := eB.trans eF (fun _ h b => by subst b; omega)
 refine st_take rfl rfl (y_assign (v := iv ((numberV u).2)) rfl c6) rfl ?_
 obtain ⟨f9, ai⟩ : ∃ a', a' = c4.put (some 9) (iv ((numberV u).2)) := ⟨_, rfl⟩
 have au := pz ai b4
 have a7 := pd ai eA
 have bl := pn ai f6 (by decide)
 have bm := pn ai f7 (by decide)
 have iw := pn ai c5 (by decide)
 have ix := pn ai c6 (by decide)
 have bn := pn ai c7 (by decide)
 have c9 : f9.eval (.tmp 9) = iv ((numberV u).2) := by rw [ai]; exact put_same _ _ _ (by rw [b4]; decide)
 show stepsTo _ _ _ _ _ (c4.put (some 9) (iv ((numberV u).2))) _
 rw [← ai]
 refine st_nil (ez _ _ (wp_seq_k fun iy eI => ?_))
 refine wp_seq_k fun iz a8 => ?_
 rcases bc (decide (((numberV v).2) = 0)) with aj | aj
 have da := oT aj
 rcases bc (decide (((numberV u).2) = 0)) with ap | ap
 have db := oT ap
 refine wp_g0 [true, true, true, true, true, true] [] 59
   [ve (iv ((numberV v).2)), vF, vF, ve (iv ((numberV u).2)), vF, vF] au (.eq (.eq (.eq (.eq (.eq (.eq (.nil))))))) ?_ ?_
 exact .m (fun k => k.fx 7 bm) <| .t (fun _ w hn k => ⟨_, v_bin rfl (k.eq1 0 50 rfl) rfl (fun _ => rfl) (r_neq aj), rfl⟩) <| .m (fun k => k.eq1 1 51 rfl) <| .gm (fun k => k.eq1 2 52 rfl) (fun k => k.fx 9 c9) <| .g (fun k => k.eq1 2 52 rfl) (fun _ w hn k => ⟨_, v_bin rfl (k.eq1 3 53 rfl) rfl (fun _ => rfl) (r_neq ap), rfl⟩) <| .t (fun _ w hn k => ⟨_, v_pickF rfl (k.eq1 2 52 rfl) (k.eq1 4 54 rfl), rfl⟩) .nil
 refine aftI au a7 a6 fun iA iB b6 eJ eK b7 a9 => ?_
 have ga := a9.fx 6 bl
 have gb := a9.fx 8 bn
 have gc := a9.ge 5 55 rfl
 have eL := a5.new_ b7
 have eM := a4.new_ b7
 refine st_nil (a8 _ _ ?_)
 refine wp_cond_false gc ?_
 refine wp_skip ?_
 refine eI _ _ ?_
 refine wp_seq_k fun iC eN => ?_
 refine wp_g0 [true, true, true, true, true] [] 59
   [ve (nv ((numberV v).1)), ve (nv ((numberV u).1)), ve (.bool (equalM ((numberV v).1) ((numberV u).1))), ve (.bool (equalM ((numberV v).1) ((numberV u).1))), ve (iv 0)] b6 (.eq (.eq (.eq (.eq (.eq (.nil)))))) ?_ ?_
 exact .t (fun _ w hn k => ⟨_, v_load rfl (k.fx 6 ga) (l_two Try.isAgg23 Try.sizeOf23 (eL.new_ hn)), rfl⟩) <| .t (fun _ w hn k => ⟨_, v_load rfl (k.fx 8 gb) (l_two Try.isAgg23 Try.sizeOf23 (eM.new_ hn)), rfl⟩) <| .o1 (ck rfl rfl rfl (fun _ w hn k => ⟨#[nv ((numberV v).1), nv ((numberV u).1)], args2 (k.eq1 0 56 rfl) (k.eq1 1 57 rfl), fun _ => by kernel_rfl, requal_c ((numberV v).1) ((numberV u).1) _ ⟩) fun _ => rfl) <| .a (fun k => k.eq1 2 58 rfl) <| .t (fun _ w hn k => ⟨_, v_assign rfl rfl, rfl⟩) .nil
 refine aftI b6 eJ eK fun iD iE gW eO eP gX b8 => ?_
 have gd := b8.ge 3 4 rfl
 have gg := b8.ge 4 5 rfl
 refine st_nil (eN _ _ ?_)
 refine wp_ret (ret_k eO (v := .tuple #[.bool (equalM ((numberV v).1) ((numberV u).1)), iv 0]) (res_tt rfl gd gg _) ?_)
 refine ⟨?_, eP⟩
 show Ending.returned (.tuple #[.bool (equalM ((numberV v).1) ((numberV u).1)), iv 0]) = Ending.returned (.tuple #[.bool ((besideR v u).1), iv ((besideR v u).2)])
 first | rfl | (simp only [besideR, aa, ab, ah, aj, ap, bsm] <;> rfl) | (exfalso; omega)
 have db := oF ap
 refine wp_g0 [true, true, true, true, true, true] [] 59
   [ve (iv ((numberV v).2)), vF, vF, ve (iv ((numberV u).2)), vT, vT] au (.eq (.eq (.eq (.eq (.eq (.eq (.nil))))))) ?_ ?_
 exact .m (fun k => k.fx 7 bm) <| .t (fun _ w hn k => ⟨_, v_bin rfl (k.eq1 0 50 rfl) rfl (fun _ => rfl) (r_neq aj), rfl⟩) <| .m (fun k => k.eq1 1 51 rfl) <| .gm (fun k => k.eq1 2 52 rfl) (fun k => k.fx 9 c9) <| .g (fun k => k.eq1 2 52 rfl) (fun _ w hn k => ⟨_, v_bin rfl (k.eq1 3 53 rfl) rfl (fun _ => rfl) (r_neq ap), rfl⟩) <| .t (fun _ w hn k => ⟨_, v_pickF rfl (k.eq1 2 52 rfl) (k.eq1 4 54 rfl), rfl⟩) .nil
 refine aftI au a7 a6 fun iF iG b9 eQ eR ca ba => ?_
 have iH := ba.fx 6 bl
 have iI := ba.fx 8 bn
 have gh := ba.ge 5 55 rfl
 have gY := a5.new_ ca
 have gZ := a4.new_ ca
 refine st_nil (a8 _ _ ?_)
 refine wp_cond_true gh ?_
 refine wp_seq_k fun iJ eS => ?_
 refine wp_g0 [true, true] [] 59
   [vF, ve (iv 3)] b9 (.eq (.eq (.nil))) ?_ ?_
 exact .t (fun _ w hn k => ⟨_, v_assign rfl rfl, rfl⟩) <| .t (fun _ w hn k => ⟨_, v_assign rfl rfl, rfl⟩) .nil
 refine aftI b9 eQ eR fun iK iL g0 eT eU g1 cb => ?_
 have gi := cb.ge 0 4 rfl
 have gj := cb.ge 1 5 rfl
 refine st_nil (eS _ _ ?_)
 refine wp_ret (ret_k eT (v := .tuple #[.bool false, iv 3]) (res_tt rfl gi gj _) ?_)
 refine ⟨?_, eU⟩
 show Ending.returned (.tuple #[.bool false, iv 3]) = Ending.returned (.tuple #[.bool ((besideR v u).1), iv ((besideR v u).2)])
 first | rfl | (simp only [besideR, aa, ab, ah, aj, ap, bsm] <;> rfl) | (exfalso; omega)
 have da := oF aj
 refine wp_g0 [true, true, true, true, true, true] [] 59
   [ve (iv ((numberV v).2)), vT, vT, vU, vU, vT] au (.eq (.eq (.eq (.eq (.eq (.eq (.nil))))))) ?_ ?_
 exact .m (fun k => k.fx 7 bm) <| .t (fun _ w hn k => ⟨_, v_bin rfl (k.eq1 0 50 rfl) rfl (fun _ => rfl) (r_neq aj), rfl⟩) <| .m (fun k => k.eq1 1 51 rfl) <| .s (fun k => k.eq1 2 52 rfl) <| .s (fun k => k.eq1 2 52 rfl) <| .t (fun _ w hn k => ⟨_, v_pickT rfl (k.eq1 2 52 rfl) rfl, rfl⟩) .nil
 refine aftI au a7 a6 fun iM iN cc eV eW cd bb => ?_
 have iO := bb.fx 6 bl
 have iP := bb.fx 8 bn
 have gk := bb.ge 5 55 rfl
 have g2 := a5.new_ cd
 have g3 := a4.new_ cd
 refine st_nil (a8 _ _ ?_)
 refine wp_cond_true gk ?_
 refine wp_seq_k fun iQ eX => ?_
 refine wp_g0 [true, true] [] 59
   [vF, ve (iv 3)] cc (.eq (.eq (.nil))) ?_ ?_
 exact .t (fun _ w hn k => ⟨_, v_assign rfl rfl, rfl⟩) <| .t (fun _ w hn k => ⟨_, v_assign rfl rfl, rfl⟩) .nil
 refine aftI cc eV eW fun iR iS g4 eY eZ g5 ce => ?_
 have gl := ce.ge 0 4 rfl
 have gn := ce.ge 1 5 rfl
 refine st_nil (eX _ _ ?_)
 refine wp_ret (ret_k eY (v := .tuple #[.bool false, iv 3]) (res_tt rfl gl gn _) ?_)
 refine ⟨?_, eZ⟩
 show Ending.returned (.tuple #[.bool false, iv 3]) = Ending.returned (.tuple #[.bool ((besideR v u).1), iv ((besideR v u).2)])
 first | rfl | (simp only [besideR, aa, ab, ah, aj, bsm] <;> rfl) | (exfalso; omega)
theorem qloose_c0 (v : Vl) (Av : Option Addr) (cv : Nat) (Bv : Option Addr) (dv : Nat) (u : Vl) (Au : Option Addr) (cu : Nat) (Bu : Option Addr) (du : Nat) (w : World) (hmv : SRow w .u32 Av v.mag cv) (hsv : SRow w .u16 Bv v.s dv) (hmu : SRow w .u32 Au u.mag cu) (hsu : SRow w .u16 Bu u.s du) (hvv : VOk v) (hvu : VOk u) : Calls Try.prog 10 #[vv v Av cv Bv dv, vv u Au cu Bu du] w (IsRet (.tuple #[.bool ((looseR v u).1), iv ((looseR v u).2)]) w) := by
 refine enter_abs Try.func10 rfl fun a0 cd hU hp => ?_
 have cd : a0.tmps.size = 71 := cd
 have dw : New w w := Upd.refl _ _
 have hp0 : a0.eval (.tmp 0) = vv v Av cv Bv dv := hp 0 _ rfl
 have hp1 : a0.eval (.tmp 1) = vv u Au cu Bu du := hp 1 _ rfl
 have hkv := clean_k v
 have hku := clean_k u
 have hrv1 := hvv.clean.rlo
 have hrv2 := hvv.clean.rhi
 have hru1 := hvu.clean.rlo
 have hru2 := hvu.clean.rhi
 refine wp_seq_k fun K1 hV => ?_
 refine wp_g [true, true, true, true] [] [] 71
   [IsNew w 32 [iv v.k, iv v.nk, iv v.nn, .bool v.neg, sv Av v.mag cv, sv Bv v.s dv, iv v.ref], IsNew w 32 [iv u.k, iv u.nk, iv u.nn, .bool u.neg, sv Au u.mag cu, sv Bu u.s du, iv u.ref], vF, ve (iv 0)]
   [0, 1] (newsCons (fun v w h => IsNew.old h) (newsCons (fun v w h => IsNew.old h) newsNil)) cd (.nw (.nw (.eq (.eq (.nil))))) ?_ (fun i h => by cases h) ?_
 exact .o2 (step_allocN (cs := [iv v.k, iv v.nk, iv v.nn, .bool v.neg, sv Av v.mag cv, sv Bv v.s dv, iv v.ref]) (t := 32) rfl (noG rfl) (fun _ w hn k => v_box rfl (k.fx 0 hp0) (fun w => rfl)) (fun q _ hq hb => ⟨q, rfl, hq, hb⟩)) <| .o2 (step_allocN (cs := [iv u.k, iv u.nk, iv u.nn, .bool u.neg, sv Au u.mag cu, sv Bu u.s du, iv u.ref]) (t := 32) rfl (noG rfl) (fun _ w hn k => v_box rfl (k.fx 1 hp1) (fun w => rfl)) (fun q _ hq hb => ⟨q, rfl, hq, hb⟩)) <| .t (fun _ w hn k => ⟨_, v_assign rfl rfl, rfl⟩) <| .t (fun _ w hn k => ⟨_, v_assign rfl rfl, rfl⟩) .nil
 refine aftI cd hU dw fun a2 w3 go hW aI kG gp => ?_
 obtain ⟨q9, h8, gs, gt⟩ : IsNew _ _ _ _ _ := gp.got 0 2 rfl (by kernel_rfl)
 obtain ⟨kH, hX, gu, gv⟩ : IsNew _ _ _ _ _ := gp.got 1 3 rfl (by kernel_rfl)
 have iZ := Nat.le_trans dw.size gs
 have i0 := Nat.le_trans dw.size gu
 refine st_nil (hV _ _ (wp_seq_k fun kI gw => ?_))
 refine wp_g [true, true, true, true, true, true, false, false] [] [(6, false), (7, false)] 71
   [ve (vv v Av cv Bv dv),
    (VP (cleanV v)), ve (vv u Au cu Bu du),
    (VP (cleanV u)), IsNew w3 32 [iv 0, iv 0, iv 0, .bool false, sv none ([]) 0, sv none ([]) 0, iv 0], IsNew w3 32 [iv 0, iv 0, iv 0, .bool false, sv none ([]) 0, sv none ([]) 0, iv 0], vt, vt]
   [4, 5] (newsCons (fun v w h => IsNew.old h) (newsCons (fun v w h => IsNew.old h) newsNil)) go (.eq (.cons (fun v W W' hn ⟨A5, c6, A7, c8, he, h0, h1⟩ => ⟨A5, c6, A7, c8, he, h0.new_ hn, h1.new_ hn⟩) (.eq (.cons (fun v W W' hn ⟨hY, hZ, h2, h3, he, h0, h1⟩ => ⟨hY, hZ, h2, h3, he, h0.new_ hn, h1.new_ hn⟩) (.nw (.nw (.tt (.tt (.nil))))))))) ?_ (fun i h => by cases h) ?_
 refine .t (fun _ w hn k => ⟨_, v_load rfl (k.fx 2 h8) (l_agg Try.isAgg32 Try.sizeOf32 (gt.new_ hn) rfl), rfl⟩) ?_
 refine .o1 (tkC rfl (noG rfl) rfl fun _ w hn k => (by
       refine ⟨#[vv v Av cv Bv dv], _, args1 (k.eq1 0 8 rfl), fun w => by kernel_rfl, qgood_c v _ _ _ _ _ (hmv.new_ (aI.transNew hn)) (hsv.new_ (aI.transNew hn)), ?_⟩
       rintro e w' ⟨A1, c2, A3, c4, rfl, hmo0, hmo1, hm⟩
       exact ⟨_, rfl, hm, ⟨A1, c2, A3, c4, rfl, hmo0, hmo1⟩⟩)) ?_
 refine .t (fun _ w hn k => ⟨_, v_load rfl (k.fx 3 hX) (l_agg Try.isAgg32 Try.sizeOf32 (gv.new_ hn) rfl), rfl⟩) ?_
 refine .o1 (tkC rfl (noG rfl) rfl fun _ w hn k => (by
       refine ⟨#[vv u Au cu Bu du], _, args1 (k.eq1 2 10 rfl), fun w => by kernel_rfl, qgood_c u _ _ _ _ _ (hmu.new_ (aI.transNew hn)) (hsu.new_ (aI.transNew hn)), ?_⟩
       rintro e w' ⟨A9, h4, h5, h6, rfl, hmo0, hmo1, hm⟩
       exact ⟨_, rfl, hm, ⟨A9, h4, h5, h6, rfl, hmo0, hmo1⟩⟩)) ?_
 exact .o2 (step_allocN (cs := [iv 0, iv 0, iv 0, .bool false, sv none ([]) 0, sv none ([]) 0, iv 0]) (t := 32) rfl (noG rfl) (fun _ w hn k => rfl) (fun q _ hq hb => ⟨q, rfl, hq, hb⟩)) <| .o2 (step_allocN (cs := [iv 0, iv 0, iv 0, .bool false, sv none ([]) 0, sv none ([]) 0, iv 0]) (t := 32) rfl (noG rfl) (fun _ w hn k => rfl) (fun q _ hq hb => ⟨q, rfl, hq, hb⟩)) <| .off <| .off .nil
 refine aftI go hW aI fun gq kJ dx gx gy i1 bb => ?_
 obtain ⟨au, ai, av, aj, dy, gz, gA⟩ : (VP (cleanV v)) _ _ := bb.got 1 9 rfl (by kernel_rfl)
 have dy : gq.eval (.tmp 9) = vv (cleanV v) au ai av aj := dy
 obtain ⟨aw, ak, ax, al, dz, gB, gC⟩ : (VP (cleanV u)) _ _ := bb.got 3 11 rfl (by kernel_rfl)
 have dz : gq.eval (.tmp 11) = vv (cleanV u) aw ak ax al := dz
 obtain ⟨ae, ce, gD, bd⟩ : IsNew _ _ _ _ _ := bb.got 4 6 rfl (by kernel_rfl)
 obtain ⟨ag, cf, gE, gF⟩ : IsNew _ _ _ _ _ := bb.got 5 7 rfl (by kernel_rfl)
 have hne48 : ae ≠ ag := bb.ne 4 5 6 7 ce cf
 have i2 := Nat.le_trans aI.size gD
 have i3 := Nat.le_trans aI.size gE
 obtain ⟨h7, d5, bj, be, gG⟩ := s_many (P := Try.prog) (t := 32) (i := 0) [iv ((cleanV v).k), iv ((cleanV v).nk), iv ((cleanV v).nn), .bool ((cleanV v).neg), sv au ((cleanV v).mag) ai, sv av ((cleanV v).s) aj, iv ((cleanV v).ref)] Try.sizeOf32 rfl rfl rfl bd lb
 have gH : Blk h7 ae 32 [iv ((cleanV v).k), iv ((cleanV v).nk), iv ((cleanV v).nn), .bool ((cleanV v).neg), sv au ((cleanV v).mag) ai, sv av ((cleanV v).s) aj, iv ((cleanV v).ref)] := bj
 refine st_act rfl rfl fun kK gI => a_store' rfl ce dy d5 (gI _ _ trivial ?_)
 have gJ := gz.far bd be (by first | rfl | decide | simp [notK])
 have gK := gA.far bd be (by first | rfl | decide | simp [notK])
 have gL := gB.far bd be (by first | rfl | decide | simp [notK])
 have gM := gC.far bd be (by first | rfl | decide | simp [notK])
 have bf := gG _ _ _ (fun h => hne48 h.symm) gF
 have gN := gy.trans be (fun _ h b => by subst b; omega)
 obtain ⟨h9, d6, d7, bg, gO⟩ := s_many (P := Try.prog) (t := 32) (i := 0) [iv ((cleanV u).k), iv ((cleanV u).nk), iv ((cleanV u).nn), .bool ((cleanV u).neg), sv aw ((cleanV u).mag) ak, sv ax ((cleanV u).s) al, iv ((cleanV u).ref)] Try.sizeOf32 rfl rfl rfl bf lb
 have dA : Blk h9 ag 32 [iv ((cleanV u).k), iv ((cleanV u).nk), iv ((cleanV u).nn), .bool ((cleanV u).neg), sv aw ((cleanV u).mag) ak, sv ax ((cleanV u).s) al, iv ((cleanV u).ref)] := d7
 refine st_act rfl rfl fun kL gP => a_store' rfl cf dz d6 (gP _ _ trivial ?_)
 have gQ := gJ.far bf bg (by first | rfl | decide | simp [notK])
 have gR := gK.far bf bg (by first | rfl | decide | simp [notK])
 have gS := gL.far bf bg (by first | rfl | decide | simp [notK])
 have gT := gM.far bf bg (by first | rfl | decide | simp [notK])
 have dB := gO _ _ _ (hne48) gH
 have gU := gN.trans bg (fun _ h b => by subst b; omega)
 refine st_nil (gw _ _ (wp_seq_k fun kM gV => ?_))
 refine wp_seq_k fun kN gW => ?_
 refine wp_g0 [true, true, true, true, true] [] 71
   [ve (pv ae), ve (iv ((cleanV v).k)), ve (pv ag), ve (iv ((cleanV u).k)), ve (.bool (decide (((cleanV v).k) = ((cleanV u).k))))] dx (.eq (.eq (.eq (.eq (.eq (.nil)))))) ?_ ?_
 exact .f (fun k => k.fx 6 ce) <| .t (fun _ w hn k => ⟨_, v_load rfl (k.eq1 0 12 rfl) (l_one Try.isAgg3 ((dB.new_ hn).cell 0)), rfl⟩) <| .f (fun k => k.fx 7 cf) <| .t (fun _ w hn k => ⟨_, v_load rfl (k.eq1 2 14 rfl) (l_one Try.isAgg3 ((dA.new_ hn).cell 0)), rfl⟩) <| .t (fun _ w hn k => ⟨_, v_bin rfl (k.eq1 1 13 rfl) (k.eq1 3 15 rfl) (fun _ => rfl) (r_eql rfl), rfl⟩) .nil
 refine aftI dx gx gU fun kO kP aO bW bX aP bY => ?_
 have bV := bY.fx 6 ce
 have ch := bY.fx 7 cf
 have gr := bY.ge 4 16 rfl
 have bh := dB.new_ aP
 have bk := dA.new_ aP
 have bZ := gQ.new_ aP
 have b0 := gR.new_ aP
 have b1 := gS.new_ aP
 have b2 := gT.new_ aP
 refine st_nil (gW _ _ ?_)
 rcases bc (decide (((cleanV v).k) = ((cleanV u).k))) with ac | ac
 have d8 := oT ac
 have gX := hB gr ac
 refine wp_cond_true gX ?_
 refine wp_seq_k fun kQ gY => ?_
 refine wp_g0 [true, true, true, true, true] [] 71
   [ve (vv (cleanV v) au ai av aj), ve (vv (cleanV u) aw ak ax al), ve (.bool (strictV (cleanV v) (cleanV u))), ve (.bool (strictV (cleanV v) (cleanV u))), ve (iv 0)] aO (.eq (.eq (.eq (.eq (.eq (.nil)))))) ?_ ?_
 exact .t (fun _ w hn k => ⟨_, v_load rfl (k.fx 6 bV) (l_agg Try.isAgg32 Try.sizeOf32 (bh.new_ hn) rfl), rfl⟩) <| .t (fun _ w hn k => ⟨_, v_load rfl (k.fx 7 ch) (l_agg Try.isAgg32 Try.sizeOf32 (bk.new_ hn) rfl), rfl⟩) <| .o1 (ck rfl rfl rfl (fun _ w hn k => ⟨#[vv (cleanV v) au ai av aj, vv (cleanV u) aw ak ax al], args2 (k.eq1 0 17 rfl) (k.eq1 1 18 rfl), fun _ => by kernel_rfl, qstrict_c (cleanV v) _ _ _ _ (cleanV u) _ _ _ _ _ (bZ.new_ hn) (b0.new_ hn) (b1.new_ hn) (b2.new_ hn)⟩) fun _ => rfl) <| .a (fun k => k.eq1 2 19 rfl) <| .t (fun _ w hn k => ⟨_, v_assign rfl rfl, rfl⟩) .nil
 refine aftI aO bW bX fun kR i4 ia d9 ea ib ci => ?_
 have gZ := ci.ge 3 4 rfl
 have g0 := ci.ge 4 5 rfl
 refine st_nil (gY _ _ ?_)
 refine wp_ret (ret_k d9 (v := .tuple #[.bool (strictV (cleanV v) (cleanV u)), iv 0]) (res_tt rfl gZ g0 _) ?_)
 refine ⟨?_, ea⟩
 show Ending.returned (.tuple #[.bool (strictV (cleanV v) (cleanV u)), iv 0]) = Ending.returned (.tuple #[.bool ((looseR v u).1), iv ((looseR v u).2)])
 first | rfl | (simp only [looseR, loose3R, countedV, ac, bsm] <;> rfl) | (exfalso; omega)
 have d8 := oF ac
 have eb := hB gr ac
 refine wp_cond_false eb ?_
 refine wp_skip ?_
 refine gV _ _ ?_
 refine wp_seq_k fun i5 ec => ?_
 refine wp_seq_k fun i6 cj => ?_
 rcases bc (decide (((cleanV v).k) ≤ 1)) with aa | aa
 have dC := oT aa
 refine wp_g0 (.replicate 8 true) [] 71
   [ve (pv ae), ve (iv ((cleanV v).k)), vT, vT, vU, vU, vU, vT] aO (.eq (.eq (.eq (.eq (.eq (.eq (.eq (.eq (.nil))))))))) ?_ ?_
 exact .f (fun k => k.fx 6 bV) <| .t (fun _ w hn k => ⟨_, v_load rfl (k.eq1 0 20 rfl) (l_one Try.isAgg3 ((bh.new_ hn).cell 0)), rfl⟩) <| .t (fun _ w hn k => ⟨_, v_bin rfl (k.eq1 1 21 rfl) rfl (fun _ => rfl) (r_leqK aa), rfl⟩) <| .m (fun k => k.eq1 2 22 rfl) <| .s (fun k => k.eq1 3 23 rfl) <| .s (fun k => k.eq1 3 23 rfl) <| .s (fun k => k.eq1 3 23 rfl) <| .t (fun _ w hn k => ⟨_, v_pickT rfl (k.eq1 3 23 rfl) rfl, rfl⟩) .nil
 refine aftI aO bW bX fun i7 i8 cl ed ee ay bl => ?_
 have g1 := bl.fx 6 bV
 have g2 := bl.fx 7 ch
 have g3 := bl.ge 7 27 rfl
 have ef := bh.new_ ay
 have eg := bk.new_ ay
 have ic := bZ.new_ ay
 have id := b0.new_ ay
 have ie := b1.new_ ay
 have ig := b2.new_ ay
 refine st_nil (cj _ _ ?_)
 refine wp_cond_true g3 ?_
 refine wp_seq_k fun i9 eh => ?_
 refine wp_g0 (.replicate 10 true) [] 71
   [ve (pv ae), ve (iv ((cleanV v).k)), vT, vT, ve (pv ag), ve (iv ((cleanV u).k)), ve (.bool (decide (((cleanV u).k) ≤ 1))), ve (.bool (decide (((cleanV u).k) ≤ 1))), ve (.bool (decide (((cleanV u).k) ≤ 1))), ve (iv 0)] cl (.eq (.eq (.eq (.eq (.eq (.eq (.eq (.eq (.eq (.eq (.nil))))))))))) ?_ ?_
 exact .f (fun k => k.fx 6 g1) <| .t (fun _ w hn k => ⟨_, v_load rfl (k.eq1 0 28 rfl) (l_one Try.isAgg3 ((ef.new_ hn).cell 0)), rfl⟩) <| .t (fun _ w hn k => ⟨_, v_bin rfl (k.eq1 1 29 rfl) rfl (fun _ => rfl) (r_leqK aa), rfl⟩) <| .m (fun k => k.eq1 2 30 rfl) <| .gf (fun k => k.eq1 3 31 rfl) (fun k => k.fx 7 g2) <| .g (fun k => k.eq1 3 31 rfl) (fun _ w hn k => ⟨_, v_load rfl (k.eq1 4 32 rfl) (l_one Try.isAgg3 ((eg.new_ hn).cell 0)), rfl⟩) <| .g (fun k => k.eq1 3 31 rfl) (fun _ w hn k => ⟨_, v_bin rfl (k.eq1 5 33 rfl) rfl (fun _ => rfl) (r_leqK rfl), rfl⟩) <| .t (fun _ w hn k => ⟨_, v_pickT rfl (k.eq1 3 31 rfl) (k.eq1 6 34 rfl), rfl⟩) <| .a (fun k => k.eq1 7 35 rfl) <| .t (fun _ w hn k => ⟨_, v_assign rfl rfl, rfl⟩) .nil
 refine aftI cl ed ee fun ja jb ih ei ej ii cm => ?_
 have g4 := cm.ge 8 4 rfl
 have g5 := cm.ge 9 5 rfl
 refine st_nil (eh _ _ ?_)
 refine wp_ret (ret_k ei (v := .tuple #[.bool (decide (((cleanV u).k) ≤ 1)), iv 0]) (res_tt rfl g4 g5 _) ?_)
 refine ⟨?_, ej⟩
 show Ending.returned (.tuple #[.bool (decide (((cleanV u).k) ≤ 1)), iv 0]) = Ending.returned (.tuple #[.bool ((looseR v u).1), iv ((looseR v u).2)])
 first | rfl | (simp only [looseR, loose3R, countedV, ac, aa, bsm] <;> rfl) | (exfalso; omega)
 have dC := oF aa
 refine wp_g0 (.replicate 8 true) [] 71
   [ve (pv ae), ve (iv ((cleanV v).k)), vF, vF, ve (pv ag), ve (iv ((cleanV u).k)), ve (.bool (decide (((cleanV u).k) ≤ 1))), ve (.bool (decide (((cleanV u).k) ≤ 1)))] aO (.eq (.eq (.eq (.eq (.eq (.eq (.eq (.eq (.nil))))))))) ?_ ?_
 exact .f (fun k => k.fx 6 bV) <| .t (fun _ w hn k => ⟨_, v_load rfl (k.eq1 0 20 rfl) (l_one Try.isAgg3 ((bh.new_ hn).cell 0)), rfl⟩) <| .t (fun _ w hn k => ⟨_, v_bin rfl (k.eq1 1 21 rfl) rfl (fun _ => rfl) (r_leqK aa), rfl⟩) <| .m (fun k => k.eq1 2 22 rfl) <| .gf (fun k => k.eq1 3 23 rfl) (fun k => k.fx 7 ch) <| .g (fun k => k.eq1 3 23 rfl) (fun _ w hn k => ⟨_, v_load rfl (k.eq1 4 24 rfl) (l_one Try.isAgg3 ((bk.new_ hn).cell 0)), rfl⟩) <| .g (fun k => k.eq1 3 23 rfl) (fun _ w hn k => ⟨_, v_bin rfl (k.eq1 5 25 rfl) rfl (fun _ => rfl) (r_leqK rfl), rfl⟩) <| .t (fun _ w hn k => ⟨_, v_pickF rfl (k.eq1 3 23 rfl) (k.eq1 6 26 rfl), rfl⟩) .nil
 refine aftI aO bW bX fun jc jd aQ cn co az bm => ?_
 have b3 := bm.fx 6 bV
 have g6 := bm.fx 7 ch
 have dD := bm.ge 7 27 rfl
 have bn := bh.new_ az
 have ek := bk.new_ az
 have el := bZ.new_ az
 have em := b0.new_ az
 have en := b1.new_ az
 have eo := b2.new_ az
 refine st_nil (cj _ _ ?_)
 rcases bc (decide (((cleanV u).k) ≤ 1)) with ab | ab
 have dE := oT ab
 have ep := hB dD ab
 refine wp_cond_true ep ?_
 refine wp_seq_k fun je er => ?_
 refine wp_g0 (.replicate 10 true) [] 71
   [ve (pv ae), ve (iv ((cleanV v).k)), vF, vF, vU, vU, vU, vF, vF, ve (iv 0)] aQ (.eq (.eq (.eq (.eq (.eq (.eq (.eq (.eq (.eq (.eq (.nil))))))))))) ?_ ?_
 exact .f (fun k => k.fx 6 b3) <| .t (fun _ w hn k => ⟨_, v_load rfl (k.eq1 0 28 rfl) (l_one Try.isAgg3 ((bn.new_ hn).cell 0)), rfl⟩) <| .t (fun _ w hn k => ⟨_, v_bin rfl (k.eq1 1 29 rfl) rfl (fun _ => rfl) (r_leqK aa), rfl⟩) <| .m (fun k => k.eq1 2 30 rfl) <| .s (fun k => k.eq1 3 31 rfl) <| .s (fun k => k.eq1 3 31 rfl) <| .s (fun k => k.eq1 3 31 rfl) <| .t (fun _ w hn k => ⟨_, v_pickF rfl (k.eq1 3 31 rfl) rfl, rfl⟩) <| .a (fun k => k.eq1 7 35 rfl) <| .t (fun _ w hn k => ⟨_, v_assign rfl rfl, rfl⟩) .nil
 refine aftI aQ cn co fun jf jg ij es et ik cp => ?_
 have g7 := cp.ge 8 4 rfl
 have g8 := cp.ge 9 5 rfl
 refine st_nil (er _ _ ?_)
 refine wp_ret (ret_k es (v := .tuple #[.bool false, iv 0]) (res_tt rfl g7 g8 _) ?_)
 refine ⟨?_, et⟩
 show Ending.returned (.tuple #[.bool false, iv 0]) = Ending.returned (.tuple #[.bool ((looseR v u).1), iv ((looseR v u).2)])
 first | rfl | (simp only [looseR, loose3R, countedV, ac, aa, ab, bsm] <;> rfl) | (exfalso; omega)
 have dE := oF ab
 have eu := hB dD ab
 refine wp_cond_false eu ?_
 refine wp_skip ?_
 refine ec _ _ ?_
 refine wp_seq_k fun jh cq => ?_
 refine wp_seq_k fun ji ev => ?_
 refine wp_g0 [true, true, true] [] 71
   [ve (pv ae), ve (iv ((cleanV v).k)), ve (.bool (decide (((cleanV v).k) = 2)))] aQ (.eq (.eq (.eq (.nil)))) ?_ ?_
 exact .f (fun k => k.fx 6 b3) <| .t (fun _ w hn k => ⟨_, v_load rfl (k.eq1 0 36 rfl) (l_one Try.isAgg3 ((bn.new_ hn).cell 0)), rfl⟩) <| .t (fun _ w hn k => ⟨_, v_bin rfl (k.eq1 1 37 rfl) rfl (fun _ => rfl) (r_eql rfl), rfl⟩) .nil
 refine aftI aQ cn co fun jj jk aR cr ct aA bo => ?_
 have b4 := bo.fx 6 b3
 have b5 := bo.fx 7 g6
 have dF := bo.ge 2 38 rfl
 have bp := bn.new_ aA
 have bq := ek.new_ aA
 have cw := el.new_ aA
 have cx := em.new_ aA
 have cy := en.new_ aA
 have cz := eo.new_ aA
 refine st_nil (ev _ _ ?_)
 rcases bc (decide (((cleanV v).k) = 2)) with ad | ad
 have dG := oT ad
 have ew := hB dF ad
 refine wp_cond_true ew ?_
 refine wp_g0 [true, true, true, true, false] [(4, false)] 71
   [ve (.pointer (some ⟨ae, 6, none⟩)), ve (iv ((cleanV v).ref)), ve (nv (Nm.mk 0 ((cleanV v).ref))), ve (vv (Vl.mk 3 0 (cleanV v).ref false [] [] 0) none 0 none 0), vt] aR (.eq (.eq (.eq (.eq (.tt (.nil)))))) ?_ ?_
 exact .f (fun k => k.fx 6 b4) <| .t (fun _ w hn k => ⟨_, v_load rfl (k.eq1 0 39 rfl) (l_one Try.isAgg3 ((bp.new_ hn).cell 6)), rfl⟩) <| .t (fun _ w hn k => ⟨_, v_build (ps := [(1, iv ((cleanV v).ref))]) rfl (parts1 (k.eq1 1 40 rfl)) (by kernel_rfl), rfl⟩) <| .o1 (ck rfl rfl rfl (fun _ w hn k => ⟨#[nv (Nm.mk 0 ((cleanV v).ref))], args1 (k.eq1 2 41 rfl), fun _ => by kernel_rfl, qnum_c (Nm.mk 0 ((cleanV v).ref)) _ ⟩) fun _ => rfl) <| .off .nil
 refine aftI aR cr ct fun jl jm cA ex ey aB br => ?_
 have dH := br.fx 6 b4
 have dI := br.fx 7 b5
 have g9 := br.ge 3 42 rfl
 have aJ := bp.new_ aB
 have ez := bq.new_ aB
 have eA := cw.new_ aB
 have eB := cx.new_ aB
 have eC := cy.new_ aB
 have eD := cz.new_ aB
 obtain ⟨ha, dJ, dK, aK, eE⟩ := s_many (P := Try.prog) (t := 32) (i := 0) [iv 3, iv 0, iv ((cleanV v).ref), .bool false, sv none ([]) 0, sv none ([]) 0, iv 0] Try.sizeOf32 rfl rfl rfl aJ lb
 have eF : Blk ha ae 32 [iv 3, iv 0, iv ((cleanV v).ref), .bool false, sv none ([]) 0, sv none ([]) 0, iv 0] := dK
 refine st_act rfl rfl fun jn eG => a_store' rfl dH g9 dJ (eG _ _ trivial ?_)
 have il := eA.far aJ aK (by first | rfl | decide | simp [notK])
 have im := eB.far aJ aK (by first | rfl | decide | simp [notK])
 have eH := eC.far aJ aK (by first | rfl | decide | simp [notK])
 have eI := eD.far aJ aK (by first | rfl | decide | simp [notK])
 have cB := eE _ _ _ (fun h => hne48 h.symm) ez
 have eJ := ey.trans aK (fun _ h b => by subst b; omega)
 refine st_nil (cq _ _ (wp_seq_k fun jo cC => ?_))
 refine wp_seq_k fun jp eK => ?_
 refine wp_g0 [true, true, true] [] 71
   [ve (pv ag), ve (iv ((cleanV u).k)), ve (.bool (decide (((cleanV u).k) = 2)))] cA (.eq (.eq (.eq (.nil)))) ?_ ?_
 exact .f (fun k => k.fx 7 dI) <| .t (fun _ w hn k => ⟨_, v_load rfl (k.eq1 0 43 rfl) (l_one Try.isAgg3 ((cB.new_ hn).cell 0)), rfl⟩) <| .t (fun _ w hn k => ⟨_, v_bin rfl (k.eq1 1 44 rfl) rfl (fun _ => rfl) (r_eql rfl), rfl⟩) .nil
 refine aftI cA ex eJ fun jq jr aS cD cE aT bs => ?_
 have b6 := bs.fx 6 dH
 have bt := bs.fx 7 dI
 have dL := bs.ge 2 45 rfl
 have bu := eF.new_ aT
 have aU := cB.new_ aT
 have cF := eH.new_ aT
 have cG := eI.new_ aT
 refine st_nil (eK _ _ ?_)
 rcases bc (decide (((cleanV u).k) = 2)) with ah | ah
 have dM := oT ah
 have eL := hB dL ah
 refine wp_cond_true eL ?_
 refine wp_g0 [true, true, true, true, false] [(4, false)] 71
   [ve (.pointer (some ⟨ag, 6, none⟩)), ve (iv ((cleanV u).ref)), ve (nv (Nm.mk 0 ((cleanV u).ref))), ve (vv (Vl.mk 3 0 (cleanV u).ref false [] [] 0) none 0 none 0), vt] aS (.eq (.eq (.eq (.eq (.tt (.nil)))))) ?_ ?_
 exact .f (fun k => k.fx 7 bt) <| .t (fun _ w hn k => ⟨_, v_load rfl (k.eq1 0 46 rfl) (l_one Try.isAgg3 ((aU.new_ hn).cell 6)), rfl⟩) <| .t (fun _ w hn k => ⟨_, v_build (ps := [(1, iv ((cleanV u).ref))]) rfl (parts1 (k.eq1 1 47 rfl)) (by kernel_rfl), rfl⟩) <| .o1 (ck rfl rfl rfl (fun _ w hn k => ⟨#[nv (Nm.mk 0 ((cleanV u).ref))], args1 (k.eq1 2 48 rfl), fun _ => by kernel_rfl, qnum_c (Nm.mk 0 ((cleanV u).ref)) _ ⟩) fun _ => rfl) <| .off .nil
 refine aftI aS cD cE fun js jt cH eM eN aV bv => ?_
 have dN := bv.fx 6 b6
 have b7 := bv.fx 7 bt
 have hc := bv.ge 3 49 rfl
 have eO := bu.new_ aV
 have bw := aU.new_ aV
 have eP := cF.new_ aV
 have eQ := cG.new_ aV
 obtain ⟨hd, dO, dP, bx, eR⟩ := s_many (P := Try.prog) (t := 32) (i := 0) [iv 3, iv 0, iv ((cleanV u).ref), .bool false, sv none ([]) 0, sv none ([]) 0, iv 0] Try.sizeOf32 rfl rfl rfl bw lb
 have cI : Blk hd ag 32 [iv 3, iv 0, iv ((cleanV u).ref), .bool false, sv none ([]) 0, sv none ([]) 0, iv 0] := dP
 refine st_act rfl rfl fun ju eS => a_store' rfl b7 hc dO (eS _ _ trivial ?_)
 have io := eP.far bw bx (by first | rfl | decide | simp [notK])
 have ip := eQ.far bw bx (by first | rfl | decide | simp [notK])
 have cJ := eR _ _ _ (hne48) eO
 have eT := eN.trans bx (fun _ h b => by subst b; omega)
 refine st_nil (cC _ _ (wp_seq_k fun jv iq => ?_))
 refine wp_seq_k fun jw eU => ?_
 refine wp_g0 [true, true, true, true, true] [] 71
   [ve (pv ae), ve (iv 3), ve (pv ag), ve (iv 3), vT] cH (.eq (.eq (.eq (.eq (.eq (.nil)))))) ?_ ?_
 exact .f (fun k => k.fx 6 dN) <| .t (fun _ w hn k => ⟨_, v_load rfl (k.eq1 0 50 rfl) (l_one Try.isAgg3 ((cJ.new_ hn).cell 0)), rfl⟩) <| .f (fun k => k.fx 7 b7) <| .t (fun _ w hn k => ⟨_, v_load rfl (k.eq1 2 52 rfl) (l_one Try.isAgg3 ((cI.new_ hn).cell 0)), rfl⟩) <| .t (fun _ w hn k => ⟨_, v_bin rfl (k.eq1 1 51 rfl) (k.eq1 3 53 rfl) (fun _ => rfl) (fun w => by kernel_rfl), rfl⟩) .nil
 refine aftI cH eM eT fun jx jy cK eV eW cL bz => ?_
 have hf := bz.fx 6 dN
 have hg := bz.fx 7 b7
 have hh := bz.ge 4 54 rfl
 have eX := cJ.new_ cL
 have eY := cI.new_ cL
 refine st_nil (eU _ _ ?_)
 refine wp_cond_true hh ?_
 refine wp_seq_k fun jz eZ => ?_
 refine wp_g0 [true, true, true, true, true] [] 71
   [ve (vv (Vl.mk 3 0 (cleanV v).ref false [] [] 0) none 0 none 0), ve (vv (Vl.mk 3 0 (cleanV u).ref false [] [] 0) none 0 none 0), ve (.bool (strictV (Vl.mk 3 0 (cleanV v).ref false [] [] 0) (Vl.mk 3 0 (cleanV u).ref false [] [] 0))), ve (.bool (strictV (Vl.mk 3 0 (cleanV v).ref false [] [] 0) (Vl.mk 3 0 (cleanV u).ref false [] [] 0))), ve (iv 0)] cK (.eq (.eq (.eq (.eq (.eq (.nil)))))) ?_ ?_
 exact .t (fun _ w hn k => ⟨_, v_load rfl (k.fx 6 hf) (l_agg Try.isAgg32 Try.sizeOf32 (eX.new_ hn) rfl), rfl⟩) <| .t (fun _ w hn k => ⟨_, v_load rfl (k.fx 7 hg) (l_agg Try.isAgg32 Try.sizeOf32 (eY.new_ hn) rfl), rfl⟩) <| .o1 (ck rfl rfl rfl (fun _ w hn k => ⟨#[vv (Vl.mk 3 0 (cleanV v).ref false [] [] 0) none 0 none 0, vv (Vl.mk 3 0 (cleanV u).ref false [] [] 0) none 0 none 0], args2 (k.eq1 0 55 rfl) (k.eq1 1 56 rfl), fun _ => by kernel_rfl, qstrict_c (Vl.mk 3 0 (cleanV v).ref false [] [] 0) _ _ _ _ (Vl.mk 3 0 (cleanV u).ref false [] [] 0) _ _ _ _ _ (SRow.nil _ _) (SRow.nil _ _) (SRow.nil _ _) (SRow.nil _ _)⟩) fun _ => rfl) <| .a (fun k => k.eq1 2 57 rfl) <| .t (fun _ w hn k => ⟨_, v_assign rfl rfl, rfl⟩) .nil
 refine aftI cK eV eW fun jA jB ir e0 e1 it cM => ?_
 have hi := cM.ge 3 4 rfl
 have hj := cM.ge 4 5 rfl
 refine st_nil (eZ _ _ ?_)
 refine wp_ret (ret_k e0 (v := .tuple #[.bool (strictV (Vl.mk 3 0 (cleanV v).ref false [] [] 0) (Vl.mk 3 0 (cleanV u).ref false [] [] 0)), iv 0]) (res_tt rfl hi hj _) ?_)
 refine ⟨?_, e1⟩
 show Ending.returned (.tuple #[.bool (strictV (Vl.mk 3 0 (cleanV v).ref false [] [] 0) (Vl.mk 3 0 (cleanV u).ref false [] [] 0)), iv 0]) = Ending.returned (.tuple #[.bool ((looseR v u).1), iv ((looseR v u).2)])
 first | rfl | (simp only [looseR, loose3R, countedV, ac, aa, ab, ad, ah, bsm] <;> rfl) | (exfalso; omega)
 have dM := oF ah
 have e2 := hB dL ah
 refine wp_cond_false e2 ?_
 refine wp_skip ?_
 refine cC _ _ ?_
 refine wp_seq_k fun jC e3 => ?_
 refine wp_seq_k fun jD e4 => ?_
 refine wp_g0 [true, true, true, true, true] [] 71
   [ve (pv ae), ve (iv 3), ve (pv ag), ve (iv ((cleanV u).k)), ve (.bool (decide (3 = ((cleanV u).k))))] aS (.eq (.eq (.eq (.eq (.eq (.nil)))))) ?_ ?_
 exact .f (fun k => k.fx 6 b6) <| .t (fun _ w hn k => ⟨_, v_load rfl (k.eq1 0 50 rfl) (l_one Try.isAgg3 ((bu.new_ hn).cell 0)), rfl⟩) <| .f (fun k => k.fx 7 bt) <| .t (fun _ w hn k => ⟨_, v_load rfl (k.eq1 2 52 rfl) (l_one Try.isAgg3 ((aU.new_ hn).cell 0)), rfl⟩) <| .t (fun _ w hn k => ⟨_, v_bin rfl (k.eq1 1 51 rfl) (k.eq1 3 53 rfl) (fun _ => rfl) (r_eql rfl), rfl⟩) .nil
 refine aftI aS cD cE fun jE jF aW cN cO aX bA => ?_
 have b8 := bA.fx 6 b6
 have b9 := bA.fx 7 bt
 have dQ := bA.ge 4 54 rfl
 have bB := bu.new_ aX
 have bC := aU.new_ aX
 have cP := cF.new_ aX
 have cQ := cG.new_ aX
 refine st_nil (e4 _ _ ?_)
 rcases bc (decide (3 = ((cleanV u).k))) with am | am
 have dR := oT am
 have e5 := hB dQ am
 refine wp_cond_true e5 ?_
 refine wp_seq_k fun jG e6 => ?_
 refine wp_g0 [true, true, true, true, true] [] 71
   [ve (vv (Vl.mk 3 0 (cleanV v).ref false [] [] 0) none 0 none 0), ve (vv (cleanV u) aw ak ax al), ve (.bool (strictV (Vl.mk 3 0 (cleanV v).ref false [] [] 0) (cleanV u))), ve (.bool (strictV (Vl.mk 3 0 (cleanV v).ref false [] [] 0) (cleanV u))), ve (iv 0)] aW (.eq (.eq (.eq (.eq (.eq (.nil)))))) ?_ ?_
 exact .t (fun _ w hn k => ⟨_, v_load rfl (k.fx 6 b8) (l_agg Try.isAgg32 Try.sizeOf32 (bB.new_ hn) rfl), rfl⟩) <| .t (fun _ w hn k => ⟨_, v_load rfl (k.fx 7 b9) (l_agg Try.isAgg32 Try.sizeOf32 (bC.new_ hn) rfl), rfl⟩) <| .o1 (ck rfl rfl rfl (fun _ w hn k => ⟨#[vv (Vl.mk 3 0 (cleanV v).ref false [] [] 0) none 0 none 0, vv (cleanV u) aw ak ax al], args2 (k.eq1 0 55 rfl) (k.eq1 1 56 rfl), fun _ => by kernel_rfl, qstrict_c (Vl.mk 3 0 (cleanV v).ref false [] [] 0) _ _ _ _ (cleanV u) _ _ _ _ _ (SRow.nil _ _) (SRow.nil _ _) (cP.new_ hn) (cQ.new_ hn)⟩) fun _ => rfl) <| .a (fun k => k.eq1 2 57 rfl) <| .t (fun _ w hn k => ⟨_, v_assign rfl rfl, rfl⟩) .nil
 refine aftI aW cN cO fun jH jI iu e7 e8 iw cR => ?_
 have hl := cR.ge 3 4 rfl
 have ho := cR.ge 4 5 rfl
 refine st_nil (e6 _ _ ?_)
 refine wp_ret (ret_k e7 (v := .tuple #[.bool (strictV (Vl.mk 3 0 (cleanV v).ref false [] [] 0) (cleanV u)), iv 0]) (res_tt rfl hl ho _) ?_)
 refine ⟨?_, e8⟩
 show Ending.returned (.tuple #[.bool (strictV (Vl.mk 3 0 (cleanV v).ref false [] [] 0) (cleanV u)), iv 0]) = Ending.returned (.tuple #[.bool ((looseR v u).1), iv ((looseR v u).2)])
 first | rfl | (simp only [looseR, loose3R, countedV, ac, aa, ab, ad, ah, am, bsm] <;> rfl) | (exfalso; omega)
 have dR := oF am
 have e9 := hB dQ am
 refine wp_cond_false e9 ?_
 refine wp_skip ?_
 refine e3 _ _ ?_
 refine wp_seq_k fun jJ fa => ?_
 refine wp_seq_k fun jK fb => ?_
 refine wp_g0 (.replicate 8 true) [] 71
   [ve (pv ae), ve (iv 3), vF, vF, ve (pv ag), ve (iv ((cleanV u).k)), ve (.bool (decide (((cleanV u).k) = 6))), ve (.bool (decide (((cleanV u).k) = 6)))] aW (.eq (.eq (.eq (.eq (.eq (.eq (.eq (.eq (.nil))))))))) ?_ ?_
 exact .f (fun k => k.fx 6 b8) <| .t (fun _ w hn k => ⟨_, v_load rfl (k.eq1 0 58 rfl) (l_one Try.isAgg3 ((bB.new_ hn).cell 0)), rfl⟩) <| .t (fun _ w hn k => ⟨_, v_bin rfl (k.eq1 1 59 rfl) rfl (fun _ => rfl) (fun w => by kernel_rfl), rfl⟩) <| .m (fun k => k.eq1 2 60 rfl) <| .gf (fun k => k.eq1 3 61 rfl) (fun k => k.fx 7 b9) <| .g (fun k => k.eq1 3 61 rfl) (fun _ w hn k => ⟨_, v_load rfl (k.eq1 4 62 rfl) (l_one Try.isAgg3 ((bC.new_ hn).cell 0)), rfl⟩) <| .g (fun k => k.eq1 3 61 rfl) (fun _ w hn k => ⟨_, v_bin rfl (k.eq1 5 63 rfl) rfl (fun _ => rfl) (r_eql rfl), rfl⟩) <| .t (fun _ w hn k => ⟨_, v_pickF rfl (k.eq1 3 61 rfl) (k.eq1 6 64 rfl), rfl⟩) .nil
 refine aftI aW cN cO fun jL jM aY cS cT aZ bD => ?_
 have hr := bD.fx 6 b8
 have hs := bD.fx 7 b9
 have dS := bD.ge 7 65 rfl
 have fc := bB.new_ aZ
 have fd := bC.new_ aZ
 have fe := cP.new_ aZ
 have ff := cQ.new_ aZ
 refine st_nil (fb _ _ ?_)
 rcases bc (decide (((cleanV u).k) = 6)) with ap | ap
 have dT := oT ap
 have fg := hB dS ap
 refine wp_cond_true fg ?_
 refine wp_seq_k fun jN fh => ?_
 refine wp_g0 [true, true] [] 71
   [vF, ve (iv 3)] aY (.eq (.eq (.nil))) ?_ ?_
 exact .t (fun _ w hn k => ⟨_, v_assign rfl rfl, rfl⟩) <| .t (fun _ w hn k => ⟨_, v_assign rfl rfl, rfl⟩) .nil
 refine aftI aY cS cT fun jO jP ix fi fj iy cU => ?_
 have ht := cU.ge 0 4 rfl
 have hu := cU.ge 1 5 rfl
 refine st_nil (fh _ _ ?_)
 refine wp_ret (ret_k fi (v := .tuple #[.bool false, iv 3]) (res_tt rfl ht hu _) ?_)
 refine ⟨?_, fj⟩
 show Ending.returned (.tuple #[.bool false, iv 3]) = Ending.returned (.tuple #[.bool ((looseR v u).1), iv ((looseR v u).2)])
 first | rfl | (simp only [looseR, loose3R, countedV, ac, aa, ab, ad, ah, am, ap, bsm] <;> rfl) | (exfalso; omega)
 have dT := oF ap
 have fk := hB dS ap
 refine wp_cond_false fk ?_
 refine wp_skip ?_
 refine fa _ _ ?_
 refine wp_seq_k fun jQ fl => ?_
 refine wp_g0 [true, true, true, true, true, true, true] [] 71
   [ve (vv (Vl.mk 3 0 (cleanV v).ref false [] [] 0) none 0 none 0), ve (vv (cleanV u) aw ak ax al), ve (.tuple #[.bool ((besideR (Vl.mk 3 0 (cleanV v).ref false [] [] 0) (cleanV u)).1), iv ((besideR (Vl.mk 3 0 (cleanV v).ref false [] [] 0) (cleanV u)).2)]), ve (.bool ((besideR (Vl.mk 3 0 (cleanV v).ref false [] [] 0) (cleanV u)).1)), ve (iv ((besideR (Vl.mk 3 0 (cleanV v).ref false [] [] 0) (cleanV u)).2)), ve (.bool ((besideR (Vl.mk 3 0 (cleanV v).ref false [] [] 0) (cleanV u)).1)), ve (iv ((besideR (Vl.mk 3 0 (cleanV v).ref false [] [] 0) (cleanV u)).2))] aY (.eq (.eq (.eq (.eq (.eq (.eq (.eq (.nil)))))))) ?_ ?_
 exact .t (fun _ w hn k => ⟨_, v_load rfl (k.fx 6 hr) (l_agg Try.isAgg32 Try.sizeOf32 (fc.new_ hn) rfl), rfl⟩) <| .t (fun _ w hn k => ⟨_, v_load rfl (k.fx 7 hs) (l_agg Try.isAgg32 Try.sizeOf32 (fd.new_ hn) rfl), rfl⟩) <| .o1 (ck rfl rfl rfl (fun _ w hn k => ⟨#[vv (Vl.mk 3 0 (cleanV v).ref false [] [] 0) none 0 none 0, vv (cleanV u) aw ak ax al], args2 (k.eq1 0 66 rfl) (k.eq1 1 67 rfl), fun _ => by kernel_rfl, qbeside_c (Vl.mk 3 0 (cleanV v).ref false [] [] 0) _ _ _ _ (cleanV u) _ _ _ _ _ (SRow.nil _ _) (SRow.nil _ _) (fe.new_ hn) (ff.new_ hn) hvv.clean.cnt hvu.clean (by first | omega | (simp only []; omega) | simp) (by first | omega | (simp only []; omega) | simp) (by first | omega | (simp only []; omega) | simp)⟩) fun _ => rfl) <| .t (fun _ w hn k => ⟨_, v_extract rfl (k.eq1 2 68 rfl) rfl, rfl⟩) <| .t (fun _ w hn k => ⟨_, v_extract rfl (k.eq1 2 68 rfl) rfl, rfl⟩) <| .a (fun k => k.eq1 3 69 rfl) <| .a (fun k => k.eq1 4 70 rfl) .nil
 refine aftI aY cS cT fun jR jS iz fm fn iA cV => ?_
 have hv := cV.ge 5 4 rfl
 have hw := cV.ge 6 5 rfl
 refine st_nil (fl _ _ ?_)
 refine wp_ret (ret_k fm (v := .tuple #[.bool ((besideR (Vl.mk 3 0 (cleanV v).ref false [] [] 0) (cleanV u)).1), iv ((besideR (Vl.mk 3 0 (cleanV v).ref false [] [] 0) (cleanV u)).2)]) (res_tt rfl hv hw _) ?_)
 refine ⟨?_, fn⟩
 show Ending.returned (.tuple #[.bool ((besideR (Vl.mk 3 0 (cleanV v).ref false [] [] 0) (cleanV u)).1), iv ((besideR (Vl.mk 3 0 (cleanV v).ref false [] [] 0) (cleanV u)).2)]) = Ending.returned (.tuple #[.bool ((looseR v u).1), iv ((looseR v u).2)])
 first | rfl | (simp only [looseR, loose3R, countedV, ac, aa, ab, ad, ah, am, ap, bsm] <;> rfl) | (exfalso; omega)
 have dG := oF ad
 have fo := hB dF ad
 refine wp_cond_false fo ?_
 refine wp_skip ?_
 refine cq _ _ ?_
 refine wp_seq_k fun jT cW => ?_
 refine wp_seq_k fun jU fp => ?_
 refine wp_g0 [true, true, true] [] 71
   [ve (pv ag), ve (iv ((cleanV u).k)), ve (.bool (decide (((cleanV u).k) = 2)))] aR (.eq (.eq (.eq (.nil)))) ?_ ?_
 exact .f (fun k => k.fx 7 b5) <| .t (fun _ w hn k => ⟨_, v_load rfl (k.eq1 0 43 rfl) (l_one Try.isAgg3 ((bq.new_ hn).cell 0)), rfl⟩) <| .t (fun _ w hn k => ⟨_, v_bin rfl (k.eq1 1 44 rfl) rfl (fun _ => rfl) (r_eql rfl), rfl⟩) .nil
 refine aftI aR cr ct fun jV jW a1 cX cY aC bE => ?_
 have ca := bE.fx 6 b4
 have bF := bE.fx 7 b5
 have dU := bE.ge 2 45 rfl
 have bG := bp.new_ aC
 have a3 := bq.new_ aC
 have cZ := cw.new_ aC
 have c0 := cx.new_ aC
 have c1 := cy.new_ aC
 have c3 := cz.new_ aC
 refine st_nil (fp _ _ ?_)
 rcases bc (decide (((cleanV u).k) = 2)) with af | af
 have dV := oT af
 have fq := hB dU af
 refine wp_cond_true fq ?_
 refine wp_g0 [true, true, true, true, false] [(4, false)] 71
   [ve (.pointer (some ⟨ag, 6, none⟩)), ve (iv ((cleanV u).ref)), ve (nv (Nm.mk 0 ((cleanV u).ref))), ve (vv (Vl.mk 3 0 (cleanV u).ref false [] [] 0) none 0 none 0), vt] a1 (.eq (.eq (.eq (.eq (.tt (.nil)))))) ?_ ?_
 exact .f (fun k => k.fx 7 bF) <| .t (fun _ w hn k => ⟨_, v_load rfl (k.eq1 0 46 rfl) (l_one Try.isAgg3 ((a3.new_ hn).cell 6)), rfl⟩) <| .t (fun _ w hn k => ⟨_, v_build (ps := [(1, iv ((cleanV u).ref))]) rfl (parts1 (k.eq1 1 47 rfl)) (by kernel_rfl), rfl⟩) <| .o1 (ck rfl rfl rfl (fun _ w hn k => ⟨#[nv (Nm.mk 0 ((cleanV u).ref))], args1 (k.eq1 2 48 rfl), fun _ => by kernel_rfl, qnum_c (Nm.mk 0 ((cleanV u).ref)) _ ⟩) fun _ => rfl) <| .off .nil
 refine aftI a1 cX cY fun jX jY c5 fr fs aD bH => ?_
 have dW := bH.fx 6 ca
 have cb := bH.fx 7 bF
 have hx := bH.ge 3 49 rfl
 have ft := bG.new_ aD
 have aL := a3.new_ aD
 have fu := cZ.new_ aD
 have fv := c0.new_ aD
 have fw := c1.new_ aD
 have fy := c3.new_ aD
 obtain ⟨hy, dX, dY, aM, fz⟩ := s_many (P := Try.prog) (t := 32) (i := 0) [iv 3, iv 0, iv ((cleanV u).ref), .bool false, sv none ([]) 0, sv none ([]) 0, iv 0] Try.sizeOf32 rfl rfl rfl aL lb
 have c7 : Blk hy ag 32 [iv 3, iv 0, iv ((cleanV u).ref), .bool false, sv none ([]) 0, sv none ([]) 0, iv 0] := dY
 refine st_act rfl rfl fun jZ fA => a_store' rfl cb hx dX (fA _ _ trivial ?_)
 have fB := fu.far aL aM (by first | rfl | decide | simp [notK])
 have fC := fv.far aL aM (by first | rfl | decide | simp [notK])
 have iB := fw.far aL aM (by first | rfl | decide | simp [notK])
 have iC := fy.far aL aM (by first | rfl | decide | simp [notK])
 have c9 := fz _ _ _ (hne48) ft
 have fD := fs.trans aM (fun _ h b => by subst b; omega)
 refine st_nil (cW _ _ (wp_seq_k fun j0 fE => ?_))
 refine wp_seq_k fun j1 fF => ?_
 refine wp_g0 [true, true, true, true, true] [] 71
   [ve (pv ae), ve (iv ((cleanV v).k)), ve (pv ag), ve (iv 3), ve (.bool (decide (((cleanV v).k) = 3)))] c5 (.eq (.eq (.eq (.eq (.eq (.nil)))))) ?_ ?_
 exact .f (fun k => k.fx 6 dW) <| .t (fun _ w hn k => ⟨_, v_load rfl (k.eq1 0 50 rfl) (l_one Try.isAgg3 ((c9.new_ hn).cell 0)), rfl⟩) <| .f (fun k => k.fx 7 cb) <| .t (fun _ w hn k => ⟨_, v_load rfl (k.eq1 2 52 rfl) (l_one Try.isAgg3 ((c7.new_ hn).cell 0)), rfl⟩) <| .t (fun _ w hn k => ⟨_, v_bin rfl (k.eq1 1 51 rfl) (k.eq1 3 53 rfl) (fun _ => rfl) (r_eql rfl), rfl⟩) .nil
 refine aftI c5 fr fD fun j2 j3 aE bI bJ a4 bK => ?_
 have bi := bK.fx 6 dW
 have bL := bK.fx 7 cb
 have dZ := bK.ge 4 54 rfl
 have aN := c9.new_ a4
 have a5 := c7.new_ a4
 have bM := fB.new_ a4
 have bN := fC.new_ a4
 refine st_nil (fF _ _ ?_)
 rcases bc (decide (((cleanV v).k) = 3)) with an | an
 have d0 := oT an
 have fG := hB dZ an
 refine wp_cond_true fG ?_
 refine wp_seq_k fun j4 fH => ?_
 refine wp_g0 [true, true, true, true, true] [] 71
   [ve (vv (cleanV v) au ai av aj), ve (vv (Vl.mk 3 0 (cleanV u).ref false [] [] 0) none 0 none 0), ve (.bool (strictV (cleanV v) (Vl.mk 3 0 (cleanV u).ref false [] [] 0))), ve (.bool (strictV (cleanV v) (Vl.mk 3 0 (cleanV u).ref false [] [] 0))), ve (iv 0)] aE (.eq (.eq (.eq (.eq (.eq (.nil)))))) ?_ ?_
 exact .t (fun _ w hn k => ⟨_, v_load rfl (k.fx 6 bi) (l_agg Try.isAgg32 Try.sizeOf32 (aN.new_ hn) rfl), rfl⟩) <| .t (fun _ w hn k => ⟨_, v_load rfl (k.fx 7 bL) (l_agg Try.isAgg32 Try.sizeOf32 (a5.new_ hn) rfl), rfl⟩) <| .o1 (ck rfl rfl rfl (fun _ w hn k => ⟨#[vv (cleanV v) au ai av aj, vv (Vl.mk 3 0 (cleanV u).ref false [] [] 0) none 0 none 0], args2 (k.eq1 0 55 rfl) (k.eq1 1 56 rfl), fun _ => by kernel_rfl, qstrict_c (cleanV v) _ _ _ _ (Vl.mk 3 0 (cleanV u).ref false [] [] 0) _ _ _ _ _ (bM.new_ hn) (bN.new_ hn) (SRow.nil _ _) (SRow.nil _ _)⟩) fun _ => rfl) <| .a (fun k => k.eq1 2 57 rfl) <| .t (fun _ w hn k => ⟨_, v_assign rfl rfl, rfl⟩) .nil
 refine aftI aE bI bJ fun j5 j6 iD fI fJ iE da => ?_
 have hz := da.ge 3 4 rfl
 have hA := da.ge 4 5 rfl
 refine st_nil (fH _ _ ?_)
 refine wp_ret (ret_k fI (v := .tuple #[.bool (strictV (cleanV v) (Vl.mk 3 0 (cleanV u).ref false [] [] 0)), iv 0]) (res_tt rfl hz hA _) ?_)
 refine ⟨?_, fJ⟩
 show Ending.returned (.tuple #[.bool (strictV (cleanV v) (Vl.mk 3 0 (cleanV u).ref false [] [] 0)), iv 0]) = Ending.returned (.tuple #[.bool ((looseR v u).1), iv ((looseR v u).2)])
 first | rfl | (simp only [looseR, loose3R, countedV, ac, aa, ab, ad, af, an, bsm] <;> rfl) | (exfalso; omega)
 have d0 := oF an
 have fK := hB dZ an
 refine wp_cond_false fK ?_
 refine wp_skip ?_
 refine fE _ _ ?_
 refine wp_seq_k fun j7 fL => ?_
 refine wp_seq_k fun j8 db => ?_
 rcases bc (decide (((cleanV v).k) = 6)) with aq | aq
 have d1 := oT aq
 refine wp_g0 (.replicate 8 true) [] 71
   [ve (pv ae), ve (iv ((cleanV v).k)), vT, vT, vU, vU, vU, vT] aE (.eq (.eq (.eq (.eq (.eq (.eq (.eq (.eq (.nil))))))))) ?_ ?_
 exact .f (fun k => k.fx 6 bi) <| .t (fun _ w hn k => ⟨_, v_load rfl (k.eq1 0 58 rfl) (l_one Try.isAgg3 ((aN.new_ hn).cell 0)), rfl⟩) <| .t (fun _ w hn k => ⟨_, v_bin rfl (k.eq1 1 59 rfl) rfl (fun _ => rfl) (r_eql aq), rfl⟩) <| .m (fun k => k.eq1 2 60 rfl) <| .s (fun k => k.eq1 3 61 rfl) <| .s (fun k => k.eq1 3 61 rfl) <| .s (fun k => k.eq1 3 61 rfl) <| .t (fun _ w hn k => ⟨_, v_pickT rfl (k.eq1 3 61 rfl) rfl, rfl⟩) .nil
 refine aftI aE bI bJ fun j9 ka dc fM fN a6 bO => ?_
 have kb := bO.fx 6 bi
 have kc := bO.fx 7 bL
 have hC := bO.ge 7 65 rfl
 have iF := aN.new_ a6
 have iG := a5.new_ a6
 have iH := bM.new_ a6
 have iI := bN.new_ a6
 refine st_nil (db _ _ ?_)
 refine wp_cond_true hC ?_
 refine wp_seq_k fun kd fO => ?_
 refine wp_g0 [true, true] [] 71
   [vF, ve (iv 3)] dc (.eq (.eq (.nil))) ?_ ?_
 exact .t (fun _ w hn k => ⟨_, v_assign rfl rfl, rfl⟩) <| .t (fun _ w hn k => ⟨_, v_assign rfl rfl, rfl⟩) .nil
 refine aftI dc fM fN fun ke kf iJ fP fQ iK dd => ?_
 have hD := dd.ge 0 4 rfl
 have hE := dd.ge 1 5 rfl
 refine st_nil (fO _ _ ?_)
 refine wp_ret (ret_k fP (v := .tuple #[.bool false, iv 3]) (res_tt rfl hD hE _) ?_)
 refine ⟨?_, fQ⟩
 show Ending.returned (.tuple #[.bool false, iv 3]) = Ending.returned (.tuple #[.bool ((looseR v u).1), iv ((looseR v u).2)])
 first | rfl | (simp only [looseR, loose3R, countedV, ac, aa, ab, ad, af, an, aq, bsm] <;> rfl) | (exfalso; omega)
 have d1 := oF aq
 refine wp_g0 (.replicate 8 true) [] 71
   [ve (pv ae), ve (iv ((cleanV v).k)), vF, vF, ve (pv ag), ve (iv 3), vF, vF] aE (.eq (.eq (.eq (.eq (.eq (.eq (.eq (.eq (.nil))))))))) ?_ ?_
 exact .f (fun k => k.fx 6 bi) <| .t (fun _ w hn k => ⟨_, v_load rfl (k.eq1 0 58 rfl) (l_one Try.isAgg3 ((aN.new_ hn).cell 0)), rfl⟩) <| .t (fun _ w hn k => ⟨_, v_bin rfl (k.eq1 1 59 rfl) rfl (fun _ => rfl) (r_eql aq), rfl⟩) <| .m (fun k => k.eq1 2 60 rfl) <| .gf (fun k => k.eq1 3 61 rfl) (fun k => k.fx 7 bL) <| .g (fun k => k.eq1 3 61 rfl) (fun _ w hn k => ⟨_, v_load rfl (k.eq1 4 62 rfl) (l_one Try.isAgg3 ((a5.new_ hn).cell 0)), rfl⟩) <| .g (fun k => k.eq1 3 61 rfl) (fun _ w hn k => ⟨_, v_bin rfl (k.eq1 5 63 rfl) rfl (fun _ => rfl) (fun w => by kernel_rfl), rfl⟩) <| .t (fun _ w hn k => ⟨_, v_pickF rfl (k.eq1 3 61 rfl) (k.eq1 6 64 rfl), rfl⟩) .nil
 refine aftI aE bI bJ fun kg kh de fR fS a7 bP => ?_
 have hF := bP.fx 6 bi
 have hG := bP.fx 7 bL
 have hH := bP.ge 7 65 rfl
 have fT := aN.new_ a7
 have fU := a5.new_ a7
 have fV := bM.new_ a7
 have fW := bN.new_ a7
 refine st_nil (db _ _ ?_)
 refine wp_cond_false hH ?_
 refine wp_skip ?_
 refine fL _ _ ?_
 refine wp_seq_k fun ki fX => ?_
 refine wp_g0 [true, true, true, true, true, true, true] [] 71
   [ve (vv (cleanV v) au ai av aj), ve (vv (Vl.mk 3 0 (cleanV u).ref false [] [] 0) none 0 none 0), ve (.tuple #[.bool ((besideR (cleanV v) (Vl.mk 3 0 (cleanV u).ref false [] [] 0)).1), iv ((besideR (cleanV v) (Vl.mk 3 0 (cleanV u).ref false [] [] 0)).2)]), ve (.bool ((besideR (cleanV v) (Vl.mk 3 0 (cleanV u).ref false [] [] 0)).1)), ve (iv ((besideR (cleanV v) (Vl.mk 3 0 (cleanV u).ref false [] [] 0)).2)), ve (.bool ((besideR (cleanV v) (Vl.mk 3 0 (cleanV u).ref false [] [] 0)).1)), ve (iv ((besideR (cleanV v) (Vl.mk 3 0 (cleanV u).ref false [] [] 0)).2))] de (.eq (.eq (.eq (.eq (.eq (.eq (.eq (.nil)))))))) ?_ ?_
 exact .t (fun _ w hn k => ⟨_, v_load rfl (k.fx 6 hF) (l_agg Try.isAgg32 Try.sizeOf32 (fT.new_ hn) rfl), rfl⟩) <| .t (fun _ w hn k => ⟨_, v_load rfl (k.fx 7 hG) (l_agg Try.isAgg32 Try.sizeOf32 (fU.new_ hn) rfl), rfl⟩) <| .o1 (ck rfl rfl rfl (fun _ w hn k => ⟨#[vv (cleanV v) au ai av aj, vv (Vl.mk 3 0 (cleanV u).ref false [] [] 0) none 0 none 0], args2 (k.eq1 0 66 rfl) (k.eq1 1 67 rfl), fun _ => by kernel_rfl, qbeside_c (cleanV v) _ _ _ _ (Vl.mk 3 0 (cleanV u).ref false [] [] 0) _ _ _ _ _ (fV.new_ hn) (fW.new_ hn) (SRow.nil _ _) (SRow.nil _ _) hvv.clean hvu.clean.cnt (by first | omega | (simp only []; omega) | simp) (by first | omega | (simp only []; omega) | simp) (by first | omega | (simp only []; omega) | simp)⟩) fun _ => rfl) <| .t (fun _ w hn k => ⟨_, v_extract rfl (k.eq1 2 68 rfl) rfl, rfl⟩) <| .t (fun _ w hn k => ⟨_, v_extract rfl (k.eq1 2 68 rfl) rfl, rfl⟩) <| .a (fun k => k.eq1 3 69 rfl) <| .a (fun k => k.eq1 4 70 rfl) .nil
 refine aftI de fR fS fun kj kk iL fY fZ iM df => ?_
 have hI := df.ge 5 4 rfl
 have hJ := df.ge 6 5 rfl
 refine st_nil (fX _ _ ?_)
 refine wp_ret (ret_k fY (v := .tuple #[.bool ((besideR (cleanV v) (Vl.mk 3 0 (cleanV u).ref false [] [] 0)).1), iv ((besideR (cleanV v) (Vl.mk 3 0 (cleanV u).ref false [] [] 0)).2)]) (res_tt rfl hI hJ _) ?_)
 refine ⟨?_, fZ⟩
 show Ending.returned (.tuple #[.bool ((besideR (cleanV v) (Vl.mk 3 0 (cleanV u).ref false [] [] 0)).1), iv ((besideR (cleanV v) (Vl.mk 3 0 (cleanV u).ref false [] [] 0)).2)]) = Ending.returned (.tuple #[.bool ((looseR v u).1), iv ((looseR v u).2)])
 first | rfl | (simp only [looseR, loose3R, countedV, ac, aa, ab, ad, af, an, aq, bsm] <;> rfl) | (exfalso; omega)
 have dV := oF af
 have f0 := hB dU af
 refine wp_cond_false f0 ?_
 refine wp_skip ?_
 refine cW _ _ ?_
 refine wp_seq_k fun kl f1 => ?_
 refine wp_seq_k fun km f2 => ?_
 refine wp_g0 [true, true, true, true, true] [] 71
   [ve (pv ae), ve (iv ((cleanV v).k)), ve (pv ag), ve (iv ((cleanV u).k)), vF] a1 (.eq (.eq (.eq (.eq (.eq (.nil)))))) ?_ ?_
 exact .f (fun k => k.fx 6 ca) <| .t (fun _ w hn k => ⟨_, v_load rfl (k.eq1 0 50 rfl) (l_one Try.isAgg3 ((bG.new_ hn).cell 0)), rfl⟩) <| .f (fun k => k.fx 7 bF) <| .t (fun _ w hn k => ⟨_, v_load rfl (k.eq1 2 52 rfl) (l_one Try.isAgg3 ((a3.new_ hn).cell 0)), rfl⟩) <| .t (fun _ w hn k => ⟨_, v_bin rfl (k.eq1 1 51 rfl) (k.eq1 3 53 rfl) (fun _ => rfl) (r_eql ac), rfl⟩) .nil
 refine aftI a1 cX cY fun kn ko a8 dg dh aF bQ => ?_
 have bR := bQ.fx 6 ca
 have cc := bQ.fx 7 bF
 have hK := bQ.ge 4 54 rfl
 have a9 := bG.new_ aF
 have bS := a3.new_ aF
 have di := cZ.new_ aF
 have dj := c0.new_ aF
 have dk := c1.new_ aF
 have dl := c3.new_ aF
 refine st_nil (f2 _ _ ?_)
 refine wp_cond_false hK ?_
 refine wp_skip ?_
 refine f1 _ _ ?_
 refine wp_seq_k fun kp f3 => ?_
 refine wp_seq_k fun kq dm => ?_
 rcases bc (decide (((cleanV v).k) = 6)) with ao | ao
 have d2 := oT ao
 refine wp_g0 (.replicate 8 true) [] 71
   [ve (pv ae), ve (iv ((cleanV v).k)), vT, vT, vU, vU, vU, vT] a8 (.eq (.eq (.eq (.eq (.eq (.eq (.eq (.eq (.nil))))))))) ?_ ?_
 exact .f (fun k => k.fx 6 bR) <| .t (fun _ w hn k => ⟨_, v_load rfl (k.eq1 0 58 rfl) (l_one Try.isAgg3 ((a9.new_ hn).cell 0)), rfl⟩) <| .t (fun _ w hn k => ⟨_, v_bin rfl (k.eq1 1 59 rfl) rfl (fun _ => rfl) (r_eql ao), rfl⟩) <| .m (fun k => k.eq1 2 60 rfl) <| .s (fun k => k.eq1 3 61 rfl) <| .s (fun k => k.eq1 3 61 rfl) <| .s (fun k => k.eq1 3 61 rfl) <| .t (fun _ w hn k => ⟨_, v_pickT rfl (k.eq1 3 61 rfl) rfl, rfl⟩) .nil
 refine aftI a8 dg dh fun kr ks dn f4 f5 aG bT => ?_
 have kt := bT.fx 6 bR
 have ku := bT.fx 7 cc
 have hL := bT.ge 7 65 rfl
 have iN := a9.new_ aG
 have iO := bS.new_ aG
 have iP := di.new_ aG
 have iQ := dj.new_ aG
 have iR := dk.new_ aG
 have iS := dl.new_ aG
 refine st_nil (dm _ _ ?_)
 refine wp_cond_true hL ?_
 refine wp_seq_k fun kv f6 => ?_
 refine wp_g0 [true, true] [] 71
   [vF, ve (iv 3)] dn (.eq (.eq (.nil))) ?_ ?_
 exact .t (fun _ w hn k => ⟨_, v_assign rfl rfl, rfl⟩) <| .t (fun _ w hn k => ⟨_, v_assign rfl rfl, rfl⟩) .nil
 refine aftI dn f4 f5 fun kw kx iT f7 f8 iU dp => ?_
 have hM := dp.ge 0 4 rfl
 have hN := dp.ge 1 5 rfl
 refine st_nil (f6 _ _ ?_)
 refine wp_ret (ret_k f7 (v := .tuple #[.bool false, iv 3]) (res_tt rfl hM hN _) ?_)
 refine ⟨?_, f8⟩
 show Ending.returned (.tuple #[.bool false, iv 3]) = Ending.returned (.tuple #[.bool ((looseR v u).1), iv ((looseR v u).2)])
 first | rfl | (simp only [looseR, loose3R, countedV, ac, aa, ab, ad, af, ao, bsm] <;> rfl) | (exfalso; omega)
 have d2 := oF ao
 refine wp_g0 (.replicate 8 true) [] 71
   [ve (pv ae), ve (iv ((cleanV v).k)), vF, vF, ve (pv ag), ve (iv ((cleanV u).k)), ve (.bool (decide (((cleanV u).k) = 6))), ve (.bool (decide (((cleanV u).k) = 6)))] a8 (.eq (.eq (.eq (.eq (.eq (.eq (.eq (.eq (.nil))))))))) ?_ ?_
 exact .f (fun k => k.fx 6 bR) <| .t (fun _ w hn k => ⟨_, v_load rfl (k.eq1 0 58 rfl) (l_one Try.isAgg3 ((a9.new_ hn).cell 0)), rfl⟩) <| .t (fun _ w hn k => ⟨_, v_bin rfl (k.eq1 1 59 rfl) rfl (fun _ => rfl) (r_eql ao), rfl⟩) <| .m (fun k => k.eq1 2 60 rfl) <| .gf (fun k => k.eq1 3 61 rfl) (fun k => k.fx 7 cc) <| .g (fun k => k.eq1 3 61 rfl) (fun _ w hn k => ⟨_, v_load rfl (k.eq1 4 62 rfl) (l_one Try.isAgg3 ((bS.new_ hn).cell 0)), rfl⟩) <| .g (fun k => k.eq1 3 61 rfl) (fun _ w hn k => ⟨_, v_bin rfl (k.eq1 5 63 rfl) rfl (fun _ => rfl) (r_eql rfl), rfl⟩) <| .t (fun _ w hn k => ⟨_, v_pickF rfl (k.eq1 3 61 rfl) (k.eq1 6 64 rfl), rfl⟩) .nil
 refine aftI a8 dg dh fun ky kz ba dq dr aH bU => ?_
 have hO := bU.fx 6 bR
 have hP := bU.fx 7 cc
 have d3 := bU.ge 7 65 rfl
 have f9 := a9.new_ aH
 have bj := bS.new_ aH
 have ga := di.new_ aH
 have gb := dj.new_ aH
 have gc := dk.new_ aH
 have gd := dl.new_ aH
 refine st_nil (dm _ _ ?_)
 rcases bc (decide (((cleanV u).k) = 6)) with ar | ar
 have d4 := oT ar
 have gg := hB d3 ar
 refine wp_cond_true gg ?_
 refine wp_seq_k fun kA gh => ?_
 refine wp_g0 [true, true] [] 71
   [vF, ve (iv 3)] ba (.eq (.eq (.nil))) ?_ ?_
 exact .t (fun _ w hn k => ⟨_, v_assign rfl rfl, rfl⟩) <| .t (fun _ w hn k => ⟨_, v_assign rfl rfl, rfl⟩) .nil
 refine aftI ba dq dr fun kB kC iV gi gj iW ds => ?_
 have hQ := ds.ge 0 4 rfl
 have hR := ds.ge 1 5 rfl
 refine st_nil (gh _ _ ?_)
 refine wp_ret (ret_k gi (v := .tuple #[.bool false, iv 3]) (res_tt rfl hQ hR _) ?_)
 refine ⟨?_, gj⟩
 show Ending.returned (.tuple #[.bool false, iv 3]) = Ending.returned (.tuple #[.bool ((looseR v u).1), iv ((looseR v u).2)])
 first | rfl | (simp only [looseR, loose3R, countedV, ac, aa, ab, ad, af, ao, ar, bsm] <;> rfl) | (exfalso; omega)
 have d4 := oF ar
 have gk := hB d3 ar
 refine wp_cond_false gk ?_
 refine wp_skip ?_
 refine f3 _ _ ?_
 refine wp_seq_k fun kD gl => ?_
 refine wp_g0 [true, true, true, true, true, true, true] [] 71
   [ve (vv (cleanV v) au ai av aj), ve (vv (cleanV u) aw ak ax al), ve (.tuple #[.bool ((besideR (cleanV v) (cleanV u)).1), iv ((besideR (cleanV v) (cleanV u)).2)]), ve (.bool ((besideR (cleanV v) (cleanV u)).1)), ve (iv ((besideR (cleanV v) (cleanV u)).2)), ve (.bool ((besideR (cleanV v) (cleanV u)).1)), ve (iv ((besideR (cleanV v) (cleanV u)).2))] ba (.eq (.eq (.eq (.eq (.eq (.eq (.eq (.nil)))))))) ?_ ?_
 exact .t (fun _ w hn k => ⟨_, v_load rfl (k.fx 6 hO) (l_agg Try.isAgg32 Try.sizeOf32 (f9.new_ hn) rfl), rfl⟩) <| .t (fun _ w hn k => ⟨_, v_load rfl (k.fx 7 hP) (l_agg Try.isAgg32 Try.sizeOf32 (bj.new_ hn) rfl), rfl⟩) <| .o1 (ck rfl rfl rfl (fun _ w hn k => ⟨#[vv (cleanV v) au ai av aj, vv (cleanV u) aw ak ax al], args2 (k.eq1 0 66 rfl) (k.eq1 1 67 rfl), fun _ => by kernel_rfl, qbeside_c (cleanV v) _ _ _ _ (cleanV u) _ _ _ _ _ (ga.new_ hn) (gb.new_ hn) (gc.new_ hn) (gd.new_ hn) hvv.clean hvu.clean (by first | omega | (simp only []; omega) | simp) (by first | omega | (simp only []; omega) | simp) (by first | omega | (simp only []; omega) | simp)⟩) fun _ => rfl) <| .t (fun _ w hn k => ⟨_, v_extract rfl (k.eq1 2 68 rfl) rfl, rfl⟩) <| .t (fun _ w hn k => ⟨_, v_extract rfl (k.eq1 2 68 rfl) rfl, rfl⟩) <| .a (fun k => k.eq1 3 69 rfl) <| .a (fun k => k.eq1 4 70 rfl) .nil
 refine aftI ba dq dr fun kE kF iX gm gn iY dt => ?_
 have hS := dt.ge 5 4 rfl
 have hT := dt.ge 6 5 rfl
 refine st_nil (gl _ _ ?_)
 refine wp_ret (ret_k gm (v := .tuple #[.bool ((besideR (cleanV v) (cleanV u)).1), iv ((besideR (cleanV v) (cleanV u)).2)]) (res_tt rfl hS hT _) ?_)
 refine ⟨?_, gn⟩
 show Ending.returned (.tuple #[.bool ((besideR (cleanV v) (cleanV u)).1), iv ((besideR (cleanV v) (cleanV u)).2)]) = Ending.returned (.tuple #[.bool ((looseR v u).1), iv ((looseR v u).2)])
 first | rfl | (simp only [looseR, loose3R, countedV, ac, aa, ab, ad, af, ao, ar, bsm] <;> rfl) | (exfalso; omega)
theorem qloose_c (v : Vl) (Av : Option Addr) (cv : Nat) (Bv : Option Addr) (dv : Nat) (u : Vl) (Au : Option Addr) (cu : Nat) (Bu : Option Addr) (du : Nat) (w : World) (hmv : SRow w .u32 Av v.mag cv) (hsv : SRow w .u16 Bv v.s dv) (hmu : SRow w .u32 Au u.mag cu) (hsu : SRow w .u16 Bu u.s du) (hvv : VOk v) (hvu : VOk u) : Calls Try.prog 10 #[vv v Av cv Bv dv, vv u Au cu Bu du] w (IsRet (.tuple #[.bool ((looseV v u).1), iv ((looseV v u).2)]) w) := by
  have h := qloose_c0 v Av cv Bv dv u Au cu Bu du w hmv hsv hmu hsu hvv hvu
  rw [looseR_eq hvv hvu] at h
  exact h
def lstr_c_P (s : ByteArray) (w : World) (en : Ending) (w' : World) : Prop := ∃ (Ar0 : Option Addr) (cr0 : Nat), en = .returned (vv (Vl.mk 5 0 0 false [] (asc s) 0) none 0 Ar0 cr0) ∧ SRow w' .u16 Ar0 (asc s) cr0 ∧ New w w'
theorem lstr_c (s : ByteArray) (w : World) (hs : s.size ≤ 1000000) : Calls Try.prog 15 #[.string s] w (lstr_c_P s w) := by
 refine enter_abs Try.func15 rfl fun a0 ad aD hp => ?_
 have ad : a0.tmps.size = 6 := ad
 have al : New w w := Upd.refl _ _
 have hp0 : a0.eval (.tmp 0) = .string s := hp 0 _ rfl
 refine wp_seq_k fun K1 aE => ?_
 refine wp_g [true] [] [] 6
   [IsNew w 29 [iv 0, iv 0, iv 0, .bool false, sv none ([]) 0, sv none ([]) 0, iv 0]]
   [0] (newsCons (fun v w h => IsNew.old h) newsNil) ad (.nw (.nil)) ?_ (fun i h => by cases h) ?_
 exact .o2 (step_allocN (cs := [iv 0, iv 0, iv 0, .bool false, sv none ([]) 0, sv none ([]) 0, iv 0]) (t := 29) rfl (noG rfl) (fun _ w hn k => rfl) (fun q _ hq hb => ⟨q, rfl, hq, hb⟩)) .nil
 refine aftI ad aD al fun a2 w3 am aF ae aN an => ?_
 have h8 := an.fx 0 hp0
 obtain ⟨aG, h9, ap, aq⟩ : IsNew _ _ _ _ _ := an.got 0 2 rfl (by kernel_rfl)
 have aK := Nat.le_trans al.size ap
 refine st_nil (aE _ _ (wp_seq_k fun aO ar => ?_))
 refine wp_g0 [true, true, true, false] [(3, false)] 6
   [ve (.string s),
    (OP w3.heap.size 66 .u16 (asc s)), (fun (v_ : Value) (W : World) => ∃ (A9 : Option Addr) (aa : Nat), v_ = vv (Vl.mk 5 0 0 false [] (asc s) 0) none 0 A9 aa ∧ SOwn W w3.heap.size 66 .u16 A9 (asc s) aa), vt] am (.eq (.cons (fun _ _ _ n ⟨_, _, e, h⟩ => ⟨_, _, e, h.new_ n⟩) (.cons (fun v W W' hn ⟨A9, aa, he, h0⟩ => ⟨A9, aa, he, h0.new_ hn⟩) (.tt (.nil))))) ?_ ?_
 refine .m (fun k => k.fx 0 h8) ?_
 refine .o1 (tkC rfl (noG rfl) rfl fun _ w hn k => (by
       refine ⟨#[.string s], _, args1 (k.eq1 0 3 rfl), fun w => by kernel_rfl, rascii_c s _ (by first | omega | (show (_ : Nat) ≤ _; decide)), ?_⟩
       rintro e w' ⟨A1, c2, rfl, hmo0, hm⟩
       exact ⟨_, rfl, hm, ⟨A1, c2, rfl, (hmo0.more hn.size)⟩⟩)) ?_
 refine .o1 (tk rfl rfl fun _ w hn k => (by
       obtain ⟨A5, c6, e7, aH⟩ : (OP w3.heap.size 66 .u16 (asc s)) _ _ := k.dep 1 4 (by kernel_rfl) (by kernel_rfl)
       exact ⟨_, v_build (ps := [(0, iv 5), (3, sv A5 (asc s) c6)]) rfl (parts2 rfl e7) (by kernel_rfl), ⟨A5, c6, rfl, aH⟩⟩)) ?_
 exact .off .nil
 refine aftI am aF ae fun aI aP aL au av aw af => ?_
 have ao := af.fx 2 h9
 obtain ⟨ac, ab, ag, ax⟩ : (fun (v_ : Value) (W : World) => ∃ (A9 : Option Addr) (aa : Nat), v_ = vv (Vl.mk 5 0 0 false [] (asc s) 0) none 0 A9 aa ∧ SOwn W w3.heap.size 66 .u16 A9 (asc s) aa) _ _ := af.got 2 5 rfl (by kernel_rfl)
 have ag : aI.eval (.tmp 5) = vv (Vl.mk 5 0 0 false [] (asc s) 0) none 0 ac ab := ag
 have ah := aq.new_ aw
 have ay := ax.more ae.size
 obtain ⟨aJ, aj, ak, ai, aM⟩ := s_many (P := Try.prog) (t := 29) (i := 0) [iv 5, iv 0, iv 0, .bool false, sv none ([]) 0, sv ac (asc s) ab, iv 0] Try.sizeOf29 rfl rfl rfl ah lb
 have az : Blk aJ aG 29 [iv 5, iv 0, iv 0, .bool false, sv none ([]) 0, sv ac (asc s) ab, iv 0] := ak
 refine st_act rfl rfl fun aQ aA => a_store' rfl ao ag aj (aA _ _ trivial ?_)
 have aB := ay.far ah ai (by decide)
 have aC := av.trans ai (fun _ h b => by subst b; omega)
 refine st_nil (ar _ _ ?_)
 refine wp_ret (ret_k au (v := vv (Vl.mk 5 0 0 false [] (asc s) 0) none 0 ac ab) (res_c rfl ao (l_agg Try.isAgg29 Try.sizeOf29 az rfl)) ?_)
 exact ⟨ac, ab, rfl, aB.row, aC⟩
theorem lwhole_c (n : Int) (w : World) : Calls Try.prog 14 #[iv n] w (IsRet (vv (Vl.mk 3 0 n false [] [] 0) none 0 none 0) w) := by
 refine enter_abs Try.func14 rfl fun a0 aa aw hp => ?_
 have aa : a0.tmps.size = 6 := aa
 have ae : New w w := Upd.refl _ _
 have hp0 : a0.eval (.tmp 0) = iv n := hp 0 _ rfl
 refine wp_seq_k fun K1 ax => ?_
 refine wp_g [true] [] [] 6
   [IsNew w 29 [iv 0, iv 0, iv 0, .bool false, sv none ([]) 0, sv none ([]) 0, iv 0]]
   [0] (newsCons (fun v w h => IsNew.old h) newsNil) aa (.nw (.nil)) ?_ (fun i h => by cases h) ?_
 exact .o2 (step_allocN (cs := [iv 0, iv 0, iv 0, .bool false, sv none ([]) 0, sv none ([]) 0, iv 0]) (t := 29) rfl (noG rfl) (fun _ w hn k => rfl) (fun q _ hq hb => ⟨q, rfl, hq, hb⟩)) .nil
 refine aftI aa aw ae fun a2 w3 af ay ai aF ag => ?_
 have h8 := ag.fx 0 hp0
 obtain ⟨az, h9, aj, ak⟩ : IsNew _ _ _ _ _ := ag.got 0 2 rfl (by kernel_rfl)
 have aC := Nat.le_trans ae.size aj
 refine st_nil (ax _ _ (wp_seq_k fun aG al => ?_))
 refine wp_g0 [true, true, true, false] [(3, false)] 6
   [ve (iv n), ve (nv (Nm.mk 0 n)), ve (vv (Vl.mk 3 0 n false [] [] 0) none 0 none 0), vt] af (.eq (.eq (.eq (.tt (.nil))))) ?_ ?_
 exact .m (fun k => k.fx 0 h8) <| .t (fun _ w hn k => ⟨_, v_build (ps := [(1, iv n)]) rfl (parts1 (k.eq1 0 3 rfl)) (by kernel_rfl), rfl⟩) <| .t (fun _ w hn k => ⟨_, v_build (ps := [(0, iv 3), (1, nv (Nm.mk 0 n))]) rfl (parts2 rfl (k.eq1 1 4 rfl)) (by kernel_rfl), rfl⟩) <| .off .nil
 refine aftI af ay ai fun aH aI aD am an ao ab => ?_
 have ah := ab.fx 2 h9
 have aA := ab.ge 2 5 rfl
 have ap := ak.new_ ao
 obtain ⟨aB, ac, ad, aq, aE⟩ := s_many (P := Try.prog) (t := 29) (i := 0) [iv 3, iv 0, iv n, .bool false, sv none ([]) 0, sv none ([]) 0, iv 0] Try.sizeOf29 rfl rfl rfl ap lb
 have ar : Blk aB az 29 [iv 3, iv 0, iv n, .bool false, sv none ([]) 0, sv none ([]) 0, iv 0] := ad
 refine st_act rfl rfl fun aJ au => a_store' rfl ah aA ac (au _ _ trivial ?_)
 have av := an.trans aq (fun _ h b => by subst b; omega)
 refine st_nil (al _ _ ?_)
 refine wp_ret (ret_k am (v := vv (Vl.mk 3 0 n false [] [] 0) none 0 none 0) (res_c rfl ah (l_agg Try.isAgg29 Try.sizeOf29 ar rfl)) ?_)
 exact ⟨rfl, av⟩
def lbig_c_P (x : Nat) (w : World) (en : Ending) (w' : World) : Prop := ∃ (Ar0 : Option Addr) (cr0 : Nat), en = .returned (vv (Vl.mk 4 0 0 false [x] [] 0) Ar0 cr0 none 0) ∧ SRow w' .u32 Ar0 ([x]) cr0 ∧ New w w'
theorem lbig_c (x : Nat) (w : World) (hx : x < 4294967296) : Calls Try.prog 27 #[.int .u32 (x : Int)] w (lbig_c_P x w) := by
 refine enter_abs Try.func27 rfl fun a0 af aI hp => ?_
 have af : a0.tmps.size = 7 := af
 have an : New w w := Upd.refl _ _
 have hp0 : a0.eval (.tmp 0) = .int .u32 (x : Int) := hp 0 _ rfl
 refine wp_seq_k fun K1 aJ => ?_
 refine wp_g [true] [] [] 7
   [IsNew w 29 [iv 0, iv 0, iv 0, .bool false, sv none ([]) 0, sv none ([]) 0, iv 0]]
   [0] (newsCons (fun v w h => IsNew.old h) newsNil) af (.nw (.nil)) ?_ (fun i h => by cases h) ?_
 exact .o2 (step_allocN (cs := [iv 0, iv 0, iv 0, .bool false, sv none ([]) 0, sv none ([]) 0, iv 0]) (t := 29) rfl (noG rfl) (fun _ w hn k => rfl) (fun q _ hq hb => ⟨q, rfl, hq, hb⟩)) .nil
 refine aftI af aI an fun a2 w3 ao aK ag aT ap => ?_
 have h8 := ap.fx 0 hp0
 obtain ⟨aL, h9, av, aw⟩ : IsNew _ _ _ _ _ := ap.got 0 2 rfl (by kernel_rfl)
 have aQ := Nat.le_trans an.size av
 refine st_nil (aJ _ _ (wp_seq_k fun aU ax => ?_))
 refine wp_g0 [true, true, true, true, false] [(4, false)] 7
   [ve (.int .u32 (x : Int)),
    (OP w3.heap.size 56 .u32 ([x])), (fun (v_ : Value) (W : World) => ∃ (A9 : Option Addr) (aa : Nat), v_ = .agg #[.bool false, sv A9 ([x]) aa] ∧ SOwn W w3.heap.size 56 .u32 A9 ([x]) aa), (fun (v_ : Value) (W : World) => ∃ (ab : Option Addr) (ac : Nat), v_ = vv (Vl.mk 4 0 0 false [x] [] 0) ab ac none 0 ∧ SOwn W w3.heap.size 56 .u32 ab ([x]) ac), vt] ao (.eq (.cons (fun _ _ _ n ⟨_, _, e, h⟩ => ⟨_, _, e, h.new_ n⟩) (.cons (fun v W W' hn ⟨A9, aa, he, h0⟩ => ⟨A9, aa, he, h0.new_ hn⟩) (.cons (fun _ _ _ n ⟨_, _, e, h⟩ => ⟨_, _, e, h.new_ n⟩) (.tt (.nil)))))) ?_ ?_
 refine .m (fun k => k.fx 0 h8) ?_
 refine .o1 (tkA rfl (noG rfl) fun _ w hn k => (by
       exact x_bslice (k := .u32) (ps := [(0, .int .u32 (x : Int))]) [x] rfl (parts1 (k.eq1 0 3 rfl)) elW rfl (by omega) (by omega) (by first | kernel_rfl | (simp only [enc, List.map_cons, List.map_nil, Int.toNat_natCast, Int.toNat_of_nonneg (by omega : (0 : Int) ≤ _)]; kernel_rfl)) fun A1 c2 W' hmo => ⟨A1, c2, rfl, (hmo.more hn.size)⟩)) ?_
 refine .o1 (tk rfl rfl fun _ w hn k => (by
       obtain ⟨A5, c6, e7, aM⟩ : (OP w3.heap.size 56 .u32 ([x])) _ _ := k.dep 1 4 (by kernel_rfl) (by kernel_rfl)
       exact ⟨_, v_build (ps := [(1, sv A5 ([x]) c6)]) rfl (parts1 e7) (by kernel_rfl), ⟨A5, c6, rfl, aM⟩⟩)) ?_
 refine .o1 (tk rfl rfl fun _ w hn k => (by
       obtain ⟨aq, ar, aN, ay⟩ : (fun (v_ : Value) (W : World) => ∃ (A9 : Option Addr) (aa : Nat), v_ = .agg #[.bool false, sv A9 ([x]) aa] ∧ SOwn W w3.heap.size 56 .u32 A9 ([x]) aa) _ _ := k.dep 2 5 (by kernel_rfl) (by kernel_rfl)
       exact ⟨_, v_build (ps := [(0, iv 4), (2, .agg #[.bool false, sv aq ([x]) ar])]) rfl (parts2 rfl aN) (by kernel_rfl), ⟨aq, ar, rfl, ay⟩⟩)) ?_
 exact .off .nil
 refine aftI ao aK ag fun aO aV aR az aA aB ah => ?_
 have au := ah.fx 2 h9
 obtain ⟨ae, ad, ai, aC⟩ : (fun (v_ : Value) (W : World) => ∃ (ab : Option Addr) (ac : Nat), v_ = vv (Vl.mk 4 0 0 false [x] [] 0) ab ac none 0 ∧ SOwn W w3.heap.size 56 .u32 ab ([x]) ac) _ _ := ah.got 3 6 rfl (by kernel_rfl)
 have ai : aO.eval (.tmp 6) = vv (Vl.mk 4 0 0 false [x] [] 0) ae ad none 0 := ai
 have aj := aw.new_ aB
 have aD := aC.more ag.size
 obtain ⟨aP, al, am, ak, aS⟩ := s_many (P := Try.prog) (t := 29) (i := 0) [iv 4, iv 0, iv 0, .bool false, sv ae ([x]) ad, sv none ([]) 0, iv 0] Try.sizeOf29 rfl rfl rfl aj lb
 have aE : Blk aP aL 29 [iv 4, iv 0, iv 0, .bool false, sv ae ([x]) ad, sv none ([]) 0, iv 0] := am
 refine st_act rfl rfl fun aW aF => a_store' rfl au ai al (aF _ _ trivial ?_)
 have aG := aD.far aj ak (by decide)
 have aH := aA.trans ak (fun _ h b => by subst b; omega)
 refine st_nil (ax _ _ ?_)
 refine wp_ret (ret_k az (v := vv (Vl.mk 4 0 0 false [x] [] 0) ae ad none 0) (res_c rfl au (l_agg Try.isAgg29 Try.sizeOf29 aE rfl)) ?_)
 exact ⟨ae, ad, rfl, aG.row, aH⟩
theorem VOk.str (s : ByteArray) (h : s.size ≤ 20000) : VOk ⟨5, 0, 0, false, [], asc s, 0⟩ := ⟨Limbs.nil, U16s.asc s, Nat.zero_le _, by rw [asc_len]; exact h, (show (-9223372036854775808 : Int) ≤ 0 by decide), (show (0 : Int) ≤ 9223372036854775807 by decide), (show (-9223372036854775808 : Int) ≤ 0 by decide), (show (0 : Int) ≤ 9223372036854775807 by decide)⟩
theorem VOk.whole {n : Int} (h1 : -9223372036854775808 ≤ n) (h2 : n ≤ 9223372036854775807) : VOk ⟨3, 0, n, false, [], [], 0⟩ := ⟨Limbs.nil, U16s.nil, Nat.zero_le _, Nat.zero_le _, h1, h2, (show (-9223372036854775808 : Int) ≤ 0 by decide), (show (0 : Int) ≤ 9223372036854775807 by decide)⟩
theorem VOk.big {x : Nat} (h : x < 4294967296) : VOk ⟨4, 0, 0, false, [x], [], 0⟩ := ⟨Limbs.cons h Limbs.nil, U16s.nil, (show (1 : Nat) ≤ 40 by decide), Nat.zero_le _, (show (-9223372036854775808 : Int) ≤ 0 by decide), (show (0 : Int) ≤ 9223372036854775807 by decide), (show (-9223372036854775808 : Int) ≤ 0 by decide), (show (0 : Int) ≤ 9223372036854775807 by decide)⟩
theorem VOk.null : VOk ⟨1, 0, 0, false, [], [], 0⟩ := ⟨Limbs.nil, U16s.nil, by decide, by decide, by decide, by decide, by decide, by decide⟩
theorem VOk.truth (t : Bool) : VOk (truthV t) := by cases t <;> exact ⟨Limbs.nil, U16s.nil, by decide, by decide, by decide, by decide, by decide, by decide⟩
theorem few_ok {v : Vl} (h : (decide ((v.s.length : Int) ≤ 20000) && decide ((v.mag.length : Int) ≤ 40)) = true) (hl : Limbs v.mag) (hu : U16s v.s) (h1 : -9223372036854775808 ≤ v.nn) (h2 : v.nn ≤ 9223372036854775807) (h3 : -9223372036854775808 ≤ v.ref) (h4 : v.ref ≤ 9223372036854775807) : VOk v := by
  simp only [Bool.and_eq_true, decide_eq_true_eq] at h
  exact ⟨hl, hu, by omega, by omega, h1, h2, h3, h4⟩
set_option maxRecDepth 100000 in
theorem first_n1 (A0 : Option Addr) (c0 : Nat) (B0 : Option Addr) (d0 : Nat) (w : World) (hm0 : SRow w .u32 A0 [] c0) (hs0 : SRow w .u16 B0 (asc ⟨#[49, 50]⟩) d0) : Calls Try.prog 26 #[vv (Vl.mk 5 0 0 false [] (asc ⟨#[49, 50]⟩) 0) A0 c0 B0 d0] w (IsRet (.tuple #[nv (Nm.mk 0 12), iv 0]) w) := by
  have h := cnumber_c (Vl.mk 5 0 0 false [] (asc ⟨#[49, 50]⟩) 0) A0 c0 B0 d0 w hm0 hs0 (VOk.str ⟨#[49, 50]⟩ (by first | omega | decide))
  rw [show numberV (Vl.mk 5 0 0 false [] (asc ⟨#[49, 50]⟩) 0) = (⟨0, 12⟩, 0) from by decide +kernel] at h
  exact h
set_option maxRecDepth 100000 in
theorem first_n2 (A0 : Option Addr) (c0 : Nat) (B0 : Option Addr) (d0 : Nat) (w : World) (hm0 : SRow w .u32 A0 [] c0) (hs0 : SRow w .u16 B0 (asc ⟨#[49, 46, 53]⟩) d0) : Calls Try.prog 26 #[vv (Vl.mk 5 0 0 false [] (asc ⟨#[49, 46, 53]⟩) 0) A0 c0 B0 d0] w (IsRet (.tuple #[nv (Nm.mk 0 0), iv 3]) w) := by
  have h := cnumber_c (Vl.mk 5 0 0 false [] (asc ⟨#[49, 46, 53]⟩) 0) A0 c0 B0 d0 w hm0 hs0 (VOk.str ⟨#[49, 46, 53]⟩ (by first | omega | decide))
  rw [show numberV (Vl.mk 5 0 0 false [] (asc ⟨#[49, 46, 53]⟩) 0) = (⟨0, 0⟩, 3) from by decide +kernel] at h
  exact h
set_option maxRecDepth 100000 in
theorem first_n3 (A0 : Option Addr) (c0 : Nat) (B0 : Option Addr) (d0 : Nat) (w : World) (hm0 : SRow w .u32 A0 [5] c0) (hs0 : SRow w .u16 B0 [] d0) : Calls Try.prog 26 #[vv (Vl.mk 4 0 0 false [5] [] 0) A0 c0 B0 d0] w (IsRet (.tuple #[nv (Nm.mk 0 0), iv 1]) w) := by
  have h := cnumber_c (Vl.mk 4 0 0 false [5] [] 0) A0 c0 B0 d0 w hm0 hs0 (VOk.big (by omega))
  rw [show numberV (Vl.mk 4 0 0 false [5] [] 0) = (⟨0, 0⟩, 1) from by decide +kernel] at h
  exact h
set_option maxRecDepth 100000 in
theorem first_l2 (A0 : Option Addr) (c0 : Nat) (B0 : Option Addr) (d0 : Nat) (A1 : Option Addr) (c1 : Nat) (B1 : Option Addr) (d1 : Nat) (w : World) (hm0 : SRow w .u32 A0 [2] c0) (hs0 : SRow w .u16 B0 [] d0) (hm1 : SRow w .u32 A1 [] c1) (hs1 : SRow w .u16 B1 [] d1) : Calls Try.prog 9 #[vv (Vl.mk 4 0 0 false [2] [] 0) A0 c0 B0 d0, vv (Vl.mk 3 0 2 false [] [] 0) A1 c1 B1 d1] w (IsRet (.tuple #[.bool true, iv 0]) w) := by
  have h := cloose_c (Vl.mk 4 0 0 false [2] [] 0) A0 c0 B0 d0 (Vl.mk 3 0 2 false [] [] 0) A1 c1 B1 d1 w hm0 hs0 hm1 hs1 (VOk.big (by omega)) (VOk.whole (by omega) (by omega))
  rw [show looseV (Vl.mk 4 0 0 false [2] [] 0) (Vl.mk 3 0 2 false [] [] 0) = (true, 0) from by decide +kernel] at h
  exact h
set_option maxRecDepth 100000 in
theorem first_l3 (A0 : Option Addr) (c0 : Nat) (B0 : Option Addr) (d0 : Nat) (A1 : Option Addr) (c1 : Nat) (B1 : Option Addr) (d1 : Nat) (w : World) (hm0 : SRow w .u32 A0 [] c0) (hs0 : SRow w .u16 B0 [] d0) (hm1 : SRow w .u32 A1 [] c1) (hs1 : SRow w .u16 B1 [] d1) : Calls Try.prog 9 #[vv (Vl.mk 1 0 0 false [] [] 0) A0 c0 B0 d0, vv (Vl.mk 3 0 0 false [] [] 0) A1 c1 B1 d1] w (IsRet (.tuple #[.bool false, iv 0]) w) := by
  have h := cloose_c (Vl.mk 1 0 0 false [] [] 0) A0 c0 B0 d0 (Vl.mk 3 0 0 false [] [] 0) A1 c1 B1 d1 w hm0 hs0 hm1 hs1 VOk.null (VOk.whole (by omega) (by omega))
  rw [show looseV (Vl.mk 1 0 0 false [] [] 0) (Vl.mk 3 0 0 false [] [] 0) = (false, 0) from by decide +kernel] at h
  exact h
set_option maxRecDepth 100000 in
theorem first_l1 (A0 : Option Addr) (c0 : Nat) (B0 : Option Addr) (d0 : Nat) (A1 : Option Addr) (c1 : Nat) (B1 : Option Addr) (d1 : Nat) (w : World) (hm0 : SRow w .u32 A0 [] c0) (hs0 : SRow w .u16 B0 (asc ⟨#[49]⟩) d0) (hm1 : SRow w .u32 A1 (truthV true).mag c1) (hs1 : SRow w .u16 B1 (truthV true).s d1) : Calls Try.prog 9 #[vv (Vl.mk 5 0 0 false [] (asc ⟨#[49]⟩) 0) A0 c0 B0 d0, vv (truthV true) A1 c1 B1 d1] w (IsRet (.tuple #[.bool true, iv 0]) w) := by
  have h := cloose_c (Vl.mk 5 0 0 false [] (asc ⟨#[49]⟩) 0) A0 c0 B0 d0 (truthV true) A1 c1 B1 d1 w hm0 hs0 hm1 hs1 (VOk.str ⟨#[49]⟩ (by first | omega | decide)) (VOk.truth _)
  rw [show looseV (Vl.mk 5 0 0 false [] (asc ⟨#[49]⟩) 0) (truthV true) = (true, 0) from by decide +kernel] at h
  exact h
set_option maxRecDepth 100000 in
theorem first_i1 (A0 : Option Addr) (c0 : Nat) (B0 : Option Addr) (d0 : Nat) (w : World) (hm0 : SRow w .u32 A0 [] c0) (hs0 : SRow w .u16 B0 [] d0) : Calls Try.prog 13 #[vv (Vl.mk 3 0 (-1) false [] [] 0) A0 c0 B0 d0] w (IsRet (.tuple #[iv 0, iv 2]) w) := by
  have h := cindex_c (Vl.mk 3 0 (-1) false [] [] 0) A0 c0 B0 d0 w hm0 hs0 (VOk.whole (by omega) (by omega))
  rw [show indexV (Vl.mk 3 0 (-1) false [] [] 0) = (0, 2) from by decide +kernel] at h
  exact h
theorem first_c  (w : World) : Calls Try.prog 6 #[] w (IsRet (.bool true) w) := by
 refine enter_abs Try.func6 rfl fun a0 au cM hp => ?_
 have au : a0.tmps.size = 94 := au
 have cN : New w w := Upd.refl _ _
 refine wp_seq_k fun K1 cO => ?_
 refine wp_g0 [true] [] 94
   [vF] au (.eq (.nil)) ?_ ?_
 exact .t (fun _ w hn k => ⟨_, v_assign rfl rfl, rfl⟩) .nil
 refine aftI au cM cN fun a2 w3 bm cP bn ea eb => ?_
 refine st_nil (cO _ _ (wp_seq_k fun K9 cQ => ?_))
 refine wp_g [true, true, true, true, true, true, false, false] [4] [(6, false), (7, true)] 94
   [(fun (v_ : Value) (W : World) => ∃ (A3 : Option Addr) (c4 : Nat), v_ = vv (Vl.mk 5 0 0 false [] (asc ⟨#[49, 50]⟩) 0) none 0 A3 c4 ∧ SRow W .u16 A3 (asc ⟨#[49, 50]⟩) c4), ve (.tuple #[nv (Nm.mk 0 12), iv 0]), ve (.tuple #[nv (Nm.mk 0 12), iv 0]), ve (nv (Nm.mk 0 12)), ve (iv 0), IsNew w3 23 [iv 0, iv 0], vt, vt]
   [5] (newsCons (fun v w h => IsNew.old h) newsNil) bm (.cons (fun _ _ _ n ⟨_, _, e, h⟩ => ⟨_, _, e, h.new_ n⟩) (.eq (.eq (.eq (.eq (.nw (.tt (.tt (.nil))))))))) ?_ ?_ ?_
 refine .o1 (tkC rfl (noG rfl) rfl fun _ w hn k => (by
       refine ⟨#[.string ⟨#[49, 50]⟩], _, args1 rfl, fun w => by kernel_rfl, lstr_c ⟨#[49, 50]⟩ _ (by first | omega | (show (_ : Nat) ≤ _; decide)), ?_⟩
       rintro e w' ⟨A1, c2, rfl, hmo0, hm⟩
       exact ⟨_, rfl, hm, ⟨A1, c2, rfl, hmo0⟩⟩)) ?_
 refine .o1 (tkC rfl (noG rfl) rfl fun _ w hn k => (by
       obtain ⟨A5, c6, e7, cR⟩ : (fun (v_ : Value) (W : World) => ∃ (A3 : Option Addr) (c4 : Nat), v_ = vv (Vl.mk 5 0 0 false [] (asc ⟨#[49, 50]⟩) 0) none 0 A3 c4 ∧ SRow W .u16 A3 (asc ⟨#[49, 50]⟩) c4) _ _ := k.dep 0 16 (by kernel_rfl) (by kernel_rfl)
       refine ⟨#[vv (Vl.mk 5 0 0 false [] (asc ⟨#[49, 50]⟩) 0) none 0 A5 c6], _, args1 e7, fun w => by kernel_rfl, first_n1 _ _ _ _ _ (SRow.nil _ _) cR, ?_⟩
       rintro e w' ⟨rfl, hm⟩
       exact ⟨_, rfl, hm, rfl⟩)) ?_
 refine .m (fun k => k.eq1 1 17 rfl) <| .t (fun _ w hn k => ⟨_, v_extract rfl (k.eq1 2 15 rfl) rfl, rfl⟩) ?_
 refine .o3 ?_
 exact .o2 (step_allocN (cs := [iv 0, iv 0]) (t := 23) rfl (noG rfl) (fun _ w hn k => rfl) (fun q _ hq hb => ⟨q, rfl, hq, hb⟩)) <| .off <| .off .nil
 intro i h
 simp only [List.contains_eq_mem, List.mem_cons, List.not_mem_nil, or_false, decide_eq_true_eq] at h
 subst h
 exact eager_take rfl rfl fun _ w hn k => ⟨iv 0, fun w => v_extract rfl (k.eq1 2 15 rfl) rfl, rfl⟩
 refine aftI bm cP bn fun bo ec aA bB bC dL ar => ?_
 have bp := ar.ge 3 18 rfl
 have bq := ar.ge 4 19 rfl
 obtain ⟨aB, br, bD, bE⟩ : IsNew _ _ _ _ _ := ar.got 5 1 rfl (by kernel_rfl)
 have dM := Nat.le_trans bn.size bD
 obtain ⟨cS, -, aM, aC, bF, dN⟩ := s_two (v0 := iv 0) (v1 := iv 12) Try.sizeOf23 rfl rfl rfl bE
 refine st_act rfl rfl fun ed bG => a_store' rfl br bp aM (bG _ _ trivial ?_)
 have aD := bC.trans bF (fun _ h b => by subst b; omega)
 refine st_take rfl rfl (y_assign (v := iv 0) rfl bq) rfl ?_
 obtain ⟨cT, ag⟩ : ∃ a', a' = bo.put (some 2) (iv 0) := ⟨_, rfl⟩
 have aE := pz ag aA
 have bH := pd ag bB
 have ee := pn ag bp (by decide)
 have ef := pn ag bq (by decide)
 have cU := pn ag br (by decide)
 have cV : cT.eval (.tmp 2) = iv 0 := by rw [ag]; exact put_same _ _ _ (by rw [aA]; decide)
 show stepsTo _ _ _ _ _ (bo.put (some 2) (iv 0)) _
 rw [← ag]
 refine st_nil (cQ _ _ (wp_seq_k fun eg bI => ?_))
 refine wp_g [true, true, true, true, true, true, false, false] [4] [(6, false), (7, true)] 94
   [(fun (v_ : Value) (W : World) => ∃ (ai : Option Addr) (aj : Nat), v_ = vv (Vl.mk 5 0 0 false [] (asc ⟨#[49, 46, 53]⟩) 0) none 0 ai aj ∧ SRow W .u16 ai (asc ⟨#[49, 46, 53]⟩) aj), ve (.tuple #[nv (Nm.mk 0 0), iv 3]), ve (.tuple #[nv (Nm.mk 0 0), iv 3]), ve (nv (Nm.mk 0 0)), ve (iv 3), IsNew cS 23 [iv 0, iv 0], vt, vt]
   [5] (newsCons (fun v w h => IsNew.old h) newsNil) aE (.cons (fun _ _ _ n ⟨_, _, e, h⟩ => ⟨_, _, e, h.new_ n⟩) (.eq (.eq (.eq (.eq (.nw (.tt (.tt (.nil))))))))) ?_ ?_ ?_
 refine .o1 (tkC rfl (noG rfl) rfl fun _ w hn k => (by
       refine ⟨#[.string ⟨#[49, 46, 53]⟩], _, args1 rfl, fun w => by kernel_rfl, lstr_c ⟨#[49, 46, 53]⟩ _ (by first | omega | (show (_ : Nat) ≤ _; decide)), ?_⟩
       rintro e w' ⟨A9, cW, rfl, hmo0, hm⟩
       exact ⟨_, rfl, hm, ⟨A9, cW, rfl, hmo0⟩⟩)) ?_
 refine .o1 (tkC rfl (noG rfl) rfl fun _ w hn k => (by
       obtain ⟨cX, cY, cZ, bJ⟩ : (fun (v_ : Value) (W : World) => ∃ (ai : Option Addr) (aj : Nat), v_ = vv (Vl.mk 5 0 0 false [] (asc ⟨#[49, 46, 53]⟩) 0) none 0 ai aj ∧ SRow W .u16 ai (asc ⟨#[49, 46, 53]⟩) aj) _ _ := k.dep 0 21 (by kernel_rfl) (by kernel_rfl)
       refine ⟨#[vv (Vl.mk 5 0 0 false [] (asc ⟨#[49, 46, 53]⟩) 0) none 0 cX cY], _, args1 cZ, fun w => by kernel_rfl, first_n2 _ _ _ _ _ (SRow.nil _ _) bJ, ?_⟩
       rintro e w' ⟨rfl, hm⟩
       exact ⟨_, rfl, hm, rfl⟩)) ?_
 refine .m (fun k => k.eq1 1 22 rfl) <| .t (fun _ w hn k => ⟨_, v_extract rfl (k.eq1 2 20 rfl) rfl, rfl⟩) ?_
 refine .o3 ?_
 exact .o2 (step_allocN (cs := [iv 0, iv 0]) (t := 23) rfl (noG rfl) (fun _ w hn k => rfl) (fun q _ hq hb => ⟨q, rfl, hq, hb⟩)) <| .off <| .off .nil
 intro i h
 simp only [List.contains_eq_mem, List.mem_cons, List.not_mem_nil, or_false, decide_eq_true_eq] at h
 subst h
 exact eager_take rfl rfl fun _ w hn k => ⟨iv 3, fun w => v_extract rfl (k.eq1 2 20 rfl) rfl, rfl⟩
 refine aftI aE bH aD fun bs eh aF bK bL bM ak => ?_
 have c0 := ak.fx 1 cU
 have c1 := ak.fx 2 cV
 have bt := ak.ge 3 23 rfl
 have bu := ak.ge 4 24 rfl
 obtain ⟨c3, bv, aG, bN⟩ : IsNew _ _ _ _ _ := ak.got 5 3 rfl (by kernel_rfl)
 have bO := aC.new_ bM
 have hne56 : aB ≠ c3 := by have h1 := aC.lt; have h2 := aG; omega
 have dO := Nat.le_trans aD.size aG
 obtain ⟨c5, -, aN, dP, bP, bQ⟩ := s_two (v0 := iv 0) (v1 := iv 0) Try.sizeOf23 rfl rfl rfl bN
 refine st_act rfl rfl fun ei bR => a_store' rfl bv bt aN (bR _ _ trivial ?_)
 have aH := bQ _ _ _ (hne56) bO
 have aI := bL.trans bP (fun _ h b => by subst b; omega)
 refine st_take rfl rfl (y_assign (v := iv 3) rfl bu) rfl ?_
 obtain ⟨c7, ae⟩ : ∃ a', a' = bs.put (some 4) (iv 3) := ⟨_, rfl⟩
 have aJ := pz ae aF
 have bS := pd ae bK
 have c8 := pn ae c0 (by decide)
 have c9 := pn ae c1 (by decide)
 have ej := pn ae bt (by decide)
 have ek := pn ae bu (by decide)
 have el := pn ae bv (by decide)
 have da : c7.eval (.tmp 4) = iv 3 := by rw [ae]; exact put_same _ _ _ (by rw [aF]; decide)
 show stepsTo _ _ _ _ _ (bs.put (some 4) (iv 3)) _
 rw [← ae]
 refine st_nil (bI _ _ (wp_seq_k fun em bT => ?_))
 refine wp_g [true, true, true, true, true, true, false, false] [4] [(6, false), (7, true)] 94
   [(fun (v_ : Value) (W : World) => ∃ (al : Option Addr) (am : Nat), v_ = vv (Vl.mk 4 0 0 false [5] [] 0) al am none 0 ∧ SRow W .u32 al ([5]) am), ve (.tuple #[nv (Nm.mk 0 0), iv 1]), ve (.tuple #[nv (Nm.mk 0 0), iv 1]), ve (nv (Nm.mk 0 0)), ve (iv 1), IsNew c5 23 [iv 0, iv 0], vt, vt]
   [5] (newsCons (fun v w h => IsNew.old h) newsNil) aJ (.cons (fun _ _ _ n ⟨_, _, e, h⟩ => ⟨_, _, e, h.new_ n⟩) (.eq (.eq (.eq (.eq (.nw (.tt (.tt (.nil))))))))) ?_ ?_ ?_
 refine .o1 (tkC rfl (noG rfl) rfl fun _ w hn k => (by
       refine ⟨#[.int .u32 5], _, args1 rfl, fun w => by kernel_rfl, lbig_c 5 _ (by omega), ?_⟩
       rintro e w' ⟨db, dc, rfl, hmo0, hm⟩
       exact ⟨_, rfl, hm, ⟨db, dc, rfl, hmo0⟩⟩)) ?_
 refine .o1 (tkC rfl (noG rfl) rfl fun _ w hn k => (by
       obtain ⟨dd, de, df, bU⟩ : (fun (v_ : Value) (W : World) => ∃ (al : Option Addr) (am : Nat), v_ = vv (Vl.mk 4 0 0 false [5] [] 0) al am none 0 ∧ SRow W .u32 al ([5]) am) _ _ := k.dep 0 26 (by kernel_rfl) (by kernel_rfl)
       refine ⟨#[vv (Vl.mk 4 0 0 false [5] [] 0) dd de none 0], _, args1 df, fun w => by kernel_rfl, first_n3 _ _ _ _ _ bU (SRow.nil _ _), ?_⟩
       rintro e w' ⟨rfl, hm⟩
       exact ⟨_, rfl, hm, rfl⟩)) ?_
 refine .m (fun k => k.eq1 1 27 rfl) <| .t (fun _ w hn k => ⟨_, v_extract rfl (k.eq1 2 25 rfl) rfl, rfl⟩) ?_
 refine .o3 ?_
 exact .o2 (step_allocN (cs := [iv 0, iv 0]) (t := 23) rfl (noG rfl) (fun _ w hn k => rfl) (fun q _ hq hb => ⟨q, rfl, hq, hb⟩)) <| .off <| .off .nil
 intro i h
 simp only [List.contains_eq_mem, List.mem_cons, List.not_mem_nil, or_false, decide_eq_true_eq] at h
 subst h
 exact eager_take rfl rfl fun _ w hn k => ⟨iv 1, fun w => v_extract rfl (k.eq1 2 25 rfl) rfl, rfl⟩
 refine aftI aJ bS aI fun bw en aK bV bW bX ah => ?_
 have dg := ah.fx 1 c8
 have dh := ah.fx 2 c9
 have di := ah.fx 4 da
 have bx := ah.ge 3 28 rfl
 have bz := ah.ge 4 29 rfl
 obtain ⟨dj, bA, aL, bY⟩ : IsNew _ _ _ _ _ := ah.got 5 5 rfl (by kernel_rfl)
 have bZ := aH.new_ bX
 have hne95 : aB ≠ dj := by have h1 := aH.lt; have h2 := aL; omega
 have dQ := Nat.le_trans aI.size aL
 obtain ⟨eo, -, aO, dI, aP, aQ⟩ := s_two (v0 := iv 0) (v1 := iv 0) Try.sizeOf23 rfl rfl rfl bY
 refine st_act rfl rfl fun dR aR => a_store' rfl bA bx aO (aR _ _ trivial ?_)
 have aS := aQ _ _ _ (hne95) bZ
 have aT := bW.trans aP (fun _ h b => by subst b; omega)
 refine st_take rfl rfl (y_assign (v := iv 1) rfl bz) rfl ?_
 obtain ⟨b0, ab⟩ : ∃ a', a' = bw.put (some 6) (iv 1) := ⟨_, rfl⟩
 have av := pz ab aK
 have aU := pd ab bV
 have b1 := pn ab dg (by decide)
 have b2 := pn ab dh (by decide)
 have b3 := pn ab di (by decide)
 have dS := pn ab bx (by decide)
 have dT := pn ab bz (by decide)
 have dU := pn ab bA (by decide)
 have b4 : b0.eval (.tmp 6) = iv 1 := by rw [ab]; exact put_same _ _ _ (by rw [aK]; decide)
 show stepsTo _ _ _ _ _ (bw.put (some 6) (iv 1)) _
 rw [← ab]
 refine st_nil (bT _ _ (wp_seq_k fun dV aV => ?_))
 refine wp_g0 (.replicate 8 true) [] 94
   [(fun (v_ : Value) (W : World) => ∃ (an : Option Addr) (ao : Nat), v_ = vv (Vl.mk 5 0 0 false [] (asc ⟨#[49]⟩) 0) none 0 an ao ∧ SRow W .u16 an (asc ⟨#[49]⟩) ao),
    (VP (truthV true)), ve (.tuple #[.bool true, iv 0]), ve (.tuple #[.bool true, iv 0]), vT, ve (iv 0), vT, ve (iv 0)] av (.cons (fun _ _ _ n ⟨_, _, e, h⟩ => ⟨_, _, e, h.new_ n⟩) (.cons (fun v W W' hn ⟨dk, dl, dm, dn, he, h0, h1⟩ => ⟨dk, dl, dm, dn, he, h0.new_ hn, h1.new_ hn⟩) (.eq (.eq (.eq (.eq (.eq (.eq (.nil))))))))) ?_ ?_
 refine .o1 (tkC rfl (noG rfl) rfl fun _ w hn k => (by
       refine ⟨#[.string ⟨#[49]⟩], _, args1 rfl, fun w => by kernel_rfl, lstr_c ⟨#[49]⟩ _ (by first | omega | (show (_ : Nat) ≤ _; decide)), ?_⟩
       rintro e w' ⟨dp, dq, rfl, hmo0, hm⟩
       exact ⟨_, rfl, hm, ⟨dp, dq, rfl, hmo0⟩⟩)) ?_
 refine .o1 (tkC rfl (noG rfl) rfl fun _ w hn k => (by
       refine ⟨#[.bool true], _, args1 rfl, fun w => by kernel_rfl, truth_c true _ , ?_⟩
       rintro e w' ⟨dr, ds, dt, du, rfl, hmo0, hmo1, hm⟩
       exact ⟨_, rfl, hm, ⟨dr, ds, dt, du, rfl, hmo0, hmo1⟩⟩)) ?_
 refine .o1 (tkC rfl (noG rfl) rfl fun _ w hn k => (by
       obtain ⟨dv, dw, dx, b5⟩ : (fun (v_ : Value) (W : World) => ∃ (an : Option Addr) (ao : Nat), v_ = vv (Vl.mk 5 0 0 false [] (asc ⟨#[49]⟩) 0) none 0 an ao ∧ SRow W .u16 an (asc ⟨#[49]⟩) ao) _ _ := k.dep 0 31 (by kernel_rfl) (by kernel_rfl)
       obtain ⟨dy, dz, dA, dB, dC, b6, b7⟩ : (VP (truthV true)) _ _ := k.dep 1 32 (by kernel_rfl) (by kernel_rfl)
       refine ⟨#[vv (Vl.mk 5 0 0 false [] (asc ⟨#[49]⟩) 0) none 0 dv dw, vv (truthV true) dy dz dA dB], _, args2 dx dC, fun w => by kernel_rfl, first_l1 _ _ _ _ _ _ _ _ _ (SRow.nil _ _) b5 b6 b7, ?_⟩
       rintro e w' ⟨rfl, hm⟩
       exact ⟨_, rfl, hm, rfl⟩)) ?_
 exact .m (fun k => k.eq1 2 33 rfl) <| .t (fun _ w hn k => ⟨_, v_extract rfl (k.eq1 3 30 rfl) rfl, rfl⟩) <| .t (fun _ w hn k => ⟨_, v_extract rfl (k.eq1 3 30 rfl) rfl, rfl⟩) <| .a (fun k => k.eq1 4 34 rfl) <| .a (fun k => k.eq1 5 35 rfl) .nil
 refine aftI av aU aT fun dW dX aw aW aX aY af => ?_
 have b8 := af.fx 1 b1
 have b9 := af.fx 2 b2
 have ca := af.fx 4 b3
 have cb := af.fx 6 b4
 have cc := af.ge 6 7 rfl
 have cd := af.ge 7 8 rfl
 have aZ := aS.new_ aY
 refine st_nil (aV _ _ (wp_seq_k fun dY a1 => ?_))
 refine wp_g0 (.replicate 8 true) [] 94
   [(fun (v_ : Value) (W : World) => ∃ (ap : Option Addr) (aq : Nat), v_ = vv (Vl.mk 4 0 0 false [2] [] 0) ap aq none 0 ∧ SRow W .u32 ap ([2]) aq), ve (vv (Vl.mk 3 0 2 false [] [] 0) none 0 none 0), ve (.tuple #[.bool true, iv 0]), ve (.tuple #[.bool true, iv 0]), vT, ve (iv 0), vT, ve (iv 0)] aw (.cons (fun _ _ _ n ⟨_, _, e, h⟩ => ⟨_, _, e, h.new_ n⟩) (.eq (.eq (.eq (.eq (.eq (.eq (.eq (.nil))))))))) ?_ ?_
 refine .o1 (tkC rfl (noG rfl) rfl fun _ w hn k => (by
       refine ⟨#[.int .u32 2], _, args1 rfl, fun w => by kernel_rfl, lbig_c 2 _ (by omega), ?_⟩
       rintro e w' ⟨dD, dE, rfl, hmo0, hm⟩
       exact ⟨_, rfl, hm, ⟨dD, dE, rfl, hmo0⟩⟩)) ?_
 refine .o1 (ck rfl rfl rfl (fun _ w hn k => ⟨#[iv 2], args1 rfl, fun _ => by kernel_rfl, lwhole_c 2 _ ⟩) fun _ => rfl) ?_
 refine .o1 (tkC rfl (noG rfl) rfl fun _ w hn k => (by
       obtain ⟨dF, dG, dH, ce⟩ : (fun (v_ : Value) (W : World) => ∃ (ap : Option Addr) (aq : Nat), v_ = vv (Vl.mk 4 0 0 false [2] [] 0) ap aq none 0 ∧ SRow W .u32 ap ([2]) aq) _ _ := k.dep 0 37 (by kernel_rfl) (by kernel_rfl)
       refine ⟨#[vv (Vl.mk 4 0 0 false [2] [] 0) dF dG none 0, vv (Vl.mk 3 0 2 false [] [] 0) none 0 none 0], _, args2 dH (k.eq1 1 38 rfl), fun w => by kernel_rfl, first_l2 _ _ _ _ _ _ _ _ _ ce (SRow.nil _ _) (SRow.nil _ _) (SRow.nil _ _), ?_⟩
       rintro e w' ⟨rfl, hm⟩
       exact ⟨_, rfl, hm, rfl⟩)) ?_
 exact .m (fun k => k.eq1 2 39 rfl) <| .t (fun _ w hn k => ⟨_, v_extract rfl (k.eq1 3 36 rfl) rfl, rfl⟩) <| .t (fun _ w hn k => ⟨_, v_extract rfl (k.eq1 3 36 rfl) rfl, rfl⟩) <| .a (fun k => k.eq1 4 40 rfl) <| .a (fun k => k.eq1 5 41 rfl) .nil
 refine aftI aw aW aX fun dZ d0 ax a3 a4 a5 ad => ?_
 have cf := ad.fx 1 b8
 have ch := ad.fx 2 b9
 have ci := ad.fx 4 ca
 have cj := ad.fx 6 cb
 have cl := ad.fx 7 cc
 have cm := ad.fx 8 cd
 have cn := ad.ge 6 9 rfl
 have co := ad.ge 7 10 rfl
 have a6 := aZ.new_ a5
 refine st_nil (a1 _ _ (wp_seq_k fun d1 a7 => ?_))
 refine wp_g0 (.replicate 8 true) [] 94
   [ve (vv (Vl.mk 1 0 0 false [] [] 0) none 0 none 0), ve (vv (Vl.mk 3 0 0 false [] [] 0) none 0 none 0), ve (.tuple #[.bool false, iv 0]), ve (.tuple #[.bool false, iv 0]), vF, ve (iv 0), vF, ve (iv 0)] ax (.eq (.eq (.eq (.eq (.eq (.eq (.eq (.eq (.nil))))))))) ?_ ?_
 exact .t (fun _ w hn k => ⟨_, v_build (ps := [(0, iv 1)]) rfl (parts1 rfl) (by kernel_rfl), rfl⟩) <| .o1 (ck rfl rfl rfl (fun _ w hn k => ⟨#[iv 0], args1 rfl, fun _ => by kernel_rfl, lwhole_c 0 _ ⟩) fun _ => rfl) <| .o1 (ck rfl rfl rfl (fun _ w hn k => ⟨#[vv (Vl.mk 1 0 0 false [] [] 0) none 0 none 0, vv (Vl.mk 3 0 0 false [] [] 0) none 0 none 0], args2 (k.eq1 0 43 rfl) (k.eq1 1 44 rfl), fun _ => by kernel_rfl, first_l3 _ _ _ _ _ _ _ _ _ (SRow.nil _ _) (SRow.nil _ _) (SRow.nil _ _) (SRow.nil _ _)⟩) fun _ => rfl) <| .m (fun k => k.eq1 2 45 rfl) <| .t (fun _ w hn k => ⟨_, v_extract rfl (k.eq1 3 42 rfl) rfl, rfl⟩) <| .t (fun _ w hn k => ⟨_, v_extract rfl (k.eq1 3 42 rfl) rfl, rfl⟩) <| .a (fun k => k.eq1 4 46 rfl) <| .a (fun k => k.eq1 5 47 rfl) .nil
 refine aftI ax a3 a4 fun d2 d3 ay a8 a9 ba ac => ?_
 have cp := ac.fx 1 cf
 have cq := ac.fx 2 ch
 have cr := ac.fx 4 ci
 have ct := ac.fx 6 cj
 have cu := ac.fx 7 cl
 have cv := ac.fx 8 cm
 have cw := ac.fx 9 cn
 have cx := ac.fx 10 co
 have cy := ac.ge 6 11 rfl
 have cz := ac.ge 7 12 rfl
 have bb := a6.new_ ba
 refine st_nil (a7 _ _ (wp_seq_k fun d4 bd => ?_))
 refine wp_g0 [true, true, true, true, true, true, true] [] 94
   [ve (vv (Vl.mk 3 0 (-1) false [] [] 0) none 0 none 0), ve (.tuple #[iv 0, iv 2]), ve (.tuple #[iv 0, iv 2]), ve (iv 0), ve (iv 2), ve (iv 0), ve (iv 2)] ay (.eq (.eq (.eq (.eq (.eq (.eq (.eq (.nil)))))))) ?_ ?_
 exact .o1 (ck rfl rfl rfl (fun _ w hn k => ⟨#[iv (-1)], args1 rfl, fun _ => by kernel_rfl, lwhole_c (-1) _ ⟩) fun _ => rfl) <| .o1 (ck rfl rfl rfl (fun _ w hn k => ⟨#[vv (Vl.mk 3 0 (-1) false [] [] 0) none 0 none 0], args1 (k.eq1 0 49 rfl), fun _ => by kernel_rfl, first_i1 _ _ _ _ _ (SRow.nil _ _) (SRow.nil _ _)⟩) fun _ => rfl) <| .m (fun k => k.eq1 1 50 rfl) <| .t (fun _ w hn k => ⟨_, v_extract rfl (k.eq1 2 48 rfl) rfl, rfl⟩) <| .t (fun _ w hn k => ⟨_, v_extract rfl (k.eq1 2 48 rfl) rfl, rfl⟩) <| .a (fun k => k.eq1 3 51 rfl) <| .a (fun k => k.eq1 4 52 rfl) .nil
 refine aftI ay a8 a9 fun d5 d6 az be bf bg aa => ?_
 have cA := aa.fx 1 cp
 have cB := aa.fx 2 cq
 have cC := aa.fx 4 cr
 have cD := aa.fx 6 ct
 have cE := aa.fx 7 cu
 have cF := aa.fx 8 cv
 have cG := aa.fx 9 cw
 have cH := aa.fx 10 cx
 have cI := aa.fx 11 cy
 have cJ := aa.fx 12 cz
 have cK := aa.ge 6 14 rfl
 have bh := bb.new_ bg
 refine st_nil (bd _ _ (wp_seq_k fun d7 bi => ?_))
 refine wp_g0 (.replicate 42 true) [] 94
   [ve (iv 0), vT, vT, ve (.pointer (some ⟨aB, 1, none⟩)), ve (iv 12), vT, vT, vT, ve (iv 3), vT, vT, vT, ve (iv 1), vT, vT, vT, ve (iv 0), vT, vT, vT, vT, vT, vT, ve (iv 0), vT, vT, vT, vT, vT, vT, ve (iv 0), vT, vT, vT, vF, vT, vT, vT, ve (iv 2), vT, vT, vT] az (.eq (.eq (.eq (.eq (.eq (.eq (.eq (.eq (.eq (.eq (.eq (.eq (.eq (.eq (.eq (.eq (.eq (.eq (.eq (.eq (.eq (.eq (.eq (.eq (.eq (.eq (.eq (.eq (.eq (.eq (.eq (.eq (.eq (.eq (.eq (.eq (.eq (.eq (.eq (.eq (.eq (.eq (.nil))))))))))))))))))))))))))))))))))))))))))) ?_ ?_
 exact .m (fun k => k.fx 2 cB) <| .t (fun _ w hn k => ⟨_, v_bin rfl (k.eq1 0 53 rfl) rfl (fun _ => rfl) (fun w => by kernel_rfl), rfl⟩) <| .m (fun k => k.eq1 1 54 rfl) <| .gf (fun k => k.eq1 2 55 rfl) (fun k => k.fx 1 cA) <| .g (fun k => k.eq1 2 55 rfl) (fun _ w hn k => ⟨_, v_load rfl (k.eq1 3 56 rfl) (l_one Try.isAgg3 ((bh.new_ hn).cell 1)), rfl⟩) <| .g (fun k => k.eq1 2 55 rfl) (fun _ w hn k => ⟨_, v_bin rfl (k.eq1 4 57 rfl) rfl (fun _ => rfl) (fun w => by kernel_rfl), rfl⟩) <| .t (fun _ w hn k => ⟨_, v_pickT rfl (k.eq1 2 55 rfl) (k.eq1 5 58 rfl), rfl⟩) <| .m (fun k => k.eq1 6 59 rfl) <| .gm (fun k => k.eq1 7 60 rfl) (fun k => k.fx 4 cC) <| .g (fun k => k.eq1 7 60 rfl) (fun _ w hn k => ⟨_, v_bin rfl (k.eq1 8 61 rfl) rfl (fun _ => rfl) (fun w => by kernel_rfl), rfl⟩) <| .t (fun _ w hn k => ⟨_, v_pickT rfl (k.eq1 7 60 rfl) (k.eq1 9 62 rfl), rfl⟩) <| .m (fun k => k.eq1 10 63 rfl) <| .gm (fun k => k.eq1 11 64 rfl) (fun k => k.fx 6 cD) <| .g (fun k => k.eq1 11 64 rfl) (fun _ w hn k => ⟨_, v_bin rfl (k.eq1 12 65 rfl) rfl (fun _ => rfl) (fun w => by kernel_rfl), rfl⟩) <| .t (fun _ w hn k => ⟨_, v_pickT rfl (k.eq1 11 64 rfl) (k.eq1 13 66 rfl), rfl⟩) <| .m (fun k => k.eq1 14 67 rfl) <| .gm (fun k => k.eq1 15 68 rfl) (fun k => k.fx 8 cF) <| .g (fun k => k.eq1 15 68 rfl) (fun _ w hn k => ⟨_, v_bin rfl (k.eq1 16 69 rfl) rfl (fun _ => rfl) (fun w => by kernel_rfl), rfl⟩) <| .t (fun _ w hn k => ⟨_, v_pickT rfl (k.eq1 15 68 rfl) (k.eq1 17 70 rfl), rfl⟩) <| .m (fun k => k.eq1 18 71 rfl) <| .gm (fun k => k.eq1 19 72 rfl) (fun k => k.fx 7 cE) <| .t (fun _ w hn k => ⟨_, v_pickT rfl (k.eq1 19 72 rfl) (k.eq1 20 73 rfl), rfl⟩) <| .m (fun k => k.eq1 21 74 rfl) <| .gm (fun k => k.eq1 22 75 rfl) (fun k => k.fx 10 cH) <| .g (fun k => k.eq1 22 75 rfl) (fun _ w hn k => ⟨_, v_bin rfl (k.eq1 23 76 rfl) rfl (fun _ => rfl) (fun w => by kernel_rfl), rfl⟩) <| .t (fun _ w hn k => ⟨_, v_pickT rfl (k.eq1 22 75 rfl) (k.eq1 24 77 rfl), rfl⟩) <| .m (fun k => k.eq1 25 78 rfl) <| .gm (fun k => k.eq1 26 79 rfl) (fun k => k.fx 9 cG) <| .t (fun _ w hn k => ⟨_, v_pickT rfl (k.eq1 26 79 rfl) (k.eq1 27 80 rfl), rfl⟩) <| .m (fun k => k.eq1 28 81 rfl) <| .gm (fun k => k.eq1 29 82 rfl) (fun k => k.fx 12 cJ) <| .g (fun k => k.eq1 29 82 rfl) (fun _ w hn k => ⟨_, v_bin rfl (k.eq1 30 83 rfl) rfl (fun _ => rfl) (fun w => by kernel_rfl), rfl⟩) <| .t (fun _ w hn k => ⟨_, v_pickT rfl (k.eq1 29 82 rfl) (k.eq1 31 84 rfl), rfl⟩) <| .m (fun k => k.eq1 32 85 rfl) <| .gm (fun k => k.eq1 33 86 rfl) (fun k => k.fx 11 cI) <| .g (fun k => k.eq1 33 86 rfl) (fun _ w hn k => ⟨_, v_not rfl (k.eq1 34 87 rfl), rfl⟩) <| .t (fun _ w hn k => ⟨_, v_pickT rfl (k.eq1 33 86 rfl) (k.eq1 35 88 rfl), rfl⟩) <| .m (fun k => k.eq1 36 89 rfl) <| .gm (fun k => k.eq1 37 90 rfl) (fun k => k.fx 14 cK) <| .g (fun k => k.eq1 37 90 rfl) (fun _ w hn k => ⟨_, v_bin rfl (k.eq1 38 91 rfl) rfl (fun _ => rfl) (fun w => by kernel_rfl), rfl⟩) <| .t (fun _ w hn k => ⟨_, v_pickT rfl (k.eq1 37 90 rfl) (k.eq1 39 92 rfl), rfl⟩) <| .a (fun k => k.eq1 40 93 rfl) .nil
 refine aftI az be bf fun d8 d9 dJ bj bk dK bl => ?_
 have cL := bl.ge 41 0 rfl
 refine st_nil (bi _ _ ?_)
 refine wp_ret (ret_k bj (v := .bool true) (res_t rfl cL _) ?_)
 exact ⟨rfl, bk⟩
theorem compares_w (v : Vl) (Av : Option Addr) (cv : Nat) (Bv : Option Addr) (dv : Nat) (u : Vl) (Au : Option Addr) (cu : Nat) (Bu : Option Addr) (du : Nat) (w : World) (hmv : SRow w .u32 Av v.mag cv) (hsv : SRow w .u16 Bv v.s dv) (hmu : SRow w .u32 Au u.mag cu) (hsu : SRow w .u16 Bu u.s du) (hlv : Limbs v.mag) (huv : U16s v.s) (hbv : -9223372036854775808 ≤ v.nn ∧ v.nn ≤ 9223372036854775807 ∧ -9223372036854775808 ≤ v.ref ∧ v.ref ≤ 9223372036854775807) (hlu : Limbs u.mag) (huu : U16s u.s) (hbu : -9223372036854775808 ≤ u.nn ∧ u.nn ≤ 9223372036854775807 ∧ -9223372036854775808 ≤ u.ref ∧ u.ref ≤ 9223372036854775807) : Calls Try.prog 3 #[vv v Av cv Bv dv, vv u Au cu Bu du] w (IsRet (.bool true) w) := by
 refine enter_abs Try.func3 rfl fun a0 aB cq hp => ?_
 have aB : a0.tmps.size = 58 := aB
 have aL : New w w := Upd.refl _ _
 have hp0 : a0.eval (.tmp 0) = vv v Av cv Bv dv := hp 0 _ rfl
 have hp1 : a0.eval (.tmp 1) = vv u Au cu Bu du := hp 1 _ rfl
 refine wp_seq_k fun K1 cr => ?_
 refine wp_g [true, true, true] [] [] 58
   [IsNew w 29 [iv v.k, iv v.nk, iv v.nn, .bool v.neg, sv Av v.mag cv, sv Bv v.s dv, iv v.ref], IsNew w 29 [iv u.k, iv u.nk, iv u.nn, .bool u.neg, sv Au u.mag cu, sv Bu u.s du, iv u.ref], vF]
   [0, 1] (newsCons (fun v w h => IsNew.old h) (newsCons (fun v w h => IsNew.old h) newsNil)) aB (.nw (.nw (.eq (.nil)))) ?_ (fun i h => by cases h) ?_
 exact .o2 (step_allocN (cs := [iv v.k, iv v.nk, iv v.nn, .bool v.neg, sv Av v.mag cv, sv Bv v.s dv, iv v.ref]) (t := 29) rfl (noG rfl) (fun _ w hn k => v_box rfl (k.fx 0 hp0) (fun w => rfl)) (fun q _ hq hb => ⟨q, rfl, hq, hb⟩)) <| .o2 (step_allocN (cs := [iv u.k, iv u.nk, iv u.nn, .bool u.neg, sv Au u.mag cu, sv Bu u.s du, iv u.ref]) (t := 29) rfl (noG rfl) (fun _ w hn k => v_box rfl (k.fx 1 hp1) (fun w => rfl)) (fun q _ hq hb => ⟨q, rfl, hq, hb⟩)) <| .t (fun _ w hn k => ⟨_, v_assign rfl rfl, rfl⟩) .nil
 refine aftI aB cq aL fun a2 w3 bC ct bM c2 bD => ?_
 obtain ⟨q9, h8, bN, bO⟩ : IsNew _ _ _ _ _ := bD.got 0 2 rfl (by kernel_rfl)
 obtain ⟨bE, cw, bP, bQ⟩ : IsNew _ _ _ _ _ := bD.got 1 3 rfl (by kernel_rfl)
 have cG := Nat.le_trans aL.size bN
 have cH := Nat.le_trans aL.size bP
 refine st_nil (cr _ _ (wp_seq_k fun c3 bR => ?_))
 refine wp_seq_k fun c4 bS => ?_
 refine wp_g0 [true, true] [] 58
   [vT, vF] bC (.eq (.eq (.nil))) ?_ ?_
 exact .o1 (ck rfl rfl rfl (fun _ w hn k => ⟨#[], rfl, fun _ => by kernel_rfl, first_c _⟩) fun _ => rfl) <| .t (fun _ w hn k => ⟨_, v_not rfl (k.eq1 0 11 rfl), rfl⟩) .nil
 refine aftI bC ct bM fun c5 c6 am aM ac aN av => ?_
 have aC := av.fx 2 h8
 have aO := av.fx 3 cw
 have cx := av.ge 1 12 rfl
 have an := bO.new_ aN
 have aw := bQ.new_ aN
 refine st_nil (bS _ _ ?_)
 refine wp_cond_false cx ?_
 refine wp_skip ?_
 refine bR _ _ ?_
 refine wp_seq_k fun c7 bT => ?_
 refine wp_seq_k fun c8 aP => ?_
 rcases bc (!(decide ((v.s.length : Int) ≤ 20000) && decide ((v.mag.length : Int) ≤ 40))) with ak | ak
 refine wp_g0 (.replicate 8 true) [] 58
   [ve (vv v Av cv Bv dv), ve (.bool (decide ((v.s.length : Int) ≤ 20000) && decide ((v.mag.length : Int) ≤ 40))), vT, vT, vU, vU, vU, vT] am (.eq (.eq (.eq (.eq (.eq (.eq (.eq (.eq (.nil))))))))) ?_ ?_
 exact .t (fun _ w hn k => ⟨_, v_load rfl (k.fx 2 aC) (l_agg Try.isAgg29 Try.sizeOf29 (an.new_ hn) rfl), rfl⟩) <| .o1 (ck rfl rfl rfl (fun _ w hn k => ⟨#[vv v Av cv Bv dv], args1 (k.eq1 0 13 rfl), fun _ => by kernel_rfl, few_c v _ _ _ _ _ (hmv.new_ (ac.transNew hn)) (hsv.new_ (ac.transNew hn))⟩) fun _ => rfl) <| .o1 (tk rfl rfl fun _ w hn k => ⟨_, v_not rfl (k.eq1 1 14 rfl), congrArg Value.bool ak⟩) <| .m (fun k => k.eq1 2 15 rfl) <| .s (fun k => k.eq1 3 16 rfl) <| .s (fun k => k.eq1 3 16 rfl) <| .s (fun k => k.eq1 3 16 rfl) <| .t (fun _ w hn k => ⟨_, v_pickT rfl (k.eq1 3 16 rfl) rfl, rfl⟩) .nil
 refine aftI am aM ac fun c9 da aQ bU bV aR ax => ?_
 have db := ax.fx 2 aC
 have dc := ax.fx 3 aO
 have cy := ax.ge 7 20 rfl
 have cI := an.new_ aR
 have cJ := aw.new_ aR
 refine st_nil (aP _ _ ?_)
 refine wp_cond_true cy ?_
 refine wp_seq_k fun dd bW => ?_
 refine wp_g0 [true, true] [] 58
   [vT, vT] aQ (.eq (.eq (.nil))) ?_ ?_
 exact .o1 (ck rfl rfl rfl (fun _ w hn k => ⟨#[], rfl, fun _ => by kernel_rfl, first_c _⟩) fun _ => rfl) <| .a (fun k => k.eq1 0 21 rfl) .nil
 refine aftI aQ bU bV fun de df cK bX bY cL bZ => ?_
 have cz := bZ.ge 1 4 rfl
 refine st_nil (bW _ _ ?_)
 refine wp_ret (ret_k bX (v := .bool true) (res_t rfl cz _) ?_)
 exact ⟨rfl, bY⟩
 refine wp_g0 (.replicate 8 true) [] 58
   [ve (vv v Av cv Bv dv), ve (.bool (decide ((v.s.length : Int) ≤ 20000) && decide ((v.mag.length : Int) ≤ 40))), vF, vF, ve (vv u Au cu Bu du), ve (.bool (decide ((u.s.length : Int) ≤ 20000) && decide ((u.mag.length : Int) ≤ 40))), ve (.bool (!(decide ((u.s.length : Int) ≤ 20000) && decide ((u.mag.length : Int) ≤ 40)))), ve (.bool (!(decide ((u.s.length : Int) ≤ 20000) && decide ((u.mag.length : Int) ≤ 40))))] am (.eq (.eq (.eq (.eq (.eq (.eq (.eq (.eq (.nil))))))))) ?_ ?_
 exact .t (fun _ w hn k => ⟨_, v_load rfl (k.fx 2 aC) (l_agg Try.isAgg29 Try.sizeOf29 (an.new_ hn) rfl), rfl⟩) <| .o1 (ck rfl rfl rfl (fun _ w hn k => ⟨#[vv v Av cv Bv dv], args1 (k.eq1 0 13 rfl), fun _ => by kernel_rfl, few_c v _ _ _ _ _ (hmv.new_ (ac.transNew hn)) (hsv.new_ (ac.transNew hn))⟩) fun _ => rfl) <| .o1 (tk rfl rfl fun _ w hn k => ⟨_, v_not rfl (k.eq1 1 14 rfl), congrArg Value.bool ak⟩) <| .m (fun k => k.eq1 2 15 rfl) <| .g (fun k => k.eq1 3 16 rfl) (fun _ w hn k => ⟨_, v_load rfl (k.fx 3 aO) (l_agg Try.isAgg29 Try.sizeOf29 (aw.new_ hn) rfl), rfl⟩) <| .o1 (cg rfl rfl rfl (fun _ _ k => k.eq1 3 16 rfl) rfl (fun _ w hn k => ⟨#[vv u Au cu Bu du], args1 (k.eq1 4 17 rfl), fun _ => by kernel_rfl, few_c u _ _ _ _ _ (hmu.new_ (ac.transNew hn)) (hsu.new_ (ac.transNew hn))⟩) fun _ => rfl) <| .g (fun k => k.eq1 3 16 rfl) (fun _ w hn k => ⟨_, v_not rfl (k.eq1 5 18 rfl), rfl⟩) <| .t (fun _ w hn k => ⟨_, v_pickF rfl (k.eq1 3 16 rfl) (k.eq1 6 19 rfl), rfl⟩) .nil
 refine aftI am aM ac fun bF bG ao aS ad aT ay => ?_
 have bH := ay.fx 2 aC
 have bI := ay.fx 3 aO
 have bJ := ay.ge 7 20 rfl
 have ap := an.new_ aT
 have aq := aw.new_ aT
 refine st_nil (aP _ _ ?_)
 rcases bc (decide ((u.s.length : Int) ≤ 20000) && decide ((u.mag.length : Int) ≤ 40)) with al | al
 have b0 : bF.eval (.tmp 20) = .bool false := bJ.trans (congrArg Value.bool (by rw [al]; rfl))
 refine wp_cond_false b0 ?_
 refine wp_skip ?_
 refine bT _ _ ?_
 refine wp_seq_k fun dg b1 => ?_
 have hvv : VOk v := few_ok (v := v) (by first | exact ak | simpa using ak) hlv huv hbv.1 hbv.2.1 hbv.2.2.1 hbv.2.2.2
 have hvu : VOk u := few_ok (v := u) (by first | exact al | simpa using al) hlu huu hbu.1 hbu.2.1 hbu.2.2.1 hbu.2.2.2
 refine wp_g [true, true, true, true, true, true, false, false] [] [(6, false), (7, false)] 58
   [ve (vv v Av cv Bv dv), ve (vv v Av cv Bv dv), ve (vv u Au cu Bu du), ve (vv u Au cu Bu du), IsNew bG 32 [iv 0, iv 0, iv 0, .bool false, sv none ([]) 0, sv none ([]) 0, iv 0], IsNew bG 32 [iv 0, iv 0, iv 0, .bool false, sv none ([]) 0, sv none ([]) 0, iv 0], vt, vt]
   [4, 5] (newsCons (fun v w h => IsNew.old h) (newsCons (fun v w h => IsNew.old h) newsNil)) ao (.eq (.eq (.eq (.eq (.nw (.nw (.tt (.tt (.nil))))))))) ?_ (fun i h => by cases h) ?_
 exact .t (fun _ w hn k => ⟨_, v_load rfl (k.fx 2 bH) (l_agg Try.isAgg29 Try.sizeOf29 (ap.new_ hn) rfl), rfl⟩) <| .o1 (ck rfl rfl rfl (fun _ w hn k => ⟨#[vv v Av cv Bv dv], args1 (k.eq1 0 22 rfl), fun _ => by kernel_rfl, plain_c v _ _ _ _ _ (hmv.new_ (ad.transNew hn)) (hsv.new_ (ad.transNew hn))⟩) fun _ => rfl) <| .t (fun _ w hn k => ⟨_, v_load rfl (k.fx 3 bI) (l_agg Try.isAgg29 Try.sizeOf29 (aq.new_ hn) rfl), rfl⟩) <| .o1 (ck rfl rfl rfl (fun _ w hn k => ⟨#[vv u Au cu Bu du], args1 (k.eq1 2 24 rfl), fun _ => by kernel_rfl, plain_c u _ _ _ _ _ (hmu.new_ (ad.transNew hn)) (hsu.new_ (ad.transNew hn))⟩) fun _ => rfl) <| .o2 (step_allocN (cs := [iv 0, iv 0, iv 0, .bool false, sv none ([]) 0, sv none ([]) 0, iv 0]) (t := 32) rfl (noG rfl) (fun _ w hn k => rfl) (fun q _ hq hb => ⟨q, rfl, hq, hb⟩)) <| .o2 (step_allocN (cs := [iv 0, iv 0, iv 0, .bool false, sv none ([]) 0, sv none ([]) 0, iv 0]) (t := 32) rfl (noG rfl) (fun _ w hn k => rfl) (fun q _ hq hb => ⟨q, rfl, hq, hb⟩)) <| .off <| .off .nil
 refine aftI ao aS ad fun dh di aU b2 b3 aV af => ?_
 have bK := af.fx 2 bH
 have bL := af.fx 3 bI
 have cA := af.ge 1 23 rfl
 have cB := af.ge 3 25 rfl
 obtain ⟨aD, aW, az, b4⟩ : IsNew _ _ _ _ _ := af.got 4 5 rfl (by kernel_rfl)
 obtain ⟨aE, aX, aA, b5⟩ : IsNew _ _ _ _ _ := af.got 5 6 rfl (by kernel_rfl)
 have b6 := ap.new_ aV
 have b7 := aq.new_ aV
 have hne92 : aD ≠ aE := af.ne 4 5 5 6 aW aX
 have hne93 : q9 ≠ aD := by have h1 := ap.lt; have h2 := az; omega
 have hne94 : q9 ≠ aE := by have h1 := ap.lt; have h2 := aA; omega
 have hne95 : bE ≠ aD := by have h1 := aq.lt; have h2 := az; omega
 have hne96 : bE ≠ aE := by have h1 := aq.lt; have h2 := aA; omega
 have cM := Nat.le_trans ad.size az
 have cN := Nat.le_trans ad.size aA
 obtain ⟨b8, aY, aZ, a6, ar⟩ := s_many (P := Try.prog) (t := 32) (i := 0) [iv v.k, iv v.nk, iv v.nn, .bool v.neg, sv Av v.mag cv, sv Bv v.s dv, iv v.ref] Try.sizeOf32 rfl rfl rfl b4 lb
 have a7 : Blk b8 aD 32 [iv v.k, iv v.nk, iv v.nn, .bool v.neg, sv Av v.mag cv, sv Bv v.s dv, iv v.ref] := aZ
 refine st_act rfl rfl fun cO a8 => a_store' rfl aW cA aY (a8 _ _ trivial ?_)
 have a9 := ar _ _ _ (hne93) b6
 have ba := ar _ _ _ (hne95) b7
 have bb := ar _ _ _ (fun h => hne92 h.symm) b5
 have bd := b3.trans a6 (fun _ h b => by subst b; omega)
 obtain ⟨b9, a1, a3, be, au⟩ := s_many (P := Try.prog) (t := 32) (i := 0) [iv u.k, iv u.nk, iv u.nn, .bool u.neg, sv Au u.mag cu, sv Bu u.s du, iv u.ref] Try.sizeOf32 rfl rfl rfl bb lb
 have bf : Blk b9 aE 32 [iv u.k, iv u.nk, iv u.nn, .bool u.neg, sv Au u.mag cu, sv Bu u.s du, iv u.ref] := a3
 refine st_act rfl rfl fun cP bg => a_store' rfl aX cB a1 (bg _ _ trivial ?_)
 have aF := au _ _ _ (hne94) a9
 have aG := au _ _ _ (hne96) ba
 have bh := au _ _ _ (hne92) a7
 have ag := bd.trans be (fun _ h b => by subst b; omega)
 refine st_nil (b1 _ _ (wp_seq_k fun cQ bi => ?_))
 refine wp_g0 (.replicate 8 true) [] 58
   [ve (vv v Av cv Bv dv), ve (vv u Au cu Bu du), ve (.tuple #[.bool ((looseV v u).1), iv ((looseV v u).2)]), ve (.tuple #[.bool ((looseV v u).1), iv ((looseV v u).2)]), ve (.bool ((looseV v u).1)), ve (iv ((looseV v u).2)), ve (.bool ((looseV v u).1)), ve (iv ((looseV v u).2))] aU (.eq (.eq (.eq (.eq (.eq (.eq (.eq (.eq (.nil))))))))) ?_ ?_
 exact .t (fun _ w hn k => ⟨_, v_load rfl (k.fx 2 bK) (l_agg Try.isAgg29 Try.sizeOf29 (aF.new_ hn) rfl), rfl⟩) <| .t (fun _ w hn k => ⟨_, v_load rfl (k.fx 3 bL) (l_agg Try.isAgg29 Try.sizeOf29 (aG.new_ hn) rfl), rfl⟩) <| .o1 (ck rfl rfl rfl (fun _ w hn k => ⟨#[vv v Av cv Bv dv, vv u Au cu Bu du], args2 (k.eq1 0 27 rfl) (k.eq1 1 28 rfl), fun _ => by kernel_rfl, cloose_c v _ _ _ _ u _ _ _ _ _ (hmv.new_ (ag.transNew hn)) (hsv.new_ (ag.transNew hn)) (hmu.new_ (ag.transNew hn)) (hsu.new_ (ag.transNew hn)) hvv hvu⟩) fun _ => rfl) <| .m (fun k => k.eq1 2 29 rfl) <| .t (fun _ w hn k => ⟨_, v_extract rfl (k.eq1 3 26 rfl) rfl, rfl⟩) <| .t (fun _ w hn k => ⟨_, v_extract rfl (k.eq1 3 26 rfl) rfl, rfl⟩) <| .a (fun k => k.eq1 4 30 rfl) <| .a (fun k => k.eq1 5 31 rfl) .nil
 refine aftI aU b2 ag fun cR cS aH bj ah ai ae => ?_
 have ca := ae.fx 2 bK
 have cb := ae.fx 3 bL
 have a4 := ae.fx 5 aW
 have a5 := ae.fx 6 aX
 have cc := ae.ge 6 7 rfl
 have cd := ae.ge 7 8 rfl
 have bk := aF.new_ ai
 have bl := aG.new_ ai
 have aI := bh.new_ ai
 have aJ := bf.new_ ai
 refine st_nil (bi _ _ (wp_seq_k fun cT bm => ?_))
 refine wp_g0 (.replicate 8 true) [] 58
   [ve (vv v Av cv Bv dv), ve (vv u Au cu Bu du), ve (.tuple #[.bool ((looseV v u).1), iv ((looseV v u).2)]), ve (.tuple #[.bool ((looseV v u).1), iv ((looseV v u).2)]), ve (.bool ((looseV v u).1)), ve (iv ((looseV v u).2)), ve (.bool ((looseV v u).1)), ve (iv ((looseV v u).2))] aH (.eq (.eq (.eq (.eq (.eq (.eq (.eq (.eq (.nil))))))))) ?_ ?_
 exact .t (fun _ w hn k => ⟨_, v_load rfl (k.fx 5 a4) (l_agg Try.isAgg32 Try.sizeOf32 (aI.new_ hn) rfl), rfl⟩) <| .t (fun _ w hn k => ⟨_, v_load rfl (k.fx 6 a5) (l_agg Try.isAgg32 Try.sizeOf32 (aJ.new_ hn) rfl), rfl⟩) <| .o1 (ck rfl rfl rfl (fun _ w hn k => ⟨#[vv v Av cv Bv dv, vv u Au cu Bu du], args2 (k.eq1 0 33 rfl) (k.eq1 1 34 rfl), fun _ => by kernel_rfl, qloose_c v _ _ _ _ u _ _ _ _ _ (hmv.new_ (ah.transNew hn)) (hsv.new_ (ah.transNew hn)) (hmu.new_ (ah.transNew hn)) (hsu.new_ (ah.transNew hn)) hvv hvu⟩) fun _ => rfl) <| .m (fun k => k.eq1 2 35 rfl) <| .t (fun _ w hn k => ⟨_, v_extract rfl (k.eq1 3 32 rfl) rfl, rfl⟩) <| .t (fun _ w hn k => ⟨_, v_extract rfl (k.eq1 3 32 rfl) rfl, rfl⟩) <| .a (fun k => k.eq1 4 36 rfl) <| .a (fun k => k.eq1 5 37 rfl) .nil
 refine aftI aH bj ah fun cU cV aK bn aa aj ab => ?_
 have ce := ab.fx 2 ca
 have cf := ab.fx 3 cb
 have ch := ab.fx 5 a4
 have ci := ab.fx 6 a5
 have cj := ab.fx 7 cc
 have cl := ab.fx 8 cd
 have cm := ab.ge 6 9 rfl
 have cn := ab.ge 7 10 rfl
 have bo := bk.new_ aj
 have bp := bl.new_ aj
 have bq := aI.new_ aj
 have br := aJ.new_ aj
 refine st_nil (bm _ _ (wp_seq_k fun cW bs => ?_))
 refine wp_g0 (.replicate 21 true) [] 58
   [vT, vT, ve (vv v Av cv Bv dv), ve (vv u Au cu Bu du), ve (.bool (strictV v u)), ve (vv v Av cv Bv dv), ve (vv u Au cu Bu du), ve (.bool (strictV v u)), vT, vT, vT, ve (.bool ((looseV v u).1)), ve (.bool ((looseV v u).1)), vT, vT, vT, ve (iv ((looseV v u).2)), ve (iv ((looseV v u).2)), vT, vT, vT] aK (.eq (.eq (.eq (.eq (.eq (.eq (.eq (.eq (.eq (.eq (.eq (.eq (.eq (.eq (.eq (.eq (.eq (.eq (.eq (.eq (.eq (.nil)))))))))))))))))))))) ?_ ?_
 exact .o1 (ck rfl rfl rfl (fun _ w hn k => ⟨#[], rfl, fun _ => by kernel_rfl, first_c _⟩) fun _ => rfl) <| .m (fun k => k.eq1 0 38 rfl) <| .g (fun k => k.eq1 1 39 rfl) (fun _ w hn k => ⟨_, v_load rfl (k.fx 2 ce) (l_agg Try.isAgg29 Try.sizeOf29 (bo.new_ hn) rfl), rfl⟩) <| .g (fun k => k.eq1 1 39 rfl) (fun _ w hn k => ⟨_, v_load rfl (k.fx 3 cf) (l_agg Try.isAgg29 Try.sizeOf29 (bp.new_ hn) rfl), rfl⟩) <| .o1 (cg rfl rfl rfl (fun _ _ k => k.eq1 1 39 rfl) rfl (fun _ w hn k => ⟨#[vv v Av cv Bv dv, vv u Au cu Bu du], args2 (k.eq1 2 40 rfl) (k.eq1 3 41 rfl), fun _ => by kernel_rfl, cstrict_c v _ _ _ _ u _ _ _ _ _ (hmv.new_ (aa.transNew hn)) (hsv.new_ (aa.transNew hn)) (hmu.new_ (aa.transNew hn)) (hsu.new_ (aa.transNew hn))⟩) fun _ => rfl) <| .g (fun k => k.eq1 1 39 rfl) (fun _ w hn k => ⟨_, v_load rfl (k.fx 5 ch) (l_agg Try.isAgg32 Try.sizeOf32 (bq.new_ hn) rfl), rfl⟩) <| .g (fun k => k.eq1 1 39 rfl) (fun _ w hn k => ⟨_, v_load rfl (k.fx 6 ci) (l_agg Try.isAgg32 Try.sizeOf32 (br.new_ hn) rfl), rfl⟩) <| .o1 (cg rfl rfl rfl (fun _ _ k => k.eq1 1 39 rfl) rfl (fun _ w hn k => ⟨#[vv v Av cv Bv dv, vv u Au cu Bu du], args2 (k.eq1 5 43 rfl) (k.eq1 6 44 rfl), fun _ => by kernel_rfl, qstrict_c v _ _ _ _ u _ _ _ _ _ (hmv.new_ (aa.transNew hn)) (hsv.new_ (aa.transNew hn)) (hmu.new_ (aa.transNew hn)) (hsu.new_ (aa.transNew hn))⟩) fun _ => rfl) <| .g (fun k => k.eq1 1 39 rfl) (fun _ w hn k => ⟨_, v_bin rfl (k.eq1 4 42 rfl) (k.eq1 7 45 rfl) (fun _ => rfl) (self_eqlB _), rfl⟩) <| .t (fun _ w hn k => ⟨_, v_pickT rfl (k.eq1 1 39 rfl) (k.eq1 8 46 rfl), rfl⟩) <| .m (fun k => k.eq1 9 47 rfl) <| .gm (fun k => k.eq1 10 48 rfl) (fun k => k.fx 7 cj) <| .gm (fun k => k.eq1 10 48 rfl) (fun k => k.fx 9 cm) <| .g (fun k => k.eq1 10 48 rfl) (fun _ w hn k => ⟨_, v_bin rfl (k.eq1 11 49 rfl) (k.eq1 12 50 rfl) (fun _ => rfl) (self_eqlB _), rfl⟩) <| .t (fun _ w hn k => ⟨_, v_pickT rfl (k.eq1 10 48 rfl) (k.eq1 13 51 rfl), rfl⟩) <| .m (fun k => k.eq1 14 52 rfl) <| .gm (fun k => k.eq1 15 53 rfl) (fun k => k.fx 8 cl) <| .gm (fun k => k.eq1 15 53 rfl) (fun k => k.fx 10 cn) <| .g (fun k => k.eq1 15 53 rfl) (fun _ w hn k => ⟨_, v_bin rfl (k.eq1 16 54 rfl) (k.eq1 17 55 rfl) (fun _ => rfl) (n_eql_self _ _), rfl⟩) <| .t (fun _ w hn k => ⟨_, v_pickT rfl (k.eq1 15 53 rfl) (k.eq1 18 56 rfl), rfl⟩) <| .a (fun k => k.eq1 19 57 rfl) .nil
 refine aftI aK bn aa fun cX cY cC bt bu cD bv => ?_
 have co := bv.ge 20 4 rfl
 refine st_nil (bs _ _ ?_)
 refine wp_ret (ret_k bt (v := .bool true) (res_t rfl co _) ?_)
 exact ⟨rfl, bu⟩
 have bw : bF.eval (.tmp 20) = .bool true := bJ.trans (congrArg Value.bool (by rw [al]; rfl))
 refine wp_cond_true bw ?_
 refine wp_seq_k fun cZ bx => ?_
 refine wp_g0 [true, true] [] 58
   [vT, vT] ao (.eq (.eq (.nil))) ?_ ?_
 exact .o1 (ck rfl rfl rfl (fun _ w hn k => ⟨#[], rfl, fun _ => by kernel_rfl, first_c _⟩) fun _ => rfl) <| .a (fun k => k.eq1 0 21 rfl) .nil
 refine aftI ao aS ad fun c0 c1 cE bz bA cF bB => ?_
 have cp := bB.ge 1 4 rfl
 refine st_nil (bx _ _ ?_)
 refine wp_ret (ret_k bz (v := .bool true) (res_t rfl cp _) ?_)
 exact ⟨rfl, bA⟩
end Go.Proofs.Ytecgdgjlmlpcnaa
