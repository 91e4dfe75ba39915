import Derived.Test.YtjakfchffigkkaaGreatDoorOxc
namespace Go.Proofs.YtjakfchffigkkaaGreatDoor
open Go.RowKit
set_option linter.unusedSimpArgs false
set_option linter.unusedVariables false
set_option maxHeartbeats 16000000
set_option maxRecDepth 100000
theorem binL_c  (v : Vl) (Av : Option Addr) (cv : Nat) (Bv : Option Addr) (dv : Nat) (u : Vl) (Au : Option Addr) (cu : Nat) (Bu : Option Addr) (du : Nat) (w : World) (hmv : SRow w .u32 Av v.mag cv) (hsv : SRow w .u16 Bv v.s dv) (hmu : SRow w .u32 Au u.mag cu) (hsu : SRow w .u16 Bu u.s du) (hvv : VOk v) (hvu : VOk u) (hk1 : (cleanV v).k = 4) (hk2 : (cleanV u).k = 3) (fQ : (numericV (cleanV v)).2 = 0) (fR : (numericV (cleanV u)).2 = 0) (hj1 : (numericV (cleanV v)).1.k = 4) (hj2 : (numericV (cleanV u)).1.k = 3) : Calls Tryz.prog 12 #[.string ⟨#[60]⟩, vv v Av cv Bv dv, vv u Au cu Bu du] w (IsRet (.tuple #[vv (Vl.mk 2 0 0 false [] [] (truthR ((besideO (numericV (cleanV v)).1.neg (numericV (cleanV v)).1.mag (Nm.mk (numericV (cleanV u)).1.nk (numericV (cleanV u)).1.nn)).2 && (decide ((besideO (numericV (cleanV v)).1.neg (numericV (cleanV v)).1.mag (Nm.mk (numericV (cleanV u)).1.nk (numericV (cleanV u)).1.nn)).1 < 0) != false)))) none 0 none 0, iv 0]) w) := by
 refine enter_abs Tryz.func12 rfl fun a0 aU fS hp => ?_
 have aU : a0.tmps.size = 120 := aU
 have aV : New w w := Upd.refl _ _
 have hp0 : a0.eval (.tmp 0) = .string ⟨#[60]⟩ := hp 0 _ rfl
 have hp1 : a0.eval (.tmp 1) = vv v Av cv Bv dv := hp 1 _ rfl
 have hp2 : a0.eval (.tmp 2) = vv u Au cu Bu du := hp 2 _ rfl
 refine wp_seq_k fun K1 fT => ?_
 refine wp_g [true, true, true, true] [] [] 120
   [IsNew w 29 [iv v.k, iv v.nk, iv v.nn, .bool v.neg, sv Av v.mag cv, sv Bv v.s dv, iv v.ref], IsNew w 29 [iv u.k, iv u.nk, iv u.nn, .bool u.neg, sv Au u.mag cu, sv Bu u.s du, iv u.ref], IsNew w 29 [iv 0, iv 0, iv 0, .bool false, sv none ([]) 0, sv none ([]) 0, iv 0], ve (iv 0)]
   [0, 1, 2] (newsCons (fun v w h => IsNew.old h) (newsCons (fun v w h => IsNew.old h) (newsCons (fun v w h => IsNew.old h) newsNil))) aU (.nw (.nw (.nw (.eq (.nil))))) ?_ (fun i h => by cases h) ?_
 exact .o2 (step_allocN (cs := [iv v.k, iv v.nk, iv v.nn, .bool v.neg, sv Av v.mag cv, sv Bv v.s dv, iv v.ref]) (t := 29) rfl (noG rfl) (fun _ w hn k => v_box rfl (k.fx 1 hp1) (fun w => rfl)) (fun q _ hq hb => ⟨q, rfl, hq, hb⟩)) <| .o2 (step_allocN (cs := [iv u.k, iv u.nk, iv u.nn, .bool u.neg, sv Au u.mag cu, sv Bu u.s du, iv u.ref]) (t := 29) rfl (noG rfl) (fun _ w hn k => v_box rfl (k.fx 2 hp2) (fun w => rfl)) (fun q _ hq hb => ⟨q, rfl, hq, hb⟩)) <| .o2 (step_allocN (cs := [iv 0, iv 0, iv 0, .bool false, sv none ([]) 0, sv none ([]) 0, iv 0]) (t := 29) rfl (noG rfl) (fun _ w hn k => rfl) (fun q _ hq hb => ⟨q, rfl, hq, hb⟩)) <| .t (fun _ w hn k => ⟨_, v_assign rfl rfl, rfl⟩) .nil
 refine aftI aU fS aV fun a2 w3 d9 fU aD gX aE => ?_
 have h8 := aE.fx 0 hp0
 obtain ⟨bd, h9, ef, be⟩ : IsNew _ _ _ _ _ := aE.got 0 4 rfl (by kernel_rfl)
 obtain ⟨bf, aW, eg, bg⟩ : IsNew _ _ _ _ _ := aE.got 1 5 rfl (by kernel_rfl)
 obtain ⟨bh, bi, eh, ei⟩ : IsNew _ _ _ _ _ := aE.got 2 6 rfl (by kernel_rfl)
 have hne21 : bd ≠ bf := aE.ne 0 1 4 5 h9 aW
 have hne22 : bd ≠ bh := aE.ne 0 2 4 6 h9 bi
 have hne23 : bf ≠ bh := aE.ne 1 2 5 6 aW bi
 have gb := Nat.le_trans aV.size ef
 have gc := Nat.le_trans aV.size eg
 have gd := Nat.le_trans aV.size eh
 refine st_nil (fT _ _ (wp_seq_k fun gY ej => ?_))
 refine wp_g0 [true, true, true, true, false, false] [(4, false), (5, false)] 120
   [ve (vv v Av cv Bv dv),
    (VP (cleanV v)), ve (vv u Au cu Bu du),
    (VP (cleanV u)), vt, vt] d9 (.eq (.cons (fun v W W' hn ⟨A5, c6, A7, c8, he, h0, h1⟩ => ⟨A5, c6, A7, c8, he, h0.new_ hn, h1.new_ hn⟩) (.eq (.cons (fun v W W' hn ⟨fV, fW, fX, fY, he, h0, h1⟩ => ⟨fV, fW, fX, fY, he, h0.new_ hn, h1.new_ hn⟩) (.tt (.tt (.nil))))))) ?_ ?_
 refine .t (fun _ w hn k => ⟨_, v_load rfl (k.fx 4 h9) (l_agg Tryz.isAgg29 Tryz.sizeOf29 (be.new_ hn) rfl), rfl⟩) ?_
 refine .o1 (tkC rfl (noG rfl) rfl fun _ w hn k => (by
       refine ⟨#[vv v Av cv Bv dv], _, args1 (k.eq1 0 10 rfl), fun w => by kernel_rfl, clean_c v _ _ _ _ _ (hmv.new_ (aD.transNew hn)) (hsv.new_ (aD.transNew hn)), ?_⟩
       rintro e w' ⟨A1, c2, A3, c4, rfl, hmo0, hmo1, hm⟩
       exact ⟨_, rfl, hm, ⟨A1, c2, A3, c4, rfl, hmo0, hmo1⟩⟩)) ?_
 refine .t (fun _ w hn k => ⟨_, v_load rfl (k.fx 5 aW) (l_agg Tryz.isAgg29 Tryz.sizeOf29 (bg.new_ hn) rfl), rfl⟩) ?_
 refine .o1 (tkC rfl (noG rfl) rfl fun _ w hn k => (by
       refine ⟨#[vv u Au cu Bu du], _, args1 (k.eq1 2 12 rfl), fun w => by kernel_rfl, clean_c u _ _ _ _ _ (hmu.new_ (aD.transNew hn)) (hsu.new_ (aD.transNew hn)), ?_⟩
       rintro e w' ⟨A9, fZ, f0, f1, rfl, hmo0, hmo1, hm⟩
       exact ⟨_, rfl, hm, ⟨A9, fZ, f0, f1, rfl, hmo0, hmo1⟩⟩)) ?_
 exact .off <| .off .nil
 refine aftI d9 fU aD fun ea gZ bj ek el aT aC => ?_
 have eb := aC.fx 0 h8
 have ec := aC.fx 4 h9
 have ed := aC.fx 5 aW
 have f2 := aC.fx 6 bi
 obtain ⟨aP, aF, aQ, aG, bk, em, en⟩ : (VP (cleanV v)) _ _ := aC.got 1 11 rfl (by kernel_rfl)
 have bk : ea.eval (.tmp 11) = vv (cleanV v) aP aF aQ aG := bk
 obtain ⟨aR, aH, aS, aI, bl, eo, ep⟩ : (VP (cleanV u)) _ _ := aC.got 3 13 rfl (by kernel_rfl)
 have bl : ea.eval (.tmp 13) = vv (cleanV u) aR aH aS aI := bl
 have aJ := be.new_ aT
 have er := bg.new_ aT
 have es := ei.new_ aT
 obtain ⟨f3, bH, bI, aK, bm⟩ := s_many (P := Tryz.prog) (t := 29) (i := 0) [iv ((cleanV v).k), iv ((cleanV v).nk), iv ((cleanV v).nn), .bool ((cleanV v).neg), sv aP ((cleanV v).mag) aF, sv aQ ((cleanV v).s) aG, iv ((cleanV v).ref)] Tryz.sizeOf29 rfl rfl rfl aJ lb
 have et : Blk f3 bd 29 [iv ((cleanV v).k), iv ((cleanV v).nk), iv ((cleanV v).nn), .bool ((cleanV v).neg), sv aP ((cleanV v).mag) aF, sv aQ ((cleanV v).s) aG, iv ((cleanV v).ref)] := bI
 refine st_act rfl rfl fun g0 eu => a_store' rfl ec bk bH (eu _ _ trivial ?_)
 have ev := em.far aJ aK (by first | rfl | decide | simp [notK])
 have ew := en.far aJ aK (by first | rfl | decide | simp [notK])
 have ex := eo.far aJ aK (by first | rfl | decide | simp [notK])
 have ey := ep.far aJ aK (by first | rfl | decide | simp [notK])
 have aL := bm _ _ _ (fun h => hne21 h.symm) er
 have ez := bm _ _ _ (fun h => hne22 h.symm) es
 have eA := el.trans aK (fun _ h b => by subst b; omega)
 obtain ⟨f4, bJ, bK, aM, bn⟩ := s_many (P := Tryz.prog) (t := 29) (i := 0) [iv ((cleanV u).k), iv ((cleanV u).nk), iv ((cleanV u).nn), .bool ((cleanV u).neg), sv aR ((cleanV u).mag) aH, sv aS ((cleanV u).s) aI, iv ((cleanV u).ref)] Tryz.sizeOf29 rfl rfl rfl aL lb
 have eB : Blk f4 bf 29 [iv ((cleanV u).k), iv ((cleanV u).nk), iv ((cleanV u).nn), .bool ((cleanV u).neg), sv aR ((cleanV u).mag) aH, sv aS ((cleanV u).s) aI, iv ((cleanV u).ref)] := bK
 refine st_act rfl rfl fun g1 eC => a_store' rfl ed bl bJ (eC _ _ trivial ?_)
 have eD := ev.far aL aM (by first | rfl | decide | simp [notK])
 have eE := ew.far aL aM (by first | rfl | decide | simp [notK])
 have eF := ex.far aL aM (by first | rfl | decide | simp [notK])
 have eG := ey.far aL aM (by first | rfl | decide | simp [notK])
 have eH := bn _ _ _ (hne21) et
 have eI := bn _ _ _ (fun h => hne23 h.symm) ez
 have eJ := eA.trans aM (fun _ h b => by subst b; omega)
 refine st_nil (ej _ _ (wp_seq_k fun g2 gf => ?_))
 refine wp_seq_k fun g3 eK => ?_
 refine wp_g0 [true] [] 120
   [ve (.string ⟨#[60]⟩)] bj (.eq (.nil)) ?_ ?_
 exact .m (fun k => k.fx 0 eb) .nil
 refine aftI bj ek eJ fun g4 g5 bo eL bL aB aN => ?_
 have f5 := aN.fx 0 eb
 have f6 := aN.fx 4 ec
 have f7 := aN.fx 5 ed
 have f8 := aN.fx 6 f2
 have ee := aN.ge 0 14 rfl
 have eM := eH.new_ aB
 have eN := eB.new_ aB
 have bM := eI.new_ aB
 have bN := eD.new_ aB
 have bO := eE.new_ aB
 have bP := eF.new_ aB
 have bQ := eG.new_ aB
 refine st_nil (eK _ _ ?_)
 refine wp_block ?_
 refine wp_seq_k fun gg bR => ?_
 refine wp_g0 [true, true] [] 120
   [vF, vF] bo (.eq (.eq (.nil))) ?_ ?_
 exact .t (fun _ w hn k => ⟨_, v_bin rfl (k.fx 14 ee) rfl (fun _ => rfl) (r_eqlS (r := false) (by kernel_rfl)), rfl⟩) <| .a (fun k => k.eq1 0 16 rfl) .nil
 refine aftI bo eL bL fun gh gi aX bS bT aa an => ?_
 have eO := an.fx 0 f5
 have eP := an.fx 4 f6
 have eQ := an.fx 5 f7
 have eR := an.fx 6 f8
 have bp := an.fx 14 ee
 have eS := an.ge 1 15 rfl
 have bU := eM.new_ aa
 have bV := eN.new_ aa
 have bW := bM.new_ aa
 have bX := bN.new_ aa
 have bY := bO.new_ aa
 have bZ := bP.new_ aa
 have b0 := bQ.new_ aa
 refine st_nil (bR _ _ ?_)
 refine wp_cond_false eS ?_
 refine wp_seq_k fun gj b1 => ?_
 refine wp_seq_k fun gk b2 => ?_
 refine wp_g0 [true, true] [] 120
   [vF, vF] aX (.eq (.eq (.nil))) ?_ ?_
 exact .t (fun _ w hn k => ⟨_, v_bin rfl (k.fx 14 bp) rfl (fun _ => rfl) (r_eqlS (r := false) (by kernel_rfl)), rfl⟩) <| .a (fun k => k.eq1 0 37 rfl) .nil
 refine aftI aX bS bT fun gl gm aY b3 b4 ab ao => ?_
 have eT := ao.fx 0 eO
 have eU := ao.fx 4 eP
 have eV := ao.fx 5 eQ
 have eW := ao.fx 6 eR
 have bq := ao.fx 14 bp
 have eX := ao.ge 1 36 rfl
 have b5 := bU.new_ ab
 have b6 := bV.new_ ab
 have b7 := bW.new_ ab
 have b8 := bX.new_ ab
 have b9 := bY.new_ ab
 have ca := bZ.new_ ab
 have cb := b0.new_ ab
 refine st_nil (b2 _ _ ?_)
 refine wp_cond_false eX ?_
 refine wp_seq_k fun gn cc => ?_
 refine wp_g0 [true, true] [] 120
   [vF, vF] aY (.eq (.eq (.nil))) ?_ ?_
 exact .t (fun _ w hn k => ⟨_, v_bin rfl (k.fx 14 bq) rfl (fun _ => rfl) (r_eqlS (r := false) (by kernel_rfl)), rfl⟩) <| .a (fun k => k.eq1 0 38 rfl) .nil
 refine aftI aY b3 b4 fun go gp aZ cd ce ac ap => ?_
 have eY := ap.fx 0 eT
 have eZ := ap.fx 4 eU
 have e0 := ap.fx 5 eV
 have e1 := ap.fx 6 eW
 have br := ap.fx 14 bq
 have e2 := ap.ge 1 36 rfl
 have cf := b5.new_ ac
 have ch := b6.new_ ac
 have ci := b7.new_ ac
 have cj := b8.new_ ac
 have cl := b9.new_ ac
 have cm := ca.new_ ac
 have cn := cb.new_ ac
 refine st_nil (cc _ _ ?_)
 refine wp_cond_false e2 ?_
 refine wp_seq_k fun gq co => ?_
 refine wp_g0 [true, true] [] 120
   [vF, vF] aZ (.eq (.eq (.nil))) ?_ ?_
 exact .t (fun _ w hn k => ⟨_, v_bin rfl (k.fx 14 br) rfl (fun _ => rfl) (r_eqlS (r := false) (by kernel_rfl)), rfl⟩) <| .a (fun k => k.eq1 0 39 rfl) .nil
 refine aftI aZ cd ce fun gr gs a1 cp cq ad aq => ?_
 have e3 := aq.fx 0 eY
 have e4 := aq.fx 4 eZ
 have e5 := aq.fx 5 e0
 have e6 := aq.fx 6 e1
 have bs := aq.fx 14 br
 have e7 := aq.ge 1 36 rfl
 have cr := cf.new_ ad
 have ct := ch.new_ ad
 have cw := ci.new_ ad
 have cx := cj.new_ ad
 have cy := cl.new_ ad
 have cz := cm.new_ ad
 have cA := cn.new_ ad
 refine st_nil (co _ _ ?_)
 refine wp_cond_false e7 ?_
 refine wp_g0 [true, true] [] 120
   [vF, vF] a1 (.eq (.eq (.nil))) ?_ ?_
 exact .t (fun _ w hn k => ⟨_, v_bin rfl (k.fx 14 bs) rfl (fun _ => rfl) (r_eqlS (r := false) (by kernel_rfl)), rfl⟩) <| .a (fun k => k.eq1 0 40 rfl) .nil
 refine aftI a1 cp cq fun gt gu a3 cB cC ae ar => ?_
 have e8 := ar.fx 0 e3
 have e9 := ar.fx 4 e4
 have fa := ar.fx 5 e5
 have fb := ar.fx 6 e6
 have bt := ar.fx 14 bs
 have fc := ar.ge 1 36 rfl
 have cD := cr.new_ ae
 have cE := ct.new_ ae
 have cF := cw.new_ ae
 have cG := cx.new_ ae
 have cH := cy.new_ ae
 have cI := cz.new_ ae
 have cJ := cA.new_ ae
 refine st_nil (b1 _ _ ?_)
 refine wp_cond_false fc ?_
 refine wp_seq_k fun gv cK => ?_
 refine wp_seq_k fun gw cL => ?_
 refine wp_g0 [true, true] [] 120
   [vF, vF] a3 (.eq (.eq (.nil))) ?_ ?_
 exact .t (fun _ w hn k => ⟨_, v_bin rfl (k.fx 14 bt) rfl (fun _ => rfl) (r_eqlS (r := false) (by kernel_rfl)), rfl⟩) <| .a (fun k => k.eq1 0 48 rfl) .nil
 refine aftI a3 cB cC fun gx gy a4 cM cN af au => ?_
 have fd := au.fx 0 e8
 have fe := au.fx 4 e9
 have ff := au.fx 5 fa
 have fg := au.fx 6 fb
 have bu := au.fx 14 bt
 have fh := au.ge 1 47 rfl
 have cO := cD.new_ af
 have cP := cE.new_ af
 have cQ := cF.new_ af
 have cR := cG.new_ af
 have cS := cH.new_ af
 have cT := cI.new_ af
 have cU := cJ.new_ af
 refine st_nil (cL _ _ ?_)
 refine wp_cond_false fh ?_
 refine wp_seq_k fun gz cV => ?_
 refine wp_g0 [true, true] [] 120
   [vF, vF] a4 (.eq (.eq (.nil))) ?_ ?_
 exact .t (fun _ w hn k => ⟨_, v_bin rfl (k.fx 14 bu) rfl (fun _ => rfl) (r_eqlS (r := false) (by kernel_rfl)), rfl⟩) <| .a (fun k => k.eq1 0 49 rfl) .nil
 refine aftI a4 cM cN fun gA gB a5 cW cX ag av => ?_
 have fi := av.fx 0 fd
 have fj := av.fx 4 fe
 have fk := av.fx 5 ff
 have fl := av.fx 6 fg
 have bv := av.fx 14 bu
 have fm := av.ge 1 47 rfl
 have cY := cO.new_ ag
 have cZ := cP.new_ ag
 have c0 := cQ.new_ ag
 have c1 := cR.new_ ag
 have c3 := cS.new_ ag
 have c5 := cT.new_ ag
 have c7 := cU.new_ ag
 refine st_nil (cV _ _ ?_)
 refine wp_cond_false fm ?_
 refine wp_seq_k fun gC c9 => ?_
 refine wp_g0 [true, true] [] 120
   [vF, vF] a5 (.eq (.eq (.nil))) ?_ ?_
 exact .t (fun _ w hn k => ⟨_, v_bin rfl (k.fx 14 bv) rfl (fun _ => rfl) (r_eqlS (r := false) (by kernel_rfl)), rfl⟩) <| .a (fun k => k.eq1 0 50 rfl) .nil
 refine aftI a5 cW cX fun gD gE a6 da db ah aw => ?_
 have fn := aw.fx 0 fi
 have fo := aw.fx 4 fj
 have fp := aw.fx 5 fk
 have fq := aw.fx 6 fl
 have bw := aw.fx 14 bv
 have fr := aw.ge 1 47 rfl
 have dc := cY.new_ ah
 have dd := cZ.new_ ah
 have de := c0.new_ ah
 have df := c1.new_ ah
 have dg := c3.new_ ah
 have dh := c5.new_ ah
 have di := c7.new_ ah
 refine st_nil (c9 _ _ ?_)
 refine wp_cond_false fr ?_
 refine wp_seq_k fun gF dj => ?_
 refine wp_g0 [true, true] [] 120
   [vF, vF] a6 (.eq (.eq (.nil))) ?_ ?_
 exact .t (fun _ w hn k => ⟨_, v_bin rfl (k.fx 14 bw) rfl (fun _ => rfl) (r_eqlS (r := false) (by kernel_rfl)), rfl⟩) <| .a (fun k => k.eq1 0 51 rfl) .nil
 refine aftI a6 da db fun gG gH a7 dk dl ai ax => ?_
 have fs := ax.fx 0 fn
 have ft := ax.fx 4 fo
 have fu := ax.fx 5 fp
 have fv := ax.fx 6 fq
 have bx := ax.fx 14 bw
 have fw := ax.ge 1 47 rfl
 have dm := dc.new_ ai
 have dn := dd.new_ ai
 have dp := de.new_ ai
 have dq := df.new_ ai
 have dr := dg.new_ ai
 have ds := dh.new_ ai
 have dt := di.new_ ai
 refine st_nil (dj _ _ ?_)
 refine wp_cond_false fw ?_
 refine wp_seq_k fun gI dw => ?_
 refine wp_g0 [true, true] [] 120
   [vF, vF] a7 (.eq (.eq (.nil))) ?_ ?_
 exact .t (fun _ w hn k => ⟨_, v_bin rfl (k.fx 14 bx) rfl (fun _ => rfl) (r_eqlS (r := false) (by kernel_rfl)), rfl⟩) <| .a (fun k => k.eq1 0 52 rfl) .nil
 refine aftI a7 dk dl fun gJ gK a8 dx dy aj ay => ?_
 have fy := ay.fx 0 fs
 have fz := ay.fx 4 ft
 have fA := ay.fx 5 fu
 have fB := ay.fx 6 fv
 have bz := ay.fx 14 bx
 have fC := ay.ge 1 47 rfl
 have dz := dm.new_ aj
 have dA := dn.new_ aj
 have dB := dp.new_ aj
 have dC := dq.new_ aj
 have dD := dr.new_ aj
 have dE := ds.new_ aj
 have dF := dt.new_ aj
 refine st_nil (dw _ _ ?_)
 refine wp_cond_false fC ?_
 refine wp_g0 [true, true] [] 120
   [vF, vF] a8 (.eq (.eq (.nil))) ?_ ?_
 exact .t (fun _ w hn k => ⟨_, v_bin rfl (k.fx 14 bz) rfl (fun _ => rfl) (r_eqlS (r := false) (by kernel_rfl)), rfl⟩) <| .a (fun k => k.eq1 0 53 rfl) .nil
 refine aftI a8 dx dy fun gL gM a9 dG dH ak az => ?_
 have fD := az.fx 0 fy
 have fE := az.fx 4 fz
 have fF := az.fx 5 fA
 have fG := az.fx 6 fB
 have bA := az.fx 14 bz
 have fH := az.ge 1 47 rfl
 have dI := dz.new_ ak
 have dJ := dA.new_ ak
 have dK := dB.new_ ak
 have dL := dC.new_ ak
 have dM := dD.new_ ak
 have dN := dE.new_ ak
 have dO := dF.new_ ak
 refine st_nil (cK _ _ ?_)
 refine wp_cond_false fH ?_
 refine wp_seq_k fun gN dP => ?_
 refine wp_g0 [true, true] [] 120
   [vT, vT] a9 (.eq (.eq (.nil))) ?_ ?_
 exact .t (fun _ w hn k => ⟨_, v_bin rfl (k.fx 14 bA) rfl (fun _ => rfl) (r_eqlS (r := true) (by kernel_rfl)), rfl⟩) <| .a (fun k => k.eq1 0 61 rfl) .nil
 refine aftI a9 dG dH fun gO gP ba dQ dR al aA => ?_
 have gQ := aA.fx 0 fD
 have fI := aA.fx 4 fE
 have fJ := aA.fx 5 fF
 have fK := aA.fx 6 fG
 have gR := aA.fx 14 bA
 have fL := aA.ge 1 60 rfl
 have dS := dI.new_ al
 have dT := dJ.new_ al
 have dU := dK.new_ al
 have dV := dL.new_ al
 have dW := dM.new_ al
 have dX := dN.new_ al
 have dY := dO.new_ al
 refine st_nil (dP _ _ ?_)
 refine wp_cond_true fL ?_
 refine wp_seq_k fun gS dZ => ?_
 refine wp_g0 [true, true, true, true, true, false, false] [(5, false), (6, true)] 120
   [ve (vv (cleanV v) aP aF aQ aG), ve (vv (cleanV u) aR aH aS aI), ve (.tuple #[vv (Vl.mk 2 0 0 false [] [] (truthR ((besideO (numericV (cleanV v)).1.neg (numericV (cleanV v)).1.mag (Nm.mk (numericV (cleanV u)).1.nk (numericV (cleanV u)).1.nn)).2 && (decide ((besideO (numericV (cleanV v)).1.neg (numericV (cleanV v)).1.mag (Nm.mk (numericV (cleanV u)).1.nk (numericV (cleanV u)).1.nn)).1 < 0) != false)))) none 0 none 0, iv 0]), ve (vv (Vl.mk 2 0 0 false [] [] (truthR ((besideO (numericV (cleanV v)).1.neg (numericV (cleanV v)).1.mag (Nm.mk (numericV (cleanV u)).1.nk (numericV (cleanV u)).1.nn)).2 && (decide ((besideO (numericV (cleanV v)).1.neg (numericV (cleanV v)).1.mag (Nm.mk (numericV (cleanV u)).1.nk (numericV (cleanV u)).1.nn)).1 < 0) != false)))) none 0 none 0), ve (iv 0), vt, vt] ba (.eq (.eq (.eq (.eq (.eq (.tt (.tt (.nil)))))))) ?_ ?_
 exact .t (fun _ w hn k => ⟨_, v_load rfl (k.fx 4 fI) (l_agg Tryz.isAgg29 Tryz.sizeOf29 (dS.new_ hn) rfl), rfl⟩) <| .t (fun _ w hn k => ⟨_, v_load rfl (k.fx 5 fJ) (l_agg Tryz.isAgg29 Tryz.sizeOf29 (dT.new_ hn) rfl), rfl⟩) <| .o1 (ck rfl rfl rfl (fun _ w hn k => ⟨#[vv (cleanV v) aP aF aQ aG, vv (cleanV u) aR aH aS aI, .bool false, .bool false], args4 (k.eq1 0 62 rfl) (k.eq1 1 63 rfl) rfl rfl, fun _ => by kernel_rfl, lessB_c (cleanV v) _ _ _ _ (cleanV u) _ _ _ _ _ (dV.new_ hn) (dW.new_ hn) (dX.new_ hn) (dY.new_ hn) hvv.clean hvu.clean hk1 hk2 fQ fR hj1 hj2⟩) fun _ => rfl) <| .t (fun _ w hn k => ⟨_, v_extract rfl (k.eq1 2 64 rfl) rfl, rfl⟩) <| .t (fun _ w hn k => ⟨_, v_extract rfl (k.eq1 2 64 rfl) rfl, rfl⟩) <| .off <| .off .nil
 refine aftI ba dQ dR fun bB gT bb d0 d1 d2 aO => ?_
 have bC := aO.fx 6 fK
 have bD := aO.ge 3 65 rfl
 have bE := aO.ge 4 66 rfl
 have d3 := dU.new_ d2
 obtain ⟨fM, bF, bG, d4, f9⟩ := s_many (P := Tryz.prog) (t := 29) (i := 0) [iv 2, iv 0, iv 0, .bool false, sv none ([]) 0, sv none ([]) 0, iv (truthR ((besideO (numericV (cleanV v)).1.neg (numericV (cleanV v)).1.mag (Nm.mk (numericV (cleanV u)).1.nk (numericV (cleanV u)).1.nn)).2 && (decide ((besideO (numericV (cleanV v)).1.neg (numericV (cleanV v)).1.mag (Nm.mk (numericV (cleanV u)).1.nk (numericV (cleanV u)).1.nn)).1 < 0) != false)))] Tryz.sizeOf29 rfl rfl rfl d3 lb
 have d5 : Blk fM bh 29 [iv 2, iv 0, iv 0, .bool false, sv none ([]) 0, sv none ([]) 0, iv (truthR ((besideO (numericV (cleanV v)).1.neg (numericV (cleanV v)).1.mag (Nm.mk (numericV (cleanV u)).1.nk (numericV (cleanV u)).1.nn)).2 && (decide ((besideO (numericV (cleanV v)).1.neg (numericV (cleanV v)).1.mag (Nm.mk (numericV (cleanV u)).1.nk (numericV (cleanV u)).1.nn)).1 < 0) != false)))] := bG
 refine st_act rfl rfl fun gU d6 => a_store' rfl bC bD bF (d6 _ _ trivial ?_)
 have d7 := d1.trans d4 (fun _ h b => by subst b; omega)
 refine st_take rfl rfl (y_assign (v := iv 0) rfl bE) rfl ?_
 obtain ⟨fN, am⟩ : ∃ a', a' = bB.put (some 7) (iv 0) := ⟨_, rfl⟩
 have ga := pz am bb
 have d8 := pd am d0
 have fO := pn am bC (by decide)
 have gV := pn am bD (by decide)
 have gW := pn am bE (by decide)
 have fP : fN.eval (.tmp 7) = iv 0 := by rw [am]; exact put_same _ _ _ (by rw [bb]; decide)
 show stepsTo _ _ _ _ _ (bB.put (some 7) (iv 0)) _
 rw [← am]
 refine st_nil (dZ _ _ ?_)
 refine wp_ret (ret_k d8 (v := .tuple #[vv (Vl.mk 2 0 0 false [] [] (truthR ((besideO (numericV (cleanV v)).1.neg (numericV (cleanV v)).1.mag (Nm.mk (numericV (cleanV u)).1.nk (numericV (cleanV u)).1.nn)).2 && (decide ((besideO (numericV (cleanV v)).1.neg (numericV (cleanV v)).1.mag (Nm.mk (numericV (cleanV u)).1.nk (numericV (cleanV u)).1.nn)).1 < 0) != false)))) none 0 none 0, iv 0]) (res_ct rfl fO fP (l_agg Tryz.isAgg29 Tryz.sizeOf29 d5 rfl)) ?_)
 exact ⟨rfl, d7⟩
theorem minus_c  (v : Vl) (Av : Option Addr) (cv : Nat) (Bv : Option Addr) (dv : Nat) (w : World) (hmv : SRow w .u32 Av v.mag cv) (hsv : SRow w .u16 Bv v.s dv) (hvv : VOk v) (df : (numericV v).2 = 0) (hj1 : (numericV v).1.k = 3) : Calls Tryz.prog 13 #[.string ⟨#[45]⟩, vv v Av cv Bv dv] w (IsRet (.tuple #[vv (Vl.mk 3 (negM (Nm.mk (numericV v).1.nk (numericV v).1.nn)).k (negM (Nm.mk (numericV v).1.nk (numericV v).1.nn)).n false [] [] 0) none 0 none 0, iv 0]) w) := by
 refine enter_abs Tryz.func13 rfl fun a0 aK dg hp => ?_
 have aK : a0.tmps.size = 76 := aK
 have aW : New w w := Upd.refl _ _
 have hp0 : a0.eval (.tmp 0) = .string ⟨#[45]⟩ := hp 0 _ rfl
 have hp1 : a0.eval (.tmp 1) = vv v Av cv Bv dv := hp 1 _ rfl
 refine wp_seq_k fun K1 dh => ?_
 refine wp_g [true, true, true] [] [] 76
   [IsNew w 29 [iv v.k, iv v.nk, iv v.nn, .bool v.neg, sv Av v.mag cv, sv Bv v.s dv, iv v.ref], IsNew w 29 [iv 0, iv 0, iv 0, .bool false, sv none ([]) 0, sv none ([]) 0, iv 0], ve (iv 0)]
   [0, 1] (newsCons (fun v w h => IsNew.old h) (newsCons (fun v w h => IsNew.old h) newsNil)) aK (.nw (.nw (.eq (.nil)))) ?_ (fun i h => by cases h) ?_
 exact .o2 (step_allocN (cs := [iv v.k, iv v.nk, iv v.nn, .bool v.neg, sv Av v.mag cv, sv Bv v.s dv, iv v.ref]) (t := 29) rfl (noG rfl) (fun _ w hn k => v_box rfl (k.fx 1 hp1) (fun w => rfl)) (fun q _ hq hb => ⟨q, rfl, hq, hb⟩)) <| .o2 (step_allocN (cs := [iv 0, iv 0, iv 0, .bool false, sv none ([]) 0, sv none ([]) 0, iv 0]) (t := 29) rfl (noG rfl) (fun _ w hn k => rfl) (fun q _ hq hb => ⟨q, rfl, hq, hb⟩)) <| .t (fun _ w hn k => ⟨_, v_assign rfl rfl, rfl⟩) .nil
 refine aftI aK dg aW fun a2 w3 b7 di ce ej aL => ?_
 have h8 := aL.fx 0 hp0
 obtain ⟨dj, h9, cf, ch⟩ : IsNew _ _ _ _ _ := aL.got 0 3 rfl (by kernel_rfl)
 obtain ⟨aX, b8, ci, cj⟩ : IsNew _ _ _ _ _ := aL.got 1 4 rfl (by kernel_rfl)
 have hne17 : dj ≠ aX := aL.ne 0 1 3 4 h9 b8
 have dX := Nat.le_trans aW.size cf
 have dY := Nat.le_trans aW.size ci
 refine st_nil (dh _ _ (wp_seq_k fun ek cl => ?_))
 refine wp_seq_k fun el cm => ?_
 refine wp_g0 [true] [] 76
   [ve (.string ⟨#[45]⟩)] b7 (.eq (.nil)) ?_ ?_
 exact .m (fun k => k.fx 0 h8) .nil
 refine aftI b7 di ce fun em en aY cn co aZ aw => ?_
 have dk := aw.fx 0 h8
 have dl := aw.fx 3 h9
 have dm := aw.fx 4 b8
 have b9 := aw.ge 0 10 rfl
 have cp := ch.new_ aZ
 have cq := cj.new_ aZ
 refine st_nil (cm _ _ ?_)
 refine wp_block ?_
 refine wp_seq_k fun eo cr => ?_
 refine wp_g0 [true, true] [] 76
   [vF, vF] aY (.eq (.eq (.nil))) ?_ ?_
 exact .t (fun _ w hn k => ⟨_, v_bin rfl (k.fx 10 b9) rfl (fun _ => rfl) (r_eqlS (r := false) (by kernel_rfl)), rfl⟩) <| .a (fun k => k.eq1 0 13 rfl) .nil
 refine aftI aY cn co fun ep er a1 ct cu a3 am => ?_
 have dn := am.fx 0 dk
 have dp := am.fx 3 dl
 have dq := am.fx 4 dm
 have ca := am.fx 10 b9
 have dr := am.ge 1 12 rfl
 have cw := cp.new_ a3
 have cx := cq.new_ a3
 refine st_nil (cr _ _ ?_)
 refine wp_cond_false dr ?_
 refine wp_seq_k fun es cy => ?_
 refine wp_g0 [true, true] [] 76
   [vF, vF] a1 (.eq (.eq (.nil))) ?_ ?_
 exact .t (fun _ w hn k => ⟨_, v_bin rfl (k.fx 10 ca) rfl (fun _ => rfl) (r_eqlS (r := false) (by kernel_rfl)), rfl⟩) <| .a (fun k => k.eq1 0 19 rfl) .nil
 refine aftI a1 ct cu fun et eu a4 cz cA a5 an => ?_
 have ds := an.fx 0 dn
 have dt := an.fx 3 dp
 have du := an.fx 4 dq
 have cb := an.fx 10 ca
 have dw := an.ge 1 18 rfl
 have cB := cw.new_ a5
 have cC := cx.new_ a5
 refine st_nil (cy _ _ ?_)
 refine wp_cond_false dw ?_
 refine wp_seq_k fun ev cD => ?_
 refine wp_g0 [true, true] [] 76
   [vF, vF] a4 (.eq (.eq (.nil))) ?_ ?_
 exact .t (fun _ w hn k => ⟨_, v_bin rfl (k.fx 10 cb) rfl (fun _ => rfl) (r_eqlS (r := false) (by kernel_rfl)), rfl⟩) <| .a (fun k => k.eq1 0 22 rfl) .nil
 refine aftI a4 cz cA fun ew ex a6 cE cF a7 ao => ?_
 have dx := ao.fx 0 ds
 have dy := ao.fx 3 dt
 have dz := ao.fx 4 du
 have cc := ao.fx 10 cb
 have dA := ao.ge 1 21 rfl
 have cG := cB.new_ a7
 have cH := cC.new_ a7
 refine st_nil (cD _ _ ?_)
 refine wp_cond_false dA ?_
 refine wp_seq_k fun ey cI => ?_
 refine wp_seq_k fun ez cJ => ?_
 refine wp_g0 [true, true] [] 76
   [vT, vT] a6 (.eq (.eq (.nil))) ?_ ?_
 exact .t (fun _ w hn k => ⟨_, v_bin rfl (k.fx 10 cc) rfl (fun _ => rfl) (r_eqlS (r := true) (by kernel_rfl)), rfl⟩) <| .a (fun k => k.eq1 0 35 rfl) .nil
 refine aftI a6 cE cF fun eA dB a8 cK ax a9 ap => ?_
 have dC := ap.fx 0 dx
 have dD := ap.fx 3 dy
 have dE := ap.fx 4 dz
 have eB := ap.fx 10 cc
 have cd := ap.ge 1 34 rfl
 have cL := cG.new_ a9
 have ba := cH.new_ a9
 refine st_nil (cJ _ _ ?_)
 refine wp_cond_true cd ?_
 refine wp_skip ?_
 refine cI _ _ ?_
 refine wp_cond_true cd ?_
 refine wp_skip ?_
 refine cl _ _ ?_
 refine wp_seq_k fun eC cM => ?_
 refine wp_gS (fun W => True) (fun W W' hn h => trivial) trivial [true, true, true, true, true, true, false, false] [4] [(6, false), (7, true)] 76
   [ve (vv v Av cv Bv dv), (fun (v_ : Value) (W : World) => ∃ (A5 : Option Addr) (c6 : Nat) (A7 : Option Addr) (c8 : Nat), v_ = .tuple #[vv (numericV v).1 A5 c6 A7 c8, iv ((numericV v).2)] ∧ SRow W .u32 A5 ((numericV v).1.mag) c6 ∧ SRow W .u16 A7 ((numericV v).1.s) c8), (fun (v_ : Value) (W : World) => ∃ (ad : Option Addr) (ae : Nat) (af : Option Addr) (ag : Nat), v_ = .tuple #[vv (numericV v).1 ad ae af ag, iv ((numericV v).2)] ∧ SRow W .u32 ad ((numericV v).1.mag) ae ∧ SRow W .u16 af ((numericV v).1.s) ag), (fun (v_ : Value) (W : World) => ∃ (aq : Option Addr) (ar : Nat) (au : Option Addr) (av : Nat), v_ = vv (numericV v).1 aq ar au av ∧ SRow W .u32 aq ((numericV v).1.mag) ar ∧ SRow W .u16 au ((numericV v).1.s) av), ve (iv ((numericV v).2)), IsNew dB 29 [iv 0, iv 0, iv 0, .bool false, sv none ([]) 0, sv none ([]) 0, iv 0], vt, vt]
   [5] (newsCons (fun v w h => IsNew.old h) newsNil) a8 (.eq (.cons (fun v W W' hn ⟨A5, c6, A7, c8, he, h0, h1⟩ => ⟨A5, c6, A7, c8, he, h0.new_ hn, h1.new_ hn⟩) (.cons (fun v W W' hn ⟨ad, ae, af, ag, he, h0, h1⟩ => ⟨ad, ae, af, ag, he, h0.new_ hn, h1.new_ hn⟩) (.cons (fun v W W' hn ⟨aq, ar, au, av, he, h0, h1⟩ => ⟨aq, ar, au, av, he, h0.new_ hn, h1.new_ hn⟩) (.eq (.nw (.tt (.tt (.nil))))))))) ?_ ?_ ?_
 refine .t (fun _ w hn k => ⟨_, v_load rfl (k.fx 3 dD) (l_agg Tryz.isAgg29 Tryz.sizeOf29 (cL.new_ hn) rfl), rfl⟩) ?_
 refine .o1 (tkC rfl (noG rfl) rfl fun _ w hn k => (by
       refine ⟨#[vv v Av cv Bv dv], _, args1 (k.eq1 0 38 rfl), fun w => by kernel_rfl, cnumeric_c v _ _ _ _ _ (hmv.new_ (ax.transNew hn)) (hsv.new_ (ax.transNew hn)) hvv, ?_⟩
       rintro e w' ⟨A1, c2, A3, c4, rfl, hmo0, hmo1, hm⟩
       exact ⟨_, rfl, hm, ⟨A1, c2, A3, c4, rfl, hmo0, hmo1⟩⟩)) ?_
 refine .o1 (tk rfl rfl fun _ w hn k => (by
       obtain ⟨A9, dF, dG, dH, dI, cN, cO⟩ : (fun (v_ : Value) (W : World) => ∃ (A5 : Option Addr) (c6 : Nat) (A7 : Option Addr) (c8 : Nat), v_ = .tuple #[vv (numericV v).1 A5 c6 A7 c8, iv ((numericV v).2)] ∧ SRow W .u32 A5 ((numericV v).1.mag) c6 ∧ SRow W .u16 A7 ((numericV v).1.s) c8) _ _ := k.dep 1 39 (by kernel_rfl) (by kernel_rfl)
       exact ⟨_, v_move rfl dI, ⟨A9, dF, dG, dH, rfl, cN, cO⟩⟩)) ?_
 refine .o1 (tk rfl rfl fun _ w hn k => (by
       obtain ⟨dJ, dK, dL, dM, dN, cP, cQ⟩ : (fun (v_ : Value) (W : World) => ∃ (ad : Option Addr) (ae : Nat) (af : Option Addr) (ag : Nat), v_ = .tuple #[vv (numericV v).1 ad ae af ag, iv ((numericV v).2)] ∧ SRow W .u32 ad ((numericV v).1.mag) ae ∧ SRow W .u16 af ((numericV v).1.s) ag) _ _ := k.dep 2 37 (by kernel_rfl) (by kernel_rfl)
       exact ⟨_, v_extract rfl dN rfl, ⟨dJ, dK, dL, dM, rfl, cP, cQ⟩⟩)) ?_
 refine .o3 ?_
 exact .o2 (step_allocN (cs := [iv 0, iv 0, iv 0, .bool false, sv none ([]) 0, sv none ([]) 0, iv 0]) (t := 29) rfl (noG rfl) (fun _ w hn k => rfl) (fun q _ hq hb => ⟨q, rfl, hq, hb⟩)) <| .off <| .off .nil
 intro i h
 simp only [List.contains_eq_mem, List.mem_cons, List.not_mem_nil, or_false, decide_eq_true_eq] at h
 subst h
 exact eager_takeG rfl (noG rfl) fun _ w hn k => (by
     obtain ⟨eD, eE, eF, eG, dO, dZ, d0⟩ : (fun (v_ : Value) (W : World) => ∃ (ad : Option Addr) (ae : Nat) (af : Option Addr) (ag : Nat), v_ = .tuple #[vv (numericV v).1 ad ae af ag, iv ((numericV v).2)] ∧ SRow W .u32 ad ((numericV v).1.mag) ae ∧ SRow W .u16 af ((numericV v).1.s) ag) _ _ := k.dep 2 37 (by kernel_rfl) (by kernel_rfl)
     exact ⟨_, fun w hS => v_extract rfl dO rfl, rfl⟩)
 intro bb eH _ aM ab
 obtain ⟨aN, bp, bq⟩ := aft ab a8 cK ax aM
 have cR := ab.fx 0 dC
 have cS := ab.fx 4 dE
 obtain ⟨aI, ay, aJ, az, aA, br, bs⟩ : (fun (v_ : Value) (W : World) => ∃ (aq : Option Addr) (ar : Nat) (au : Option Addr) (av : Nat), v_ = vv (numericV v).1 aq ar au av ∧ SRow W .u32 aq ((numericV v).1.mag) ar ∧ SRow W .u16 au ((numericV v).1.s) av) _ _ := ab.got 3 40 rfl (by kernel_rfl)
 have aA : bb.eval (.tmp 40) = vv (numericV v).1 aI ay aJ az := aA
 have bd := ab.ge 4 41 rfl
 obtain ⟨aB, be, aO, aC⟩ : IsNew _ _ _ _ _ := ab.got 5 8 rfl (by kernel_rfl)
 have bt := ba.new_ aM
 have hne119 : aX ≠ aB := by have h1 := ba.lt; have h2 := aO; omega
 have dR := Nat.le_trans ax.size aO
 obtain ⟨cT, bf, bg, aD, bu⟩ := s_many (P := Tryz.prog) (t := 29) (i := 0) [iv ((numericV v).1.k), iv ((numericV v).1.nk), iv ((numericV v).1.nn), .bool ((numericV v).1.neg), sv aI ((numericV v).1.mag) ay, sv aJ ((numericV v).1.s) az, iv ((numericV v).1.ref)] Tryz.sizeOf29 rfl rfl rfl aC lb
 have bv : Blk cT aB 29 [iv ((numericV v).1.k), iv ((numericV v).1.nk), iv ((numericV v).1.nn), .bool ((numericV v).1.neg), sv aI ((numericV v).1.mag) ay, sv aJ ((numericV v).1.s) az, iv ((numericV v).1.ref)] := bg
 refine st_act rfl rfl fun d1 bw => a_store' rfl be aA bf (bw _ _ trivial ?_)
 have bx := br.far aC aD (by first | rfl | decide | simp [notK])
 have bz := bs.far aC aD (by first | rfl | decide | simp [notK])
 have bA := bu _ _ _ (hne119) bt
 have bB := bq.trans aD (fun _ h b => by subst b; omega)
 refine st_take rfl rfl (y_assign (v := iv ((numericV v).2)) rfl bd) rfl ?_
 obtain ⟨cU, aa⟩ : ∃ a', a' = bb.put (some 9) (iv ((numericV v).2)) := ⟨_, rfl⟩
 have aP := pz aa aN
 have bC := pd aa bp
 have cV := pn aa cR (by decide)
 have cW := pn aa cS (by decide)
 have d2 := pn aa aA (by decide)
 have d3 := pn aa bd (by decide)
 have cX := pn aa be (by decide)
 have bh : cU.eval (.tmp 9) = iv ((numericV v).2) := by rw [aa]; exact put_same _ _ _ (by rw [aN]; decide)
 show stepsTo _ _ _ _ _ (bb.put (some 9) (iv ((numericV v).2))) _
 rw [← aa]
 refine st_nil (cM _ _ (wp_seq_k fun d4 dS => ?_))
 refine wp_block ?_
 refine wp_seq_k fun d5 bD => ?_
 refine wp_g0 [true, true, true] [] 76
   [ve (iv ((numericV v).2)), ve (.bool (!decide (((numericV v).2) = 0))), ve (.bool (!decide (((numericV v).2) = 0)))] aP (.eq (.eq (.eq (.nil)))) ?_ ?_
 exact .m (fun k => k.fx 9 bh) <| .t (fun _ w hn k => ⟨_, v_bin rfl (k.eq1 0 43 rfl) rfl (fun _ => rfl) (r_neq rfl), rfl⟩) <| .a (fun k => k.eq1 1 44 rfl) .nil
 refine aftI aP bC bB fun d6 d7 aQ bE bF ai ah => ?_
 have bi := ah.fx 0 cV
 have cY := ah.fx 4 cW
 have bj := ah.fx 8 cX
 have d8 := ah.fx 9 bh
 have cZ := ah.ge 2 42 rfl
 have bG := bA.new_ ai
 have aR := bv.new_ ai
 have bH := bx.new_ ai
 have bI := bz.new_ ai
 refine st_nil (bD _ _ ?_)
 have aE : ((!decide (((numericV v).2) = 0))) = false := (nf (decide_eq_true (df)))
 have bJ := hB cZ aE
 have aF : (decide (((numericV v).2) = 0)) = true := nT aE
 have dP := oT aF
 refine wp_cond_false bJ ?_
 refine wp_seq_k fun d9 bK => ?_
 refine wp_g0 (.replicate 8 true) [] 76
   [ve (.string ⟨#[45]⟩), vT, vT, ve (pv aB), ve (iv ((numericV v).1.k)), ve (.bool (decide (((numericV v).1.k) = 4))), ve (.bool (decide (((numericV v).1.k) = 4))), ve (.bool (decide (((numericV v).1.k) = 4)))] aQ (.eq (.eq (.eq (.eq (.eq (.eq (.eq (.eq (.nil))))))))) ?_ ?_
 exact .m (fun k => k.fx 0 bi) <| .t (fun _ w hn k => ⟨_, v_bin rfl (k.eq1 0 48 rfl) rfl (fun _ => rfl) (r_eqlS (r := true) (by kernel_rfl)), rfl⟩) <| .m (fun k => k.eq1 1 49 rfl) <| .gf (fun k => k.eq1 2 50 rfl) (fun k => k.fx 8 bj) <| .g (fun k => k.eq1 2 50 rfl) (fun _ w hn k => ⟨_, v_load rfl (k.eq1 3 51 rfl) (l_one Tryz.isAgg3 ((aR.new_ hn).cell 0)), rfl⟩) <| .g (fun k => k.eq1 2 50 rfl) (fun _ w hn k => ⟨_, v_bin rfl (k.eq1 4 52 rfl) rfl (fun _ => rfl) (r_eql rfl), rfl⟩) <| .t (fun _ w hn k => ⟨_, v_pickT rfl (k.eq1 2 50 rfl) (k.eq1 5 53 rfl), rfl⟩) <| .a (fun k => k.eq1 6 54 rfl) .nil
 refine aftI aQ bE bF fun ea eb aS bL bM aj ak => ?_
 have c0 := ak.fx 0 bi
 have c1 := ak.fx 4 cY
 have c3 := ak.fx 8 bj
 have c5 := ak.ge 7 47 rfl
 have bN := bG.new_ aj
 have bO := aR.new_ aj
 have bP := bH.new_ aj
 have bQ := bI.new_ aj
 refine st_nil (bK _ _ ?_)
 have aG : (decide (((numericV v).1.k) = 4)) = false := decide_eq_false (by omega)
 have dQ := oF aG
 have bR := hB c5 aG
 refine wp_cond_false bR ?_
 refine wp_seq_k fun ec bS => ?_
 refine wp_g0 [true, true, true] [] 76
   [ve (.string ⟨#[45]⟩), vT, vT] aS (.eq (.eq (.eq (.nil)))) ?_ ?_
 exact .m (fun k => k.fx 0 c0) <| .t (fun _ w hn k => ⟨_, v_bin rfl (k.eq1 0 60 rfl) rfl (fun _ => rfl) (r_eqlS (r := true) (by kernel_rfl)), rfl⟩) <| .a (fun k => k.eq1 1 61 rfl) .nil
 refine aftI aS bL bM fun ed ee aT bT bU al aH => ?_
 have c7 := aH.fx 4 c1
 have c9 := aH.fx 8 c3
 have da := aH.ge 2 59 rfl
 have bV := bN.new_ al
 have bW := bO.new_ al
 have dT := bP.new_ al
 have dU := bQ.new_ al
 refine st_nil (bS _ _ ?_)
 refine wp_cond_true da ?_
 refine wp_seq_k fun ef bX => ?_
 refine wp_g0 [true, true, true, true, false, false] [(4, false), (5, true)] 76
   [ve (.pointer (some ⟨aB, 1, none⟩)), ve (nv (Nm.mk ((numericV v).1.nk) ((numericV v).1.nn))), ve (nv (negM (Nm.mk ((numericV v).1.nk) ((numericV v).1.nn)))), ve (vv (Vl.mk 3 (negM (Nm.mk ((numericV v).1.nk) ((numericV v).1.nn))).k (negM (Nm.mk ((numericV v).1.nk) ((numericV v).1.nn))).n false [] [] 0) none 0 none 0), vt, vt] aT (.eq (.eq (.eq (.eq (.tt (.tt (.nil))))))) ?_ ?_
 exact .f (fun k => k.fx 8 c9) <| .t (fun _ w hn k => ⟨_, v_load rfl (k.eq1 0 62 rfl) (l_part Tryz.isAgg23 Tryz.sizeOf23 (bW.new_ hn) lb), rfl⟩) <| .o1 (ck rfl rfl rfl (fun _ w hn k => ⟨#[nv (Nm.mk ((numericV v).1.nk) ((numericV v).1.nn))], args1 (k.eq1 1 63 rfl), fun _ => by kernel_rfl, nneg_c (Nm.mk ((numericV v).1.nk) ((numericV v).1.nn)) _ ⟩) fun _ => rfl) <| .o1 (ck rfl rfl rfl (fun _ w hn k => ⟨#[nv (negM (Nm.mk ((numericV v).1.nk) ((numericV v).1.nn)))], args1 (k.eq1 2 64 rfl), fun _ => by kernel_rfl, cnum_c (negM (Nm.mk ((numericV v).1.nk) ((numericV v).1.nn))) _ ⟩) fun _ => rfl) <| .off <| .off .nil
 refine aftI aT bT bU fun bk eg aU bY bZ b0 aV => ?_
 have bl := aV.fx 4 c7
 have bm := aV.ge 3 65 rfl
 have b1 := bV.new_ b0
 obtain ⟨db, bn, bo, b2, dV⟩ := s_many (P := Tryz.prog) (t := 29) (i := 0) [iv 3, iv ((negM (Nm.mk ((numericV v).1.nk) ((numericV v).1.nn))).k), iv ((negM (Nm.mk ((numericV v).1.nk) ((numericV v).1.nn))).n), .bool false, sv none ([]) 0, sv none ([]) 0, iv 0] Tryz.sizeOf29 rfl rfl rfl b1 lb
 have b3 : Blk db aX 29 [iv 3, iv ((negM (Nm.mk ((numericV v).1.nk) ((numericV v).1.nn))).k), iv ((negM (Nm.mk ((numericV v).1.nk) ((numericV v).1.nn))).n), .bool false, sv none ([]) 0, sv none ([]) 0, iv 0] := bo
 refine st_act rfl rfl fun eh b4 => a_store' rfl bl bm bn (b4 _ _ trivial ?_)
 have b5 := bZ.trans b2 (fun _ h b => by subst b; omega)
 refine st_take rfl rfl (y_assign (v := iv 0) rfl rfl) rfl ?_
 obtain ⟨dc, ac⟩ : ∃ a', a' = bk.put (some 5) (iv 0) := ⟨_, rfl⟩
 have dW := pz ac aU
 have b6 := pd ac bY
 have dd := pn ac bl (by decide)
 have ei := pn ac bm (by decide)
 have de : dc.eval (.tmp 5) = iv 0 := by rw [ac]; exact put_same _ _ _ (by rw [aU]; decide)
 show stepsTo _ _ _ _ _ (bk.put (some 5) (iv 0)) _
 rw [← ac]
 refine st_nil (bX _ _ ?_)
 refine wp_ret (ret_k b6 (v := .tuple #[vv (Vl.mk 3 (negM (Nm.mk ((numericV v).1.nk) ((numericV v).1.nn))).k (negM (Nm.mk ((numericV v).1.nk) ((numericV v).1.nn))).n false [] [] 0) none 0 none 0, iv 0]) (res_ct rfl dd de (l_agg Tryz.isAgg29 Tryz.sizeOf29 b3 rfl)) ?_)
 refine ⟨?_, b5⟩
 show Ending.returned (.tuple #[vv (Vl.mk 3 (negM (Nm.mk ((numericV v).1.nk) ((numericV v).1.nn))).k (negM (Nm.mk ((numericV v).1.nk) ((numericV v).1.nn))).n false [] [] 0) none 0 none 0, iv 0]) = Ending.returned (.tuple #[vv (Vl.mk 3 (negM (Nm.mk (numericV v).1.nk (numericV v).1.nn)).k (negM (Nm.mk (numericV v).1.nk (numericV v).1.nn)).n false [] [] 0) none 0 none 0, iv 0])
 first | rfl | (simp only [aE, aF, aF, aG, bsm] <;> rfl) | (exfalso; omega)
def ops_c_P  (w : World) (en : Ending) (w' : World) : Prop := ∃ (Ar0 : Option Addr) (cr0 : Nat), en = .returned (svT Ar0 ([⟨#[43]⟩, ⟨#[45]⟩, ⟨#[42]⟩, ⟨#[47]⟩, ⟨#[37]⟩, ⟨#[38]⟩, ⟨#[124]⟩, ⟨#[94]⟩, ⟨#[60, 60]⟩, ⟨#[62, 62]⟩, ⟨#[62, 62, 62]⟩, ⟨#[60]⟩, ⟨#[62]⟩, ⟨#[60, 61]⟩, ⟨#[62, 61]⟩, ⟨#[61, 61]⟩, ⟨#[33, 61]⟩, ⟨#[61, 61, 61]⟩, ⟨#[33, 61, 61]⟩]) cr0) ∧ TRow w' Ar0 ([⟨#[43]⟩, ⟨#[45]⟩, ⟨#[42]⟩, ⟨#[47]⟩, ⟨#[37]⟩, ⟨#[38]⟩, ⟨#[124]⟩, ⟨#[94]⟩, ⟨#[60, 60]⟩, ⟨#[62, 62]⟩, ⟨#[62, 62, 62]⟩, ⟨#[60]⟩, ⟨#[62]⟩, ⟨#[60, 61]⟩, ⟨#[62, 61]⟩, ⟨#[61, 61]⟩, ⟨#[33, 61]⟩, ⟨#[61, 61, 61]⟩, ⟨#[33, 61, 61]⟩]) cr0 ∧ New w w'
theorem ops_c  (w : World) : Calls Tryz.prog 32 #[] w (ops_c_P  w) := by
 refine enter_abs Tryz.func32 rfl fun a0 ac ak hp => ?_
 have ac : a0.tmps.size = 2 := ac
 have al : New w w := Upd.refl _ _
 refine wp_seq_k fun K1 am => ?_
 refine wp_g0 [true] [] 2
   [ve (sv none ([]) 0)] ac (.eq (.nil)) ?_ ?_
 exact .t (fun _ w hn k => ⟨_, v_assign rfl rfl, rfl⟩) .nil
 refine aftI ac ak al fun a2 w3 af an ao aw ax => ?_
 refine st_nil (am _ _ (wp_seq_k fun K9 ap => ?_))
 refine wp_g0 [true, true] [] 2
   [(fun (v_ : Value) (W : World) => ∃ (A3 : Option Addr) (c4 : Nat), v_ = svT A3 ([⟨#[43]⟩, ⟨#[45]⟩, ⟨#[42]⟩, ⟨#[47]⟩, ⟨#[37]⟩, ⟨#[38]⟩, ⟨#[124]⟩, ⟨#[94]⟩, ⟨#[60, 60]⟩, ⟨#[62, 62]⟩, ⟨#[62, 62, 62]⟩, ⟨#[60]⟩, ⟨#[62]⟩, ⟨#[60, 61]⟩, ⟨#[62, 61]⟩, ⟨#[61, 61]⟩, ⟨#[33, 61]⟩, ⟨#[61, 61, 61]⟩, ⟨#[33, 61, 61]⟩]) c4 ∧ TRow W A3 ([⟨#[43]⟩, ⟨#[45]⟩, ⟨#[42]⟩, ⟨#[47]⟩, ⟨#[37]⟩, ⟨#[38]⟩, ⟨#[124]⟩, ⟨#[94]⟩, ⟨#[60, 60]⟩, ⟨#[62, 62]⟩, ⟨#[62, 62, 62]⟩, ⟨#[60]⟩, ⟨#[62]⟩, ⟨#[60, 61]⟩, ⟨#[62, 61]⟩, ⟨#[61, 61]⟩, ⟨#[33, 61]⟩, ⟨#[61, 61, 61]⟩, ⟨#[33, 61, 61]⟩]) c4), (fun (v_ : Value) (W : World) => ∃ (A9 : Option Addr) (aa : Nat), v_ = svT A9 ([⟨#[43]⟩, ⟨#[45]⟩, ⟨#[42]⟩, ⟨#[47]⟩, ⟨#[37]⟩, ⟨#[38]⟩, ⟨#[124]⟩, ⟨#[94]⟩, ⟨#[60, 60]⟩, ⟨#[62, 62]⟩, ⟨#[62, 62, 62]⟩, ⟨#[60]⟩, ⟨#[62]⟩, ⟨#[60, 61]⟩, ⟨#[62, 61]⟩, ⟨#[61, 61]⟩, ⟨#[33, 61]⟩, ⟨#[61, 61, 61]⟩, ⟨#[33, 61, 61]⟩]) aa ∧ TRow W A9 ([⟨#[43]⟩, ⟨#[45]⟩, ⟨#[42]⟩, ⟨#[47]⟩, ⟨#[37]⟩, ⟨#[38]⟩, ⟨#[124]⟩, ⟨#[94]⟩, ⟨#[60, 60]⟩, ⟨#[62, 62]⟩, ⟨#[62, 62, 62]⟩, ⟨#[60]⟩, ⟨#[62]⟩, ⟨#[60, 61]⟩, ⟨#[62, 61]⟩, ⟨#[61, 61]⟩, ⟨#[33, 61]⟩, ⟨#[61, 61, 61]⟩, ⟨#[33, 61, 61]⟩]) aa)] af (.cons (fun _ _ _ n ⟨_, _, e, h⟩ => ⟨_, _, e, h.new_ n⟩) (.cons (fun v W W' hn ⟨A9, aa, he, h0⟩ => ⟨A9, aa, he, h0.new_ hn⟩) (.nil))) ?_ ?_
 refine .o1 (tkA rfl (noG rfl) fun _ w hn k => (by
       exact x_bsliceT (ps := [(0, .string ⟨#[43]⟩), (1, .string ⟨#[45]⟩), (2, .string ⟨#[42]⟩), (3, .string ⟨#[47]⟩), (4, .string ⟨#[37]⟩), (5, .string ⟨#[38]⟩), (6, .string ⟨#[124]⟩), (7, .string ⟨#[94]⟩), (8, .string ⟨#[60, 60]⟩), (9, .string ⟨#[62, 62]⟩), (10, .string ⟨#[62, 62, 62]⟩), (11, .string ⟨#[60]⟩), (12, .string ⟨#[62]⟩), (13, .string ⟨#[60, 61]⟩), (14, .string ⟨#[62, 61]⟩), (15, .string ⟨#[61, 61]⟩), (16, .string ⟨#[33, 61]⟩), (17, .string ⟨#[61, 61, 61]⟩), (18, .string ⟨#[33, 61, 61]⟩)]) [⟨#[43]⟩, ⟨#[45]⟩, ⟨#[42]⟩, ⟨#[47]⟩, ⟨#[37]⟩, ⟨#[38]⟩, ⟨#[124]⟩, ⟨#[94]⟩, ⟨#[60, 60]⟩, ⟨#[62, 62]⟩, ⟨#[62, 62, 62]⟩, ⟨#[60]⟩, ⟨#[62]⟩, ⟨#[60, 61]⟩, ⟨#[62, 61]⟩, ⟨#[61, 61]⟩, ⟨#[33, 61]⟩, ⟨#[61, 61, 61]⟩, ⟨#[33, 61, 61]⟩] rfl (by simp [Act.eval]) elT rfl (by omega) (by omega) (by kernel_rfl) fun A1 c2 W' hmo => ⟨A1, c2, rfl, hmo⟩)) ?_
 refine .o1 (tk rfl rfl fun _ w hn k => (by
       obtain ⟨A5, c6, e7, aq⟩ : (fun (v_ : Value) (W : World) => ∃ (A3 : Option Addr) (c4 : Nat), v_ = svT A3 ([⟨#[43]⟩, ⟨#[45]⟩, ⟨#[42]⟩, ⟨#[47]⟩, ⟨#[37]⟩, ⟨#[38]⟩, ⟨#[124]⟩, ⟨#[94]⟩, ⟨#[60, 60]⟩, ⟨#[62, 62]⟩, ⟨#[62, 62, 62]⟩, ⟨#[60]⟩, ⟨#[62]⟩, ⟨#[60, 61]⟩, ⟨#[62, 61]⟩, ⟨#[61, 61]⟩, ⟨#[33, 61]⟩, ⟨#[61, 61, 61]⟩, ⟨#[33, 61, 61]⟩]) c4 ∧ TRow W A3 ([⟨#[43]⟩, ⟨#[45]⟩, ⟨#[42]⟩, ⟨#[47]⟩, ⟨#[37]⟩, ⟨#[38]⟩, ⟨#[124]⟩, ⟨#[94]⟩, ⟨#[60, 60]⟩, ⟨#[62, 62]⟩, ⟨#[62, 62, 62]⟩, ⟨#[60]⟩, ⟨#[62]⟩, ⟨#[60, 61]⟩, ⟨#[62, 61]⟩, ⟨#[61, 61]⟩, ⟨#[33, 61]⟩, ⟨#[61, 61, 61]⟩, ⟨#[33, 61, 61]⟩]) c4) _ _ := k.dep 0 1 (by kernel_rfl) (by kernel_rfl)
       exact ⟨_, v_assign rfl e7, ⟨A5, c6, rfl, aq⟩⟩)) ?_
 exact .nil
 refine aftI af an ao fun ar ay au ag ah av ai => ?_
 obtain ⟨ad, ab, ae, aj⟩ : (fun (v_ : Value) (W : World) => ∃ (A9 : Option Addr) (aa : Nat), v_ = svT A9 ([⟨#[43]⟩, ⟨#[45]⟩, ⟨#[42]⟩, ⟨#[47]⟩, ⟨#[37]⟩, ⟨#[38]⟩, ⟨#[124]⟩, ⟨#[94]⟩, ⟨#[60, 60]⟩, ⟨#[62, 62]⟩, ⟨#[62, 62, 62]⟩, ⟨#[60]⟩, ⟨#[62]⟩, ⟨#[60, 61]⟩, ⟨#[62, 61]⟩, ⟨#[61, 61]⟩, ⟨#[33, 61]⟩, ⟨#[61, 61, 61]⟩, ⟨#[33, 61, 61]⟩]) aa ∧ TRow W A9 ([⟨#[43]⟩, ⟨#[45]⟩, ⟨#[42]⟩, ⟨#[47]⟩, ⟨#[37]⟩, ⟨#[38]⟩, ⟨#[124]⟩, ⟨#[94]⟩, ⟨#[60, 60]⟩, ⟨#[62, 62]⟩, ⟨#[62, 62, 62]⟩, ⟨#[60]⟩, ⟨#[62]⟩, ⟨#[60, 61]⟩, ⟨#[62, 61]⟩, ⟨#[61, 61]⟩, ⟨#[33, 61]⟩, ⟨#[61, 61, 61]⟩, ⟨#[33, 61, 61]⟩]) aa) _ _ := ai.got 1 0 rfl (by kernel_rfl)
 have ae : ar.eval (.tmp 0) = svT ad ([⟨#[43]⟩, ⟨#[45]⟩, ⟨#[42]⟩, ⟨#[47]⟩, ⟨#[37]⟩, ⟨#[38]⟩, ⟨#[124]⟩, ⟨#[94]⟩, ⟨#[60, 60]⟩, ⟨#[62, 62]⟩, ⟨#[62, 62, 62]⟩, ⟨#[60]⟩, ⟨#[62]⟩, ⟨#[60, 61]⟩, ⟨#[62, 61]⟩, ⟨#[61, 61]⟩, ⟨#[33, 61]⟩, ⟨#[61, 61, 61]⟩, ⟨#[33, 61, 61]⟩]) ab := ae
 refine st_nil (ap _ _ ?_)
 refine wp_ret (ret_k ag (v := svT ad ([⟨#[43]⟩, ⟨#[45]⟩, ⟨#[42]⟩, ⟨#[47]⟩, ⟨#[37]⟩, ⟨#[38]⟩, ⟨#[124]⟩, ⟨#[94]⟩, ⟨#[60, 60]⟩, ⟨#[62, 62]⟩, ⟨#[62, 62, 62]⟩, ⟨#[60]⟩, ⟨#[62]⟩, ⟨#[60, 61]⟩, ⟨#[62, 61]⟩, ⟨#[61, 61]⟩, ⟨#[33, 61]⟩, ⟨#[61, 61, 61]⟩, ⟨#[33, 61, 61]⟩]) ab) (res_t rfl ae _) ?_)
 exact ⟨ad, ab, rfl, aj, ah⟩
def rops_c_P  (w : World) (en : Ending) (w' : World) : Prop := ∃ (Ar0 : Option Addr) (cr0 : Nat), en = .returned (svT Ar0 ([⟨#[43]⟩, ⟨#[45]⟩, ⟨#[42]⟩, ⟨#[47]⟩, ⟨#[37]⟩, ⟨#[38]⟩, ⟨#[124]⟩, ⟨#[94]⟩, ⟨#[60, 60]⟩, ⟨#[62, 62]⟩, ⟨#[62, 62, 62]⟩, ⟨#[60]⟩, ⟨#[62]⟩, ⟨#[60, 61]⟩, ⟨#[62, 61]⟩, ⟨#[61, 61]⟩, ⟨#[33, 61]⟩, ⟨#[61, 61, 61]⟩, ⟨#[33, 61, 61]⟩]) cr0) ∧ TRow w' Ar0 ([⟨#[43]⟩, ⟨#[45]⟩, ⟨#[42]⟩, ⟨#[47]⟩, ⟨#[37]⟩, ⟨#[38]⟩, ⟨#[124]⟩, ⟨#[94]⟩, ⟨#[60, 60]⟩, ⟨#[62, 62]⟩, ⟨#[62, 62, 62]⟩, ⟨#[60]⟩, ⟨#[62]⟩, ⟨#[60, 61]⟩, ⟨#[62, 61]⟩, ⟨#[61, 61]⟩, ⟨#[33, 61]⟩, ⟨#[61, 61, 61]⟩, ⟨#[33, 61, 61]⟩]) cr0 ∧ New w w'
theorem rops_c  (w : World) : Calls Tryz.prog 33 #[] w (rops_c_P  w) := by
 refine enter_abs Tryz.func33 rfl fun a0 ac ak hp => ?_
 have ac : a0.tmps.size = 2 := ac
 have al : New w w := Upd.refl _ _
 refine wp_seq_k fun K1 am => ?_
 refine wp_g0 [true] [] 2
   [ve (sv none ([]) 0)] ac (.eq (.nil)) ?_ ?_
 exact .t (fun _ w hn k => ⟨_, v_assign rfl rfl, rfl⟩) .nil
 refine aftI ac ak al fun a2 w3 af an ao aw ax => ?_
 refine st_nil (am _ _ (wp_seq_k fun K9 ap => ?_))
 refine wp_g0 [true, true] [] 2
   [(fun (v_ : Value) (W : World) => ∃ (A3 : Option Addr) (c4 : Nat), v_ = svT A3 ([⟨#[43]⟩, ⟨#[45]⟩, ⟨#[42]⟩, ⟨#[47]⟩, ⟨#[37]⟩, ⟨#[38]⟩, ⟨#[124]⟩, ⟨#[94]⟩, ⟨#[60, 60]⟩, ⟨#[62, 62]⟩, ⟨#[62, 62, 62]⟩, ⟨#[60]⟩, ⟨#[62]⟩, ⟨#[60, 61]⟩, ⟨#[62, 61]⟩, ⟨#[61, 61]⟩, ⟨#[33, 61]⟩, ⟨#[61, 61, 61]⟩, ⟨#[33, 61, 61]⟩]) c4 ∧ TRow W A3 ([⟨#[43]⟩, ⟨#[45]⟩, ⟨#[42]⟩, ⟨#[47]⟩, ⟨#[37]⟩, ⟨#[38]⟩, ⟨#[124]⟩, ⟨#[94]⟩, ⟨#[60, 60]⟩, ⟨#[62, 62]⟩, ⟨#[62, 62, 62]⟩, ⟨#[60]⟩, ⟨#[62]⟩, ⟨#[60, 61]⟩, ⟨#[62, 61]⟩, ⟨#[61, 61]⟩, ⟨#[33, 61]⟩, ⟨#[61, 61, 61]⟩, ⟨#[33, 61, 61]⟩]) c4), (fun (v_ : Value) (W : World) => ∃ (A9 : Option Addr) (aa : Nat), v_ = svT A9 ([⟨#[43]⟩, ⟨#[45]⟩, ⟨#[42]⟩, ⟨#[47]⟩, ⟨#[37]⟩, ⟨#[38]⟩, ⟨#[124]⟩, ⟨#[94]⟩, ⟨#[60, 60]⟩, ⟨#[62, 62]⟩, ⟨#[62, 62, 62]⟩, ⟨#[60]⟩, ⟨#[62]⟩, ⟨#[60, 61]⟩, ⟨#[62, 61]⟩, ⟨#[61, 61]⟩, ⟨#[33, 61]⟩, ⟨#[61, 61, 61]⟩, ⟨#[33, 61, 61]⟩]) aa ∧ TRow W A9 ([⟨#[43]⟩, ⟨#[45]⟩, ⟨#[42]⟩, ⟨#[47]⟩, ⟨#[37]⟩, ⟨#[38]⟩, ⟨#[124]⟩, ⟨#[94]⟩, ⟨#[60, 60]⟩, ⟨#[62, 62]⟩, ⟨#[62, 62, 62]⟩, ⟨#[60]⟩, ⟨#[62]⟩, ⟨#[60, 61]⟩, ⟨#[62, 61]⟩, ⟨#[61, 61]⟩, ⟨#[33, 61]⟩, ⟨#[61, 61, 61]⟩, ⟨#[33, 61, 61]⟩]) aa)] af (.cons (fun _ _ _ n ⟨_, _, e, h⟩ => ⟨_, _, e, h.new_ n⟩) (.cons (fun v W W' hn ⟨A9, aa, he, h0⟩ => ⟨A9, aa, he, h0.new_ hn⟩) (.nil))) ?_ ?_
 refine .o1 (tkA rfl (noG rfl) fun _ w hn k => (by
       exact x_bsliceT (ps := [(0, .string ⟨#[43]⟩), (1, .string ⟨#[45]⟩), (2, .string ⟨#[42]⟩), (3, .string ⟨#[47]⟩), (4, .string ⟨#[37]⟩), (5, .string ⟨#[38]⟩), (6, .string ⟨#[124]⟩), (7, .string ⟨#[94]⟩), (8, .string ⟨#[60, 60]⟩), (9, .string ⟨#[62, 62]⟩), (10, .string ⟨#[62, 62, 62]⟩), (11, .string ⟨#[60]⟩), (12, .string ⟨#[62]⟩), (13, .string ⟨#[60, 61]⟩), (14, .string ⟨#[62, 61]⟩), (15, .string ⟨#[61, 61]⟩), (16, .string ⟨#[33, 61]⟩), (17, .string ⟨#[61, 61, 61]⟩), (18, .string ⟨#[33, 61, 61]⟩)]) [⟨#[43]⟩, ⟨#[45]⟩, ⟨#[42]⟩, ⟨#[47]⟩, ⟨#[37]⟩, ⟨#[38]⟩, ⟨#[124]⟩, ⟨#[94]⟩, ⟨#[60, 60]⟩, ⟨#[62, 62]⟩, ⟨#[62, 62, 62]⟩, ⟨#[60]⟩, ⟨#[62]⟩, ⟨#[60, 61]⟩, ⟨#[62, 61]⟩, ⟨#[61, 61]⟩, ⟨#[33, 61]⟩, ⟨#[61, 61, 61]⟩, ⟨#[33, 61, 61]⟩] rfl (by simp [Act.eval]) elT rfl (by omega) (by omega) (by kernel_rfl) fun A1 c2 W' hmo => ⟨A1, c2, rfl, hmo⟩)) ?_
 refine .o1 (tk rfl rfl fun _ w hn k => (by
       obtain ⟨A5, c6, e7, aq⟩ : (fun (v_ : Value) (W : World) => ∃ (A3 : Option Addr) (c4 : Nat), v_ = svT A3 ([⟨#[43]⟩, ⟨#[45]⟩, ⟨#[42]⟩, ⟨#[47]⟩, ⟨#[37]⟩, ⟨#[38]⟩, ⟨#[124]⟩, ⟨#[94]⟩, ⟨#[60, 60]⟩, ⟨#[62, 62]⟩, ⟨#[62, 62, 62]⟩, ⟨#[60]⟩, ⟨#[62]⟩, ⟨#[60, 61]⟩, ⟨#[62, 61]⟩, ⟨#[61, 61]⟩, ⟨#[33, 61]⟩, ⟨#[61, 61, 61]⟩, ⟨#[33, 61, 61]⟩]) c4 ∧ TRow W A3 ([⟨#[43]⟩, ⟨#[45]⟩, ⟨#[42]⟩, ⟨#[47]⟩, ⟨#[37]⟩, ⟨#[38]⟩, ⟨#[124]⟩, ⟨#[94]⟩, ⟨#[60, 60]⟩, ⟨#[62, 62]⟩, ⟨#[62, 62, 62]⟩, ⟨#[60]⟩, ⟨#[62]⟩, ⟨#[60, 61]⟩, ⟨#[62, 61]⟩, ⟨#[61, 61]⟩, ⟨#[33, 61]⟩, ⟨#[61, 61, 61]⟩, ⟨#[33, 61, 61]⟩]) c4) _ _ := k.dep 0 1 (by kernel_rfl) (by kernel_rfl)
       exact ⟨_, v_assign rfl e7, ⟨A5, c6, rfl, aq⟩⟩)) ?_
 exact .nil
 refine aftI af an ao fun ar ay au ag ah av ai => ?_
 obtain ⟨ad, ab, ae, aj⟩ : (fun (v_ : Value) (W : World) => ∃ (A9 : Option Addr) (aa : Nat), v_ = svT A9 ([⟨#[43]⟩, ⟨#[45]⟩, ⟨#[42]⟩, ⟨#[47]⟩, ⟨#[37]⟩, ⟨#[38]⟩, ⟨#[124]⟩, ⟨#[94]⟩, ⟨#[60, 60]⟩, ⟨#[62, 62]⟩, ⟨#[62, 62, 62]⟩, ⟨#[60]⟩, ⟨#[62]⟩, ⟨#[60, 61]⟩, ⟨#[62, 61]⟩, ⟨#[61, 61]⟩, ⟨#[33, 61]⟩, ⟨#[61, 61, 61]⟩, ⟨#[33, 61, 61]⟩]) aa ∧ TRow W A9 ([⟨#[43]⟩, ⟨#[45]⟩, ⟨#[42]⟩, ⟨#[47]⟩, ⟨#[37]⟩, ⟨#[38]⟩, ⟨#[124]⟩, ⟨#[94]⟩, ⟨#[60, 60]⟩, ⟨#[62, 62]⟩, ⟨#[62, 62, 62]⟩, ⟨#[60]⟩, ⟨#[62]⟩, ⟨#[60, 61]⟩, ⟨#[62, 61]⟩, ⟨#[61, 61]⟩, ⟨#[33, 61]⟩, ⟨#[61, 61, 61]⟩, ⟨#[33, 61, 61]⟩]) aa) _ _ := ai.got 1 0 rfl (by kernel_rfl)
 have ae : ar.eval (.tmp 0) = svT ad ([⟨#[43]⟩, ⟨#[45]⟩, ⟨#[42]⟩, ⟨#[47]⟩, ⟨#[37]⟩, ⟨#[38]⟩, ⟨#[124]⟩, ⟨#[94]⟩, ⟨#[60, 60]⟩, ⟨#[62, 62]⟩, ⟨#[62, 62, 62]⟩, ⟨#[60]⟩, ⟨#[62]⟩, ⟨#[60, 61]⟩, ⟨#[62, 61]⟩, ⟨#[61, 61]⟩, ⟨#[33, 61]⟩, ⟨#[61, 61, 61]⟩, ⟨#[33, 61, 61]⟩]) ab := ae
 refine st_nil (ap _ _ ?_)
 refine wp_ret (ret_k ag (v := svT ad ([⟨#[43]⟩, ⟨#[45]⟩, ⟨#[42]⟩, ⟨#[47]⟩, ⟨#[37]⟩, ⟨#[38]⟩, ⟨#[124]⟩, ⟨#[94]⟩, ⟨#[60, 60]⟩, ⟨#[62, 62]⟩, ⟨#[62, 62, 62]⟩, ⟨#[60]⟩, ⟨#[62]⟩, ⟨#[60, 61]⟩, ⟨#[62, 61]⟩, ⟨#[61, 61]⟩, ⟨#[33, 61]⟩, ⟨#[61, 61, 61]⟩, ⟨#[33, 61, 61]⟩]) ab) (res_t rfl ae _) ?_)
 exact ⟨ad, ab, rfl, aj, ah⟩
theorem texts_c (Aa : Option Addr) (a : List ByteArray) (ca : Nat) (Ab : Option Addr) (b : List ByteArray) (cb : Nat) (w : World) (hra : TRow w Aa a ca) (hrb : TRow w Ab b cb) (hab : a = b) : Calls Tryz.prog 31 #[svT Aa a ca, svT Ab b cb] w (IsRet (.bool true) w) := by
 refine enter_abs Tryz.func31 rfl fun a0 ak bg hp => ?_
 have ak : a0.tmps.size = 26 := ak
 have bh : New w w := Upd.refl _ _
 have hp0 : a0.eval (.tmp 0) = svT Aa a ca := hp 0 _ rfl
 have hp1 : a0.eval (.tmp 1) = svT Ab b cb := hp 1 _ rfl
 have hmx := hra.max
 have hmy := hrb.max
 have hlab : a.length = b.length := by rw [hab]
 refine wp_seq_k fun K1 bi => ?_
 refine wp_g0 [true] [] 26
   [vF] ak (.eq (.nil)) ?_ ?_
 exact .t (fun _ w hn k => ⟨_, v_assign rfl rfl, rfl⟩) .nil
 refine aftI ak bg bh fun a2 w3 az bj aJ bP aA => ?_
 have h8 := aA.fx 0 hp0
 have h9 := aA.fx 1 hp1
 refine st_nil (bi _ _ (wp_seq_k fun bQ aK => ?_))
 refine wp_seq_k fun bR aL => ?_
 refine wp_g0 [true, true, true, true, true] [] 26
   [ve (svT Aa a ca), ve (iv (a.length : Int)), ve (svT Ab b cb), ve (iv (b.length : Int)), ve (.bool (!decide ((a.length : Int) = (b.length : Int))))] az (.eq (.eq (.eq (.eq (.eq (.nil)))))) ?_ ?_
 exact .m (fun k => k.fx 0 h8) <| .t (fun _ w hn k => ⟨_, v_lenT rfl elT (k.eq1 0 6 rfl), rfl⟩) <| .m (fun k => k.fx 1 h9) <| .t (fun _ w hn k => ⟨_, v_lenT rfl elT (k.eq1 2 8 rfl), rfl⟩) <| .t (fun _ w hn k => ⟨_, v_bin rfl (k.eq1 1 7 rfl) (k.eq1 3 9 rfl) (fun _ => rfl) (r_neq rfl), rfl⟩) .nil
 refine aftI az bj aJ fun bS bT al aM aN bJ ai => ?_
 have bk := ai.fx 0 h8
 have bl := ai.fx 1 h9
 have bm := ai.ge 4 10 rfl
 refine st_nil (aL _ _ ?_)
 have am : ((!decide ((a.length : Int) = (b.length : Int)))) = false := (nf (decide_eq_true (by omega)))
 have aO := hB bm am
 have aP : (decide ((a.length : Int) = (b.length : Int))) = true := nT am
 have bG := oT aP
 refine wp_cond_false aO ?_
 refine wp_skip ?_
 refine aK _ _ ?_
 refine wp_seq_k fun bU aQ => ?_
 refine wp_seq_k fun bV aR => ?_
 refine wp_g0 [true] [] 26
   [ve (iv 0)] al (.eq (.nil)) ?_ ?_
 exact .t (fun _ w hn k => ⟨_, v_assign rfl rfl, rfl⟩) .nil
 refine aftI al aM aN fun bW bX aS aT aU bK aj => ?_
 have bn := aj.fx 0 bk
 have bo := aj.fx 1 bl
 have bp := aj.ge 0 5 rfl
 refine st_nil (aR _ _ ?_)
 refine wp_block ?_
 refine wp_loopX (fun (mm : Nat) (aa : Act) (ww : World) => ∃ (i : Nat), mm = a.length - i ∧ aa.tmps.size = 26 ∧ aa.defers = [] ∧ New w ww ∧ aa.eval (.tmp 5) = iv (i : Int) ∧ aa.eval (.tmp 0) = svT Aa a ca ∧ aa.eval (.tmp 1) = svT Ab b cb ∧ (i ≤ a.length)) (fun mm => mm) ⟨_, ⟨0, rfl, aS, aT, aU, bp, bn, bo, (Nat.zero_le _)⟩⟩ ?_
 rintro mm bY bZ ⟨i, hmm, an, aV, aW, aB, aC, bq, hi⟩
 refine wp_seq_k fun b0 aX => ?_
 refine wp_seq_k fun b2 aY => ?_
 refine wp_g0 [true, true, true, true] [] 26
   [ve (iv (i : Int)), ve (svT Aa a ca), ve (iv (a.length : Int)), ve (.bool (decide ((i : Int) < (a.length : Int))))] an (.eq (.eq (.eq (.eq (.nil))))) ?_ ?_
 exact .m (fun k => k.fx 5 aB) <| .m (fun k => k.fx 0 aC) <| .t (fun _ w hn k => ⟨_, v_lenT rfl elT (k.eq1 1 12 rfl), rfl⟩) <| .t (fun _ w hn k => ⟨_, v_bin rfl (k.eq1 0 11 rfl) (k.eq1 2 13 rfl) (fun _ => rfl) (r_lssK rfl), rfl⟩) .nil
 refine aftI an aV aW fun b4 b6 ad ao ae bL af => ?_
 have ap := af.fx 5 aB
 have aD := af.fx 0 aC
 have aE := af.fx 1 bq
 have aF := af.ge 3 14 rfl
 refine st_nil (aY _ _ ?_)
 rcases bc (decide ((i : Int) < (a.length : Int))) with ac | ac
 have av := oT ac
 have aZ := hB aF ac
 refine wp_cond_true aZ ?_
 refine wp_skip ?_
 refine aX _ _ ?_
 refine wp_seq_k fun b7 a1 => ?_
 refine wp_block ?_
 refine wp_seq_k fun b8 a3 => ?_
 refine wp_g0 (.replicate 9 true) [] 26
   [ve (svT Aa a ca), ve (iv (i : Int)),
    (EP (.string (a.getD i ⟨#[]⟩))), ve (.string (a.getD i ⟨#[]⟩)), ve (svT Ab b cb), ve (iv (i : Int)),
    (EP (.string (b.getD i ⟨#[]⟩))), ve (.string (b.getD i ⟨#[]⟩)), ve (.bool (!strEq (a.getD i ⟨#[]⟩) (b.getD i ⟨#[]⟩)))] ad (.eq (.eq (.cons (fun _ _ _ n ⟨_, _, e, h⟩ => ⟨_, _, e, h.new_ n⟩) (.eq (.eq (.eq (.cons (fun _ _ _ n ⟨_, _, e, h⟩ => ⟨_, _, e, h.new_ n⟩) (.eq (.eq (.nil)))))))))) ?_ ?_
 refine .m (fun k => k.fx 0 aD) <| .m (fun k => k.fx 5 ap) ?_
 refine .o1 (tk rfl rfl fun _ w hn k => (by
       exact x_eaddrT rfl elT (k.eq1 0 17 rfl) (k.eq1 1 18 rfl) (hra.new_ (ae.transNew hn)) (by omega) fun b1 o2 hme => ⟨b1, o2, rfl, hme⟩)) ?_
 refine .o1 (tk rfl rfl fun _ w hn k => (by
       obtain ⟨b5, o6, e7, bt⟩ : (EP (.string (a.getD i ⟨#[]⟩))) _ _ := k.dep 2 19 (by kernel_rfl) (by kernel_rfl)
       exact ⟨_, v_load rfl e7 (l_one Tryz.isAgg9 bt.1), rfl⟩)) ?_
 refine .m (fun k => k.fx 1 aE) <| .m (fun k => k.fx 5 ap) ?_
 refine .o1 (tk rfl rfl fun _ w hn k => (by
       exact x_eaddrT rfl elT (k.eq1 4 21 rfl) (k.eq1 5 22 rfl) (hrb.new_ (ae.transNew hn)) (by omega) fun b9 bu hme => ⟨b9, bu, rfl, hme⟩)) ?_
 refine .o1 (tk rfl rfl fun _ w hn k => (by
       obtain ⟨cc, cd, bv, a4⟩ : (EP (.string (b.getD i ⟨#[]⟩))) _ _ := k.dep 6 23 (by kernel_rfl) (by kernel_rfl)
       exact ⟨_, v_load rfl bv (l_one Tryz.isAgg9 a4.1), rfl⟩)) ?_
 exact .t (fun _ w hn k => ⟨_, v_bin rfl (k.eq1 3 20 rfl) (k.eq1 7 24 rfl) (fun _ => rfl) (r_neqS rfl), rfl⟩) .nil
 refine aftI ad ao ae fun ce cf aq a5 a6 bM ag => ?_
 have aG := ag.fx 5 ap
 have bw := ag.fx 0 aD
 have bx := ag.fx 1 aE
 have bz := ag.ge 8 25 rfl
 refine st_nil (a3 _ _ ?_)
 have ar : ((!strEq (a.getD i ⟨#[]⟩) (b.getD i ⟨#[]⟩))) = false := (nf (by rw [hab]; exact str_self _))
 have a7 := hB bz ar
 have bN : (strEq (a.getD i ⟨#[]⟩) (b.getD i ⟨#[]⟩)) = true := nT ar
 refine wp_cond_false a7 ?_
 refine wp_skip ?_
 refine a1 _ _ ?_
 refine wp_g0 [true, true, false] [(2, true)] 26
   [ve (iv (i : Int)), ve (iv ((i + 1 : Nat) : Int)), vt] aq (.eq (.eq (.tt (.nil)))) ?_ ?_
 exact .m (fun k => k.fx 5 aG) <| .t (fun _ w hn k => ⟨_, v_bin rfl (k.eq1 0 15 rfl) rfl (fun _ => rfl) (n_add (by omega) (IntWalk.i64_in _ (by omega))), rfl⟩) <| .off .nil
 refine aftI aq a5 a6 fun aH ch au a8 a9 bO ah => ?_
 have ci := ah.fx 5 aG
 have bA := ah.fx 0 bw
 have bB := ah.fx 1 bx
 have aI := ah.ge 1 16 rfl
 refine st_take rfl rfl (y_assign (v := iv ((i + 1 : Nat) : Int)) rfl aI) rfl ?_
 obtain ⟨bC, ab⟩ : ∃ a', a' = aH.put (some 5) (iv ((i + 1 : Nat) : Int)) := ⟨_, rfl⟩
 have ba := pz ab au
 have bb := pd ab a8
 have bD := pn ab bA (by decide)
 have bE := pn ab bB (by decide)
 have cj := pn ab aI (by decide)
 have bF : bC.eval (.tmp 5) = iv ((i + 1 : Nat) : Int) := by rw [ab]; exact put_same _ _ _ (by rw [au]; decide)
 show stepsTo _ _ _ _ _ (aH.put (some 5) (iv ((i + 1 : Nat) : Int))) _
 rw [← ab]
 refine st_nil ?_
 refine then_n ?_
 exact ⟨_, ⟨i + 1, rfl, ba, bb, a9, (bF.trans (congrArg (Value.int .i64) (by omega))), bD, bE, (by omega)⟩, (by omega)⟩
 have av := oF ac
 have bd := hB aF ac
 refine wp_cond_false bd ?_
 refine wp_exit ?_
 refine aQ _ _ ?_
 refine wp_seq_k fun cl be => ?_
 refine wp_g0 [true] [] 26
   [vT] ad (.eq (.nil)) ?_ ?_
 exact .t (fun _ w hn k => ⟨_, v_assign rfl rfl, rfl⟩) .nil
 refine aftI ad ao ae fun cm cn bH aw ax bI ay => ?_
 have bf := ay.ge 0 4 rfl
 refine st_nil (be _ _ ?_)
 refine wp_ret (ret_k aw (v := .bool true) (res_t rfl bf _) ?_)
 exact ⟨rfl, ax⟩
def obig_c_P (Am : Option Addr) (m : List Nat) (cm : Nat) (w : World) (en : Ending) (w' : World) : Prop := ∃ (Ar0 : Option Addr) (cr0 : Nat), en = .returned (vv (Vl.mk 4 0 0 false m [] 0) Ar0 cr0 none 0) ∧ SRow w' .u32 Ar0 m cr0 ∧ New w w'
theorem obig_c (Am : Option Addr) (m : List Nat) (cm : Nat) (w : World) (hrm : SRow w .u32 Am m cm) : Calls Tryz.prog 30 #[sv Am m cm] w (obig_c_P Am m cm w) := by
 refine enter_abs Tryz.func30 rfl fun a0 aa aw hp => ?_
 have aa : a0.tmps.size = 6 := aa
 have af : New w w := Upd.refl _ _
 have hp0 : a0.eval (.tmp 0) = sv Am m cm := hp 0 _ rfl
 refine wp_seq_k fun K1 ax => ?_
 refine wp_g [true] [] [] 6
   [IsNew w 29 [iv 0, iv 0, iv 0, .bool false, sv none ([]) 0, sv none ([]) 0, iv 0]]
   [0] (newsCons (fun v w h => IsNew.old h) newsNil) aa (.nw (.nil)) ?_ (fun i h => by cases h) ?_
 exact .o2 (step_allocN (cs := [iv 0, iv 0, iv 0, .bool false, sv none ([]) 0, sv none ([]) 0, iv 0]) (t := 29) rfl (noG rfl) (fun _ w hn k => rfl) (fun q _ hq hb => ⟨q, rfl, hq, hb⟩)) .nil
 refine aftI aa aw af fun a2 w3 ag ay aj aF ah => ?_
 have h8 := ah.fx 0 hp0
 obtain ⟨az, h9, ak, al⟩ : IsNew _ _ _ _ _ := ah.got 0 2 rfl (by kernel_rfl)
 have aC := Nat.le_trans af.size ak
 refine st_nil (ax _ _ (wp_seq_k fun aG am => ?_))
 refine wp_g0 [true, true, true, false] [(3, false)] 6
   [ve (sv Am m cm), ve (.agg #[.bool false, sv Am m cm]), ve (vv (Vl.mk 4 0 0 false m [] 0) Am cm none 0), vt] ag (.eq (.eq (.eq (.tt (.nil))))) ?_ ?_
 exact .m (fun k => k.fx 0 h8) <| .t (fun _ w hn k => ⟨_, v_build (ps := [(1, sv Am m cm)]) rfl (parts1 (k.eq1 0 3 rfl)) (by kernel_rfl), rfl⟩) <| .t (fun _ w hn k => ⟨_, v_build (ps := [(0, iv 4), (2, .agg #[.bool false, sv Am m cm])]) rfl (parts2 rfl (k.eq1 1 4 rfl)) (by kernel_rfl), rfl⟩) <| .off .nil
 refine aftI ag ay aj fun aH aI aD an ao ap ab => ?_
 have ai := ab.fx 2 h9
 have aA := ab.ge 2 5 rfl
 have aq := al.new_ ap
 obtain ⟨aB, ad, ae, ar, aE⟩ := s_many (P := Tryz.prog) (t := 29) (i := 0) [iv 4, iv 0, iv 0, .bool false, sv Am m cm, sv none ([]) 0, iv 0] Tryz.sizeOf29 rfl rfl rfl aq lb
 have au : Blk aB az 29 [iv 4, iv 0, iv 0, .bool false, sv Am m cm, sv none ([]) 0, iv 0] := ae
 refine st_act rfl rfl fun aJ av => a_store' rfl ai aA ad (av _ _ trivial ?_)
 have ac := ao.trans ar (fun _ h b => by subst b; omega)
 refine st_nil (am _ _ ?_)
 refine wp_ret (ret_k an (v := vv (Vl.mk 4 0 0 false m [] 0) Am cm none 0) (res_c rfl ai (l_agg Tryz.isAgg29 Tryz.sizeOf29 au rfl)) ?_)
 exact ⟨Am, cm, rfl, (hrm.new_ ac), ac⟩
def ostr_c_P (s : ByteArray) (w : World) (en : Ending) (w' : World) : Prop := ∃ (Ar0 : Option Addr) (cr0 : Nat), en = .returned (vv (Vl.mk 5 0 0 false [] (asc s) 0) none 0 Ar0 cr0) ∧ SRow w' .u16 Ar0 (asc s) cr0 ∧ New w w'
theorem ostr_c (s : ByteArray) (w : World) (hs : s.size ≤ 1000000) : Calls Tryz.prog 18 #[.string s] w (ostr_c_P s w) := by
 refine enter_abs Tryz.func18 rfl fun a0 ad aD hp => ?_
 have ad : a0.tmps.size = 6 := ad
 have al : New w w := Upd.refl _ _
 have hp0 : a0.eval (.tmp 0) = .string s := hp 0 _ rfl
 refine wp_seq_k fun K1 aE => ?_
 refine wp_g [true] [] [] 6
   [IsNew w 29 [iv 0, iv 0, iv 0, .bool false, sv none ([]) 0, sv none ([]) 0, iv 0]]
   [0] (newsCons (fun v w h => IsNew.old h) newsNil) ad (.nw (.nil)) ?_ (fun i h => by cases h) ?_
 exact .o2 (step_allocN (cs := [iv 0, iv 0, iv 0, .bool false, sv none ([]) 0, sv none ([]) 0, iv 0]) (t := 29) rfl (noG rfl) (fun _ w hn k => rfl) (fun q _ hq hb => ⟨q, rfl, hq, hb⟩)) .nil
 refine aftI ad aD al fun a2 w3 am aF ae aN an => ?_
 have h8 := an.fx 0 hp0
 obtain ⟨aG, h9, ap, aq⟩ : IsNew _ _ _ _ _ := an.got 0 2 rfl (by kernel_rfl)
 have aK := Nat.le_trans al.size ap
 refine st_nil (aE _ _ (wp_seq_k fun aO ar => ?_))
 refine wp_g0 [true, true, true, false] [(3, false)] 6
   [ve (.string s),
    (OP w3.heap.size 74 .u16 (asc s)), (fun (v_ : Value) (W : World) => ∃ (A9 : Option Addr) (aa : Nat), v_ = vv (Vl.mk 5 0 0 false [] (asc s) 0) none 0 A9 aa ∧ SOwn W w3.heap.size 74 .u16 A9 (asc s) aa), vt] am (.eq (.cons (fun _ _ _ n ⟨_, _, e, h⟩ => ⟨_, _, e, h.new_ n⟩) (.cons (fun v W W' hn ⟨A9, aa, he, h0⟩ => ⟨A9, aa, he, h0.new_ hn⟩) (.tt (.nil))))) ?_ ?_
 refine .m (fun k => k.fx 0 h8) ?_
 refine .o1 (tkC rfl (noG rfl) rfl fun _ w hn k => (by
       refine ⟨#[.string s], _, args1 (k.eq1 0 3 rfl), fun w => by kernel_rfl, rascii_c s _ (by first | omega | (show (_ : Nat) ≤ _; decide)), ?_⟩
       rintro e w' ⟨A1, c2, rfl, hmo0, hm⟩
       exact ⟨_, rfl, hm, ⟨A1, c2, rfl, (hmo0.more hn.size)⟩⟩)) ?_
 refine .o1 (tk rfl rfl fun _ w hn k => (by
       obtain ⟨A5, c6, e7, aH⟩ : (OP w3.heap.size 74 .u16 (asc s)) _ _ := k.dep 1 4 (by kernel_rfl) (by kernel_rfl)
       exact ⟨_, v_build (ps := [(0, iv 5), (3, sv A5 (asc s) c6)]) rfl (parts2 rfl e7) (by kernel_rfl), ⟨A5, c6, rfl, aH⟩⟩)) ?_
 exact .off .nil
 refine aftI am aF ae fun aI aP aL au av aw af => ?_
 have ao := af.fx 2 h9
 obtain ⟨ac, ab, ag, ax⟩ : (fun (v_ : Value) (W : World) => ∃ (A9 : Option Addr) (aa : Nat), v_ = vv (Vl.mk 5 0 0 false [] (asc s) 0) none 0 A9 aa ∧ SOwn W w3.heap.size 74 .u16 A9 (asc s) aa) _ _ := af.got 2 5 rfl (by kernel_rfl)
 have ag : aI.eval (.tmp 5) = vv (Vl.mk 5 0 0 false [] (asc s) 0) none 0 ac ab := ag
 have ah := aq.new_ aw
 have ay := ax.more ae.size
 obtain ⟨aJ, aj, ak, ai, aM⟩ := s_many (P := Tryz.prog) (t := 29) (i := 0) [iv 5, iv 0, iv 0, .bool false, sv none ([]) 0, sv ac (asc s) ab, iv 0] Tryz.sizeOf29 rfl rfl rfl ah lb
 have az : Blk aJ aG 29 [iv 5, iv 0, iv 0, .bool false, sv none ([]) 0, sv ac (asc s) ab, iv 0] := ak
 refine st_act rfl rfl fun aQ aA => a_store' rfl ao ag aj (aA _ _ trivial ?_)
 have aB := ay.far ah ai (by decide)
 have aC := av.trans ai (fun _ h b => by subst b; omega)
 refine st_nil (ar _ _ ?_)
 refine wp_ret (ret_k au (v := vv (Vl.mk 5 0 0 false [] (asc s) 0) none 0 ac ab) (res_c rfl ao (l_agg Tryz.isAgg29 Tryz.sizeOf29 az rfl)) ?_)
 exact ⟨ac, ab, rfl, aB.row, aC⟩
theorem owhole_c (n : Int) (w : World) : Calls Tryz.prog 17 #[iv n] w (IsRet (vv (Vl.mk 3 0 n false [] [] 0) none 0 none 0) w) := by
 refine enter_abs Tryz.func17 rfl fun a0 aa aw hp => ?_
 have aa : a0.tmps.size = 6 := aa
 have ae : New w w := Upd.refl _ _
 have hp0 : a0.eval (.tmp 0) = iv n := hp 0 _ rfl
 refine wp_seq_k fun K1 ax => ?_
 refine wp_g [true] [] [] 6
   [IsNew w 29 [iv 0, iv 0, iv 0, .bool false, sv none ([]) 0, sv none ([]) 0, iv 0]]
   [0] (newsCons (fun v w h => IsNew.old h) newsNil) aa (.nw (.nil)) ?_ (fun i h => by cases h) ?_
 exact .o2 (step_allocN (cs := [iv 0, iv 0, iv 0, .bool false, sv none ([]) 0, sv none ([]) 0, iv 0]) (t := 29) rfl (noG rfl) (fun _ w hn k => rfl) (fun q _ hq hb => ⟨q, rfl, hq, hb⟩)) .nil
 refine aftI aa aw ae fun a2 w3 af ay ai aF ag => ?_
 have h8 := ag.fx 0 hp0
 obtain ⟨az, h9, aj, ak⟩ : IsNew _ _ _ _ _ := ag.got 0 2 rfl (by kernel_rfl)
 have aC := Nat.le_trans ae.size aj
 refine st_nil (ax _ _ (wp_seq_k fun aG al => ?_))
 refine wp_g0 [true, true, true, false] [(3, false)] 6
   [ve (iv n), ve (nv (Nm.mk 0 n)), ve (vv (Vl.mk 3 0 n false [] [] 0) none 0 none 0), vt] af (.eq (.eq (.eq (.tt (.nil))))) ?_ ?_
 exact .m (fun k => k.fx 0 h8) <| .t (fun _ w hn k => ⟨_, v_build (ps := [(1, iv n)]) rfl (parts1 (k.eq1 0 3 rfl)) (by kernel_rfl), rfl⟩) <| .t (fun _ w hn k => ⟨_, v_build (ps := [(0, iv 3), (1, nv (Nm.mk 0 n))]) rfl (parts2 rfl (k.eq1 1 4 rfl)) (by kernel_rfl), rfl⟩) <| .off .nil
 refine aftI af ay ai fun aH aI aD am an ao ab => ?_
 have ah := ab.fx 2 h9
 have aA := ab.ge 2 5 rfl
 have ap := ak.new_ ao
 obtain ⟨aB, ac, ad, aq, aE⟩ := s_many (P := Tryz.prog) (t := 29) (i := 0) [iv 3, iv 0, iv n, .bool false, sv none ([]) 0, sv none ([]) 0, iv 0] Tryz.sizeOf29 rfl rfl rfl ap lb
 have ar : Blk aB az 29 [iv 3, iv 0, iv n, .bool false, sv none ([]) 0, sv none ([]) 0, iv 0] := ad
 refine st_act rfl rfl fun aJ au => a_store' rfl ah aA ac (au _ _ trivial ?_)
 have av := an.trans aq (fun _ h b => by subst b; omega)
 refine st_nil (al _ _ ?_)
 refine wp_ret (ret_k am (v := vv (Vl.mk 3 0 n false [] [] 0) none 0 none 0) (res_c rfl ah (l_agg Tryz.isAgg29 Tryz.sizeOf29 ar rfl)) ?_)
 exact ⟨rfl, av⟩
theorem VOk.str (s : ByteArray) (h : s.size ≤ 20000) : VOk ⟨5, 0, 0, false, [], asc s, 0⟩ := ⟨Limbs.nil, U16s.asc s, Nat.zero_le _, by rw [asc_len]; exact h, (show (-9223372036854775808 : Int) ≤ 0 by decide), (show (0 : Int) ≤ 9223372036854775807 by decide), (show (-9223372036854775808 : Int) ≤ 0 by decide), (show (0 : Int) ≤ 9223372036854775807 by decide)⟩
theorem VOk.whole {n : Int} (h1 : -9223372036854775808 ≤ n) (h2 : n ≤ 9223372036854775807) : VOk ⟨3, 0, n, false, [], [], 0⟩ := ⟨Limbs.nil, U16s.nil, Nat.zero_le _, Nat.zero_le _, h1, h2, (show (-9223372036854775808 : Int) ≤ 0 by decide), (show (0 : Int) ≤ 9223372036854775807 by decide)⟩
theorem VOk.big {x : Nat} (h : x < 4294967296) : VOk ⟨4, 0, 0, false, [x], [], 0⟩ := ⟨Limbs.cons h Limbs.nil, U16s.nil, (show (1 : Nat) ≤ 40 by decide), Nat.zero_le _, (show (-9223372036854775808 : Int) ≤ 0 by decide), (show (0 : Int) ≤ 9223372036854775807 by decide), (show (-9223372036854775808 : Int) ≤ 0 by decide), (show (0 : Int) ≤ 9223372036854775807 by decide)⟩
theorem sameV_self (v : Vl) : sameV v v = true := by simp [sameV]
theorem VOk.big0 : VOk ⟨4, 0, 0, false, [], [], 0⟩ := ⟨Limbs.nil, U16s.nil, by decide, by decide, by decide, by decide, by decide, by decide⟩
theorem VOk.str4 {u : List Nat} (h : U16s u) (_ : u.length ≤ 20000) : VOk (strV u) := ⟨Limbs.nil, h.take _, Nat.zero_le _, by show (u.take 4096).length ≤ 20000; rw [List.length_take]; omega, (by decide : (-9223372036854775808 : Int) ≤ 0), (by decide : (0 : Int) ≤ 9223372036854775807), (by decide : (-9223372036854775808 : Int) ≤ 0), (by decide : (0 : Int) ≤ 9223372036854775807)⟩
theorem join_a1 : joinV (cleanV (Vl.mk 5 0 0 false [] (asc ⟨#[97]⟩) 0)) (cleanV (Vl.mk 3 0 1 false [] [] 0)) = (strV [97, 49], 0) := by
  have h := join_num (a := [97]) (n := ⟨0, 1⟩) (by decide) (by decide)
  rw [whole_text (by decide) (by decide)] at h
  have e : asc (strOfNums (textI 1)) = [49] := by
    have h1 : textI 1 = [49] := by rw [textI, if_neg (by decide), if_neg (by decide), show (1 : Int).natAbs = 1 from rfl, digs_one (by omega) (by omega)]; rfl
    rw [h1]; rfl
  rw [e] at h
  exact h
theorem f_m (A0 : Option Addr) (c0 : Nat) (B0 : Option Addr) (d0 : Nat) (A1 : Option Addr) (c1 : Nat) (B1 : Option Addr) (d1 : Nat) (w : World) (hm0 : SRow w .u32 A0 [1] c0) (hs0 : SRow w .u16 B0 [] d0) (hm1 : SRow w .u32 A1 [] c1) (hs1 : SRow w .u16 B1 [] d1) : Calls Tryz.prog 12 #[.string ⟨#[43]⟩, vv (Vl.mk 4 0 0 false [1] [] 0) A0 c0 B0 d0, vv (Vl.mk 3 0 1 false [] [] 0) A1 c1 B1 d1] w (IsRet (.tuple #[vv (Vl.mk 0 0 0 false [] [] 0) none 0 none 0, iv 1]) w) := by
  have h := binM_c (Vl.mk 4 0 0 false [1] [] 0) A0 c0 B0 d0 (Vl.mk 3 0 1 false [] [] 0) A1 c1 B1 d1 w hm0 hs0 hm1 hs1 (VOk.big (by omega)) (VOk.whole (by omega) (by omega)) (by decide +kernel) (by decide +kernel) (by decide +kernel)
  rw [show (numericsV (cleanV (Vl.mk 4 0 0 false [1] [] 0)) (cleanV (Vl.mk 3 0 1 false [] [] 0))).2.2 = 1 from by decide +kernel] at h
  exact h
theorem f_d (A0 : Option Addr) (c0 : Nat) (B0 : Option Addr) (d0 : Nat) (A1 : Option Addr) (c1 : Nat) (B1 : Option Addr) (d1 : Nat) (w : World) (hm0 : SRow w .u32 A0 [] c0) (hs0 : SRow w .u16 B0 [] d0) (hm1 : SRow w .u32 A1 [] c1) (hs1 : SRow w .u16 B1 [] d1) : Calls Tryz.prog 12 #[.string ⟨#[47]⟩, vv (Vl.mk 3 0 1 false [] [] 0) A0 c0 B0 d0, vv (Vl.mk 3 0 2 false [] [] 0) A1 c1 B1 d1] w (IsRet (.tuple #[vv (Vl.mk 0 0 0 false [] [] 0) none 0 none 0, iv 3]) w) := by
  have h := binD_c (Vl.mk 3 0 1 false [] [] 0) A0 c0 B0 d0 (Vl.mk 3 0 2 false [] [] 0) A1 c1 B1 d1 w hm0 hs0 hm1 hs1 (VOk.whole (by omega) (by omega)) (VOk.whole (by omega) (by omega)) (by decide +kernel) (by decide +kernel) (by decide +kernel) (by decide +kernel)
  exact h
theorem f_b (A0 : Option Addr) (c0 : Nat) (B0 : Option Addr) (d0 : Nat) (A1 : Option Addr) (c1 : Nat) (B1 : Option Addr) (d1 : Nat) (w : World) (hm0 : SRow w .u32 A0 [1] c0) (hs0 : SRow w .u16 B0 [] d0) (hm1 : SRow w .u32 A1 [] c1) (hs1 : SRow w .u16 B1 [] d1) : Calls Tryz.prog 12 #[.string ⟨#[47]⟩, vv (Vl.mk 4 0 0 false [1] [] 0) A0 c0 B0 d0, vv (Vl.mk 4 0 0 false [] [] 0) A1 c1 B1 d1] w (IsRet (.tuple #[vv (Vl.mk 0 0 0 false [] [] 0) none 0 none 0, iv 2]) w) := by
  have h := binB_c (Vl.mk 4 0 0 false [1] [] 0) A0 c0 B0 d0 (Vl.mk 4 0 0 false [] [] 0) A1 c1 B1 d1 w hm0 hs0 hm1 hs1 (VOk.big (by omega)) VOk.big0 (by decide +kernel) (by decide +kernel) (by decide +kernel)
  exact h
theorem f_l (A0 : Option Addr) (c0 : Nat) (B0 : Option Addr) (d0 : Nat) (A1 : Option Addr) (c1 : Nat) (B1 : Option Addr) (d1 : Nat) (w : World) (hm0 : SRow w .u32 A0 [1] c0) (hs0 : SRow w .u16 B0 [] d0) (hm1 : SRow w .u32 A1 [] c1) (hs1 : SRow w .u16 B1 [] d1) : Calls Tryz.prog 12 #[.string ⟨#[60]⟩, vv (Vl.mk 4 0 0 false [1] [] 0) A0 c0 B0 d0, vv (Vl.mk 3 0 2 false [] [] 0) A1 c1 B1 d1] w (IsRet (.tuple #[vv (Vl.mk 2 0 0 false [] [] 1) none 0 none 0, iv 0]) w) := by
  have h := binL_c (Vl.mk 4 0 0 false [1] [] 0) A0 c0 B0 d0 (Vl.mk 3 0 2 false [] [] 0) A1 c1 B1 d1 w hm0 hs0 hm1 hs1 (VOk.big (by omega)) (VOk.whole (by omega) (by omega)) (by decide +kernel) (by decide +kernel) (by decide +kernel) (by decide +kernel) (by decide +kernel) (by decide +kernel)
  rw [show truthR ((besideO (numericV (cleanV (Vl.mk 4 0 0 false [1] [] 0))).1.neg (numericV (cleanV (Vl.mk 4 0 0 false [1] [] 0))).1.mag (Nm.mk (numericV (cleanV (Vl.mk 3 0 2 false [] [] 0))).1.nk (numericV (cleanV (Vl.mk 3 0 2 false [] [] 0))).1.nn)).2 && (decide ((besideO (numericV (cleanV (Vl.mk 4 0 0 false [1] [] 0))).1.neg (numericV (cleanV (Vl.mk 4 0 0 false [1] [] 0))).1.mag (Nm.mk (numericV (cleanV (Vl.mk 3 0 2 false [] [] 0))).1.nk (numericV (cleanV (Vl.mk 3 0 2 false [] [] 0))).1.nn)).1 < 0) != false)) = 1 from by decide +kernel] at h
  exact h
theorem f_n (A0 : Option Addr) (c0 : Nat) (B0 : Option Addr) (d0 : Nat) (w : World) (hm0 : SRow w .u32 A0 [] c0) (hs0 : SRow w .u16 B0 [] d0) : Calls Tryz.prog 13 #[.string ⟨#[45]⟩, vv (Vl.mk 3 0 0 false [] [] 0) A0 c0 B0 d0] w (IsRet (.tuple #[vv (Vl.mk 3 1 0 false [] [] 0) none 0 none 0, iv 0]) w) := by
  have h := minus_c (Vl.mk 3 0 0 false [] [] 0) A0 c0 B0 d0 w hm0 hs0 (VOk.whole (by omega) (by omega)) (by decide +kernel) (by decide +kernel)
  rw [show (negM (Nm.mk (numericV (Vl.mk 3 0 0 false [] [] 0)).1.nk (numericV (Vl.mk 3 0 0 false [] [] 0)).1.nn)) = ⟨1, 0⟩ from by decide +kernel] at h
  exact h
theorem first_c  (w : World) (HT : ItoaOk w) : Calls Tryz.prog 10 #[] w (IsRet (.bool true) w) := by
 refine enter_abs Tryz.func10 rfl fun a0 bi e9 hp => ?_
 have bi : a0.tmps.size = 99 := bi
 have fa : New w w := Upd.refl _ _
 refine wp_seq_k fun K1 fb => ?_
 refine wp_g0 [true] [] 99
   [vF] bi (.eq (.nil)) ?_ ?_
 exact .t (fun _ w hn k => ⟨_, v_assign rfl rfl, rfl⟩) .nil
 refine aftI bi e9 fa fun a2 w3 dm fc bG gU gV => ?_
 refine st_nil (fb _ _ (wp_seq_k fun K9 fd => ?_))
 refine wp_gS (fun W => True) (fun W W' hn h => trivial) trivial [true, true, true, true, true, true, true, false, false] [5] [(7, false), (8, true)] 99
   [(fun (v_ : Value) (W : World) => ∃ (A3 : Option Addr) (c4 : Nat), v_ = vv (Vl.mk 5 0 0 false [] (asc ⟨#[97]⟩) 0) none 0 A3 c4 ∧ SRow W .u16 A3 (asc ⟨#[97]⟩) c4), ve (vv (Vl.mk 3 0 1 false [] [] 0) none 0 none 0), (fun (v_ : Value) (W : World) => ∃ (az : Option Addr) (aA : Nat) (aB : Option Addr) (aC : Nat), v_ = .tuple #[vv (joinV (cleanV (Vl.mk 5 0 0 false [] (asc ⟨#[97]⟩) 0)) (cleanV (Vl.mk 3 0 1 false [] [] 0))).1 az aA aB aC, iv ((joinV (cleanV (Vl.mk 5 0 0 false [] (asc ⟨#[97]⟩) 0)) (cleanV (Vl.mk 3 0 1 false [] [] 0))).2)] ∧ SRow W .u32 az ((joinV (cleanV (Vl.mk 5 0 0 false [] (asc ⟨#[97]⟩) 0)) (cleanV (Vl.mk 3 0 1 false [] [] 0))).1.mag) aA ∧ SRow W .u16 aB ((joinV (cleanV (Vl.mk 5 0 0 false [] (asc ⟨#[97]⟩) 0)) (cleanV (Vl.mk 3 0 1 false [] [] 0))).1.s) aC), (fun (v_ : Value) (W : World) => ∃ (ai : Option Addr) (aj : Nat) (ak : Option Addr) (al : Nat), v_ = .tuple #[vv (joinV (cleanV (Vl.mk 5 0 0 false [] (asc ⟨#[97]⟩) 0)) (cleanV (Vl.mk 3 0 1 false [] [] 0))).1 ai aj ak al, iv ((joinV (cleanV (Vl.mk 5 0 0 false [] (asc ⟨#[97]⟩) 0)) (cleanV (Vl.mk 3 0 1 false [] [] 0))).2)] ∧ SRow W .u32 ai ((joinV (cleanV (Vl.mk 5 0 0 false [] (asc ⟨#[97]⟩) 0)) (cleanV (Vl.mk 3 0 1 false [] [] 0))).1.mag) aj ∧ SRow W .u16 ak ((joinV (cleanV (Vl.mk 5 0 0 false [] (asc ⟨#[97]⟩) 0)) (cleanV (Vl.mk 3 0 1 false [] [] 0))).1.s) al), (fun (v_ : Value) (W : World) => ∃ (aD : Option Addr) (aE : Nat) (aF : Option Addr) (aG : Nat), v_ = vv (joinV (cleanV (Vl.mk 5 0 0 false [] (asc ⟨#[97]⟩) 0)) (cleanV (Vl.mk 3 0 1 false [] [] 0))).1 aD aE aF aG ∧ SRow W .u32 aD ((joinV (cleanV (Vl.mk 5 0 0 false [] (asc ⟨#[97]⟩) 0)) (cleanV (Vl.mk 3 0 1 false [] [] 0))).1.mag) aE ∧ SRow W .u16 aF ((joinV (cleanV (Vl.mk 5 0 0 false [] (asc ⟨#[97]⟩) 0)) (cleanV (Vl.mk 3 0 1 false [] [] 0))).1.s) aG), ve (iv ((joinV (cleanV (Vl.mk 5 0 0 false [] (asc ⟨#[97]⟩) 0)) (cleanV (Vl.mk 3 0 1 false [] [] 0))).2)), IsNew w3 29 [iv 0, iv 0, iv 0, .bool false, sv none ([]) 0, sv none ([]) 0, iv 0], vt, vt]
   [6] (newsCons (fun v w h => IsNew.old h) newsNil) dm (.cons (fun _ _ _ n ⟨_, _, e, h⟩ => ⟨_, _, e, h.new_ n⟩) (.eq (.cons (fun v W W' hn ⟨az, aA, aB, aC, he, h0, h1⟩ => ⟨az, aA, aB, aC, he, h0.new_ hn, h1.new_ hn⟩) (.cons (fun v W W' hn ⟨ai, aj, ak, al, he, h0, h1⟩ => ⟨ai, aj, ak, al, he, h0.new_ hn, h1.new_ hn⟩) (.cons (fun v W W' hn ⟨aD, aE, aF, aG, he, h0, h1⟩ => ⟨aD, aE, aF, aG, he, h0.new_ hn, h1.new_ hn⟩) (.eq (.nw (.tt (.tt (.nil)))))))))) ?_ ?_ ?_
 refine .o1 (tkC rfl (noG rfl) rfl fun _ w hn k => (by
       refine ⟨#[.string ⟨#[97]⟩], _, args1 rfl, fun w => by kernel_rfl, ostr_c ⟨#[97]⟩ _ (by first | omega | (show (_ : Nat) ≤ _; decide)), ?_⟩
       rintro e w' ⟨A1, c2, rfl, hmo0, hm⟩
       exact ⟨_, rfl, hm, ⟨A1, c2, rfl, hmo0⟩⟩)) ?_
 refine .o1 (ck rfl rfl rfl (fun _ w hn k => ⟨#[iv 1], args1 rfl, fun _ => by kernel_rfl, owhole_c 1 _ ⟩) fun _ => rfl) ?_
 refine .o1 (tkC rfl (noG rfl) rfl fun _ w hn k => (by
       obtain ⟨A5, c6, e7, fe⟩ : (fun (v_ : Value) (W : World) => ∃ (A3 : Option Addr) (c4 : Nat), v_ = vv (Vl.mk 5 0 0 false [] (asc ⟨#[97]⟩) 0) none 0 A3 c4 ∧ SRow W .u16 A3 (asc ⟨#[97]⟩) c4) _ _ := k.dep 0 14 (by kernel_rfl) (by kernel_rfl)
       refine ⟨#[.string ⟨#[43]⟩, vv (Vl.mk 5 0 0 false [] (asc ⟨#[97]⟩) 0) none 0 A5 c6, vv (Vl.mk 3 0 1 false [] [] 0) none 0 none 0], _, args3 rfl e7 (k.eq1 1 15 rfl), fun w => by kernel_rfl, binT_c (Vl.mk 5 0 0 false [] (asc ⟨#[97]⟩) 0) _ _ _ _ (Vl.mk 3 0 1 false [] [] 0) _ _ _ _ _ (SRow.nil _ _) fe (SRow.nil _ _) (SRow.nil _ _) (VOk.str ⟨#[97]⟩ (by first | omega | decide)) (VOk.whole (by omega) (by omega)) (by first | assumption | (rw [str_clean]; rfl) | decide +kernel) (HT.up (bG.transNew hn)), ?_⟩
       rintro e w' ⟨A9, ff, fg, fh, rfl, hmo0, hmo1, hm⟩
       exact ⟨_, rfl, hm, ⟨A9, ff, fg, fh, rfl, hmo0, hmo1⟩⟩)) ?_
 refine .o1 (tk rfl rfl fun _ w hn k => (by
       obtain ⟨aH, fi, fj, fk, fl, dx, dy⟩ : (fun (v_ : Value) (W : World) => ∃ (az : Option Addr) (aA : Nat) (aB : Option Addr) (aC : Nat), v_ = .tuple #[vv (joinV (cleanV (Vl.mk 5 0 0 false [] (asc ⟨#[97]⟩) 0)) (cleanV (Vl.mk 3 0 1 false [] [] 0))).1 az aA aB aC, iv ((joinV (cleanV (Vl.mk 5 0 0 false [] (asc ⟨#[97]⟩) 0)) (cleanV (Vl.mk 3 0 1 false [] [] 0))).2)] ∧ SRow W .u32 az ((joinV (cleanV (Vl.mk 5 0 0 false [] (asc ⟨#[97]⟩) 0)) (cleanV (Vl.mk 3 0 1 false [] [] 0))).1.mag) aA ∧ SRow W .u16 aB ((joinV (cleanV (Vl.mk 5 0 0 false [] (asc ⟨#[97]⟩) 0)) (cleanV (Vl.mk 3 0 1 false [] [] 0))).1.s) aC) _ _ := k.dep 2 16 (by kernel_rfl) (by kernel_rfl)
       exact ⟨_, v_move rfl fl, ⟨aH, fi, fj, fk, rfl, dx, dy⟩⟩)) ?_
 refine .o1 (tk rfl rfl fun _ w hn k => (by
       obtain ⟨fm, fn, fo, fp, fq, dz, dA⟩ : (fun (v_ : Value) (W : World) => ∃ (ai : Option Addr) (aj : Nat) (ak : Option Addr) (al : Nat), v_ = .tuple #[vv (joinV (cleanV (Vl.mk 5 0 0 false [] (asc ⟨#[97]⟩) 0)) (cleanV (Vl.mk 3 0 1 false [] [] 0))).1 ai aj ak al, iv ((joinV (cleanV (Vl.mk 5 0 0 false [] (asc ⟨#[97]⟩) 0)) (cleanV (Vl.mk 3 0 1 false [] [] 0))).2)] ∧ SRow W .u32 ai ((joinV (cleanV (Vl.mk 5 0 0 false [] (asc ⟨#[97]⟩) 0)) (cleanV (Vl.mk 3 0 1 false [] [] 0))).1.mag) aj ∧ SRow W .u16 ak ((joinV (cleanV (Vl.mk 5 0 0 false [] (asc ⟨#[97]⟩) 0)) (cleanV (Vl.mk 3 0 1 false [] [] 0))).1.s) al) _ _ := k.dep 3 13 (by kernel_rfl) (by kernel_rfl)
       exact ⟨_, v_extract rfl fq rfl, ⟨fm, fn, fo, fp, rfl, dz, dA⟩⟩)) ?_
 refine .o3 ?_
 exact .o2 (step_allocN (cs := [iv 0, iv 0, iv 0, .bool false, sv none ([]) 0, sv none ([]) 0, iv 0]) (t := 29) rfl (noG rfl) (fun _ w hn k => rfl) (fun q _ hq hb => ⟨q, rfl, hq, hb⟩)) <| .off <| .off .nil
 intro i h
 simp only [List.contains_eq_mem, List.mem_cons, List.not_mem_nil, or_false, decide_eq_true_eq] at h
 subst h
 exact eager_takeG rfl (noG rfl) fun _ w hn k => (by
     obtain ⟨gW, gX, gY, gZ, fr, gr, gs⟩ : (fun (v_ : Value) (W : World) => ∃ (ai : Option Addr) (aj : Nat) (ak : Option Addr) (al : Nat), v_ = .tuple #[vv (joinV (cleanV (Vl.mk 5 0 0 false [] (asc ⟨#[97]⟩) 0)) (cleanV (Vl.mk 3 0 1 false [] [] 0))).1 ai aj ak al, iv ((joinV (cleanV (Vl.mk 5 0 0 false [] (asc ⟨#[97]⟩) 0)) (cleanV (Vl.mk 3 0 1 false [] [] 0))).2)] ∧ SRow W .u32 ai ((joinV (cleanV (Vl.mk 5 0 0 false [] (asc ⟨#[97]⟩) 0)) (cleanV (Vl.mk 3 0 1 false [] [] 0))).1.mag) aj ∧ SRow W .u16 ak ((joinV (cleanV (Vl.mk 5 0 0 false [] (asc ⟨#[97]⟩) 0)) (cleanV (Vl.mk 3 0 1 false [] [] 0))).1.s) al) _ _ := k.dep 3 13 (by kernel_rfl) (by kernel_rfl)
     exact ⟨_, fun w hS => v_extract rfl fr rfl, rfl⟩)
 intro bH g0 _ dB aU
 obtain ⟨bI, dC, dD⟩ := aft aU dm fc bG dB
 obtain ⟨aH, aI, ba, aJ, bj, dE, dF⟩ : (fun (v_ : Value) (W : World) => ∃ (aD : Option Addr) (aE : Nat) (aF : Option Addr) (aG : Nat), v_ = vv (joinV (cleanV (Vl.mk 5 0 0 false [] (asc ⟨#[97]⟩) 0)) (cleanV (Vl.mk 3 0 1 false [] [] 0))).1 aD aE aF aG ∧ SRow W .u32 aD ((joinV (cleanV (Vl.mk 5 0 0 false [] (asc ⟨#[97]⟩) 0)) (cleanV (Vl.mk 3 0 1 false [] [] 0))).1.mag) aE ∧ SRow W .u16 aF ((joinV (cleanV (Vl.mk 5 0 0 false [] (asc ⟨#[97]⟩) 0)) (cleanV (Vl.mk 3 0 1 false [] [] 0))).1.s) aG) _ _ := aU.got 4 17 rfl (by kernel_rfl)
 have bj : bH.eval (.tmp 17) = vv (joinV (cleanV (Vl.mk 5 0 0 false [] (asc ⟨#[97]⟩) 0)) (cleanV (Vl.mk 3 0 1 false [] [] 0))).1 aH aI ba aJ := bj
 have dn := aU.ge 5 18 rfl
 obtain ⟨aT, dp, dG, bb⟩ : IsNew _ _ _ _ _ := aU.got 6 1 rfl (by kernel_rfl)
 have gt := Nat.le_trans bG.size dG
 obtain ⟨bk, cl, cm, bd, gu⟩ := s_many (P := Tryz.prog) (t := 29) (i := 0) [iv ((joinV (cleanV (Vl.mk 5 0 0 false [] (asc ⟨#[97]⟩) 0)) (cleanV (Vl.mk 3 0 1 false [] [] 0))).1.k), iv ((joinV (cleanV (Vl.mk 5 0 0 false [] (asc ⟨#[97]⟩) 0)) (cleanV (Vl.mk 3 0 1 false [] [] 0))).1.nk), iv ((joinV (cleanV (Vl.mk 5 0 0 false [] (asc ⟨#[97]⟩) 0)) (cleanV (Vl.mk 3 0 1 false [] [] 0))).1.nn), .bool ((joinV (cleanV (Vl.mk 5 0 0 false [] (asc ⟨#[97]⟩) 0)) (cleanV (Vl.mk 3 0 1 false [] [] 0))).1.neg), sv aH ((joinV (cleanV (Vl.mk 5 0 0 false [] (asc ⟨#[97]⟩) 0)) (cleanV (Vl.mk 3 0 1 false [] [] 0))).1.mag) aI, sv ba ((joinV (cleanV (Vl.mk 5 0 0 false [] (asc ⟨#[97]⟩) 0)) (cleanV (Vl.mk 3 0 1 false [] [] 0))).1.s) aJ, iv ((joinV (cleanV (Vl.mk 5 0 0 false [] (asc ⟨#[97]⟩) 0)) (cleanV (Vl.mk 3 0 1 false [] [] 0))).1.ref)] Tryz.sizeOf29 rfl rfl rfl bb lb
 have bJ : Blk bk aT 29 [iv ((joinV (cleanV (Vl.mk 5 0 0 false [] (asc ⟨#[97]⟩) 0)) (cleanV (Vl.mk 3 0 1 false [] [] 0))).1.k), iv ((joinV (cleanV (Vl.mk 5 0 0 false [] (asc ⟨#[97]⟩) 0)) (cleanV (Vl.mk 3 0 1 false [] [] 0))).1.nk), iv ((joinV (cleanV (Vl.mk 5 0 0 false [] (asc ⟨#[97]⟩) 0)) (cleanV (Vl.mk 3 0 1 false [] [] 0))).1.nn), .bool ((joinV (cleanV (Vl.mk 5 0 0 false [] (asc ⟨#[97]⟩) 0)) (cleanV (Vl.mk 3 0 1 false [] [] 0))).1.neg), sv aH ((joinV (cleanV (Vl.mk 5 0 0 false [] (asc ⟨#[97]⟩) 0)) (cleanV (Vl.mk 3 0 1 false [] [] 0))).1.mag) aI, sv ba ((joinV (cleanV (Vl.mk 5 0 0 false [] (asc ⟨#[97]⟩) 0)) (cleanV (Vl.mk 3 0 1 false [] [] 0))).1.s) aJ, iv ((joinV (cleanV (Vl.mk 5 0 0 false [] (asc ⟨#[97]⟩) 0)) (cleanV (Vl.mk 3 0 1 false [] [] 0))).1.ref)] := cm
 refine st_act rfl rfl fun g1 dH => a_store' rfl dp bj cl (dH _ _ trivial ?_)
 have dI := dE.far bb bd (by first | rfl | decide | simp [notK])
 have dJ := dF.far bb bd (by first | rfl | decide | simp [notK])
 have bK := dD.trans bd (fun _ h b => by subst b; omega)
 refine st_take rfl rfl (y_assign (v := iv ((joinV (cleanV (Vl.mk 5 0 0 false [] (asc ⟨#[97]⟩) 0)) (cleanV (Vl.mk 3 0 1 false [] [] 0))).2)) rfl dn) rfl ?_
 obtain ⟨fs, am⟩ : ∃ a', a' = bH.put (some 2) (iv ((joinV (cleanV (Vl.mk 5 0 0 false [] (asc ⟨#[97]⟩) 0)) (cleanV (Vl.mk 3 0 1 false [] [] 0))).2)) := ⟨_, rfl⟩
 have bL := pz am bI
 have dK := pd am dC
 have g2 := pn am bj (by decide)
 have g3 := pn am dn (by decide)
 have ft := pn am dp (by decide)
 have fu : fs.eval (.tmp 2) = iv ((joinV (cleanV (Vl.mk 5 0 0 false [] (asc ⟨#[97]⟩) 0)) (cleanV (Vl.mk 3 0 1 false [] [] 0))).2) := by rw [am]; exact put_same _ _ _ (by rw [bI]; decide)
 show stepsTo _ _ _ _ _ (bH.put (some 2) (iv ((joinV (cleanV (Vl.mk 5 0 0 false [] (asc ⟨#[97]⟩) 0)) (cleanV (Vl.mk 3 0 1 false [] [] 0))).2))) _
 rw [← am]
 refine st_nil (fd _ _ (wp_seq_k fun g4 dL => ?_))
 refine wp_g [true, true, true, true, true, true, true, true, false, false] [6] [(8, false), (9, true)] 99
   [(OP bk.heap.size 56 .u32 ([1])), (fun (v_ : Value) (W : World) => ∃ (aK : Option Addr) (aL : Nat), v_ = vv (Vl.mk 4 0 0 false [1] [] 0) aK aL none 0 ∧ SRow W .u32 aK ([1]) aL), ve (vv (Vl.mk 3 0 1 false [] [] 0) none 0 none 0), ve (.tuple #[vv (Vl.mk 0 0 0 false [] [] 0) none 0 none 0, iv 1]), ve (.tuple #[vv (Vl.mk 0 0 0 false [] [] 0) none 0 none 0, iv 1]), ve (vv (Vl.mk 0 0 0 false [] [] 0) none 0 none 0), ve (iv 1), IsNew bk 29 [iv 0, iv 0, iv 0, .bool false, sv none ([]) 0, sv none ([]) 0, iv 0], vt, vt]
   [7] (newsCons (fun v w h => IsNew.old h) newsNil) bL (.cons (fun _ _ _ n ⟨_, _, e, h⟩ => ⟨_, _, e, h.new_ n⟩) (.cons (fun v W W' hn ⟨aK, aL, he, h0⟩ => ⟨aK, aL, he, h0.new_ hn⟩) (.eq (.eq (.eq (.eq (.eq (.nw (.tt (.tt (.nil))))))))))) ?_ ?_ ?_
 refine .o1 (tkA rfl (noG rfl) fun _ w hn k => (by
       exact x_bslice (k := .u32) (ps := [(0, .int .u32 1)]) [1] rfl (parts1 rfl) elW rfl (by omega) (by omega) (by first | kernel_rfl | (simp only [enc, List.map_cons, List.map_nil, Int.toNat_natCast, Int.toNat_of_nonneg (by omega : (0 : Int) ≤ _)]; kernel_rfl)) fun fy fz W' hmo => ⟨fy, fz, rfl, (hmo.more hn.size)⟩)) ?_
 refine .o1 (tkC rfl (noG rfl) rfl fun _ w hn k => (by
       obtain ⟨fA, fB, fC, dM⟩ : (OP bk.heap.size 56 .u32 ([1])) _ _ := k.dep 0 20 (by kernel_rfl) (by kernel_rfl)
       refine ⟨#[sv fA ([1]) fB], _, args1 fC, fun w => by kernel_rfl, obig_c _ ([1]) _ _ dM.row, ?_⟩
       rintro e w' ⟨fD, fE, rfl, hmo0, hm⟩
       exact ⟨_, rfl, hm, ⟨fD, fE, rfl, hmo0⟩⟩)) ?_
 refine .o1 (ck rfl rfl rfl (fun _ w hn k => ⟨#[iv 1], args1 rfl, fun _ => by kernel_rfl, owhole_c 1 _ ⟩) fun _ => rfl) ?_
 refine .o1 (tkC rfl (noG rfl) rfl fun _ w hn k => (by
       obtain ⟨fF, fG, fH, dN⟩ : (fun (v_ : Value) (W : World) => ∃ (aK : Option Addr) (aL : Nat), v_ = vv (Vl.mk 4 0 0 false [1] [] 0) aK aL none 0 ∧ SRow W .u32 aK ([1]) aL) _ _ := k.dep 1 21 (by kernel_rfl) (by kernel_rfl)
       refine ⟨#[.string ⟨#[43]⟩, vv (Vl.mk 4 0 0 false [1] [] 0) fF fG none 0, vv (Vl.mk 3 0 1 false [] [] 0) none 0 none 0], _, args3 rfl fH (k.eq1 2 22 rfl), fun w => by kernel_rfl, f_m _ _ _ _ _ _ _ _ _ dN (SRow.nil _ _) (SRow.nil _ _) (SRow.nil _ _), ?_⟩
       rintro e w' ⟨rfl, hm⟩
       exact ⟨_, rfl, hm, rfl⟩)) ?_
 refine .m (fun k => k.eq1 3 23 rfl) <| .t (fun _ w hn k => ⟨_, v_extract rfl (k.eq1 4 19 rfl) rfl, rfl⟩) ?_
 refine .o3 ?_
 exact .o2 (step_allocN (cs := [iv 0, iv 0, iv 0, .bool false, sv none ([]) 0, sv none ([]) 0, iv 0]) (t := 29) rfl (noG rfl) (fun _ w hn k => rfl) (fun q _ hq hb => ⟨q, rfl, hq, hb⟩)) <| .off <| .off .nil
 intro i h
 simp only [List.contains_eq_mem, List.mem_cons, List.not_mem_nil, or_false, decide_eq_true_eq] at h
 subst h
 exact eager_take rfl rfl fun _ w hn k => ⟨iv 1, fun w => v_extract rfl (k.eq1 4 19 rfl) rfl, rfl⟩
 refine aftI bL dK bK fun dq g5 bM dO dP be aM => ?_
 have fI := aM.fx 1 ft
 have fJ := aM.fx 2 fu
 have dr := aM.ge 5 24 rfl
 have ds := aM.ge 6 25 rfl
 obtain ⟨dt, du, bN, bf⟩ : IsNew _ _ _ _ _ := aM.got 7 3 rfl (by kernel_rfl)
 have dQ := bJ.new_ be
 have hne64 : aT ≠ dt := by have h1 := bJ.lt; have h2 := bN; omega
 have gv := Nat.le_trans bK.size bN
 have dR := dI.new_ be
 have dS := dJ.new_ be
 obtain ⟨dv, cn, co, bg, dT⟩ := s_many (P := Tryz.prog) (t := 29) (i := 0) [iv 0, iv 0, iv 0, .bool false, sv none ([]) 0, sv none ([]) 0, iv 0] Tryz.sizeOf29 rfl rfl rfl bf lb
 have gw : Blk dv dt 29 [iv 0, iv 0, iv 0, .bool false, sv none ([]) 0, sv none ([]) 0, iv 0] := co
 refine st_act rfl rfl fun g6 dU => a_store' rfl du dr cn (dU _ _ trivial ?_)
 have dV := dR.far bf bg (by first | rfl | decide | simp [notK])
 have dW := dS.far bf bg (by first | rfl | decide | simp [notK])
 have bO := dT _ _ _ (hne64) dQ
 have bP := dP.trans bg (fun _ h b => by subst b; omega)
 refine st_take rfl rfl (y_assign (v := iv 1) rfl ds) rfl ?_
 obtain ⟨fK, ag⟩ : ∃ a', a' = dq.put (some 4) (iv 1) := ⟨_, rfl⟩
 have bQ := pz ag bM
 have dX := pd ag dO
 have fL := pn ag fI (by decide)
 have fM := pn ag fJ (by decide)
 have g7 := pn ag dr (by decide)
 have g8 := pn ag ds (by decide)
 have g9 := pn ag du (by decide)
 have fN : fK.eval (.tmp 4) = iv 1 := by rw [ag]; exact put_same _ _ _ (by rw [bM]; decide)
 show stepsTo _ _ _ _ _ (dq.put (some 4) (iv 1)) _
 rw [← ag]
 refine st_nil (dL _ _ (wp_seq_k fun ha dY => ?_))
 refine wp_g [true, true, true, true, true, true, true, false, false] [5] [(7, false), (8, true)] 99
   [ve (vv (Vl.mk 3 0 1 false [] [] 0) none 0 none 0), ve (vv (Vl.mk 3 0 2 false [] [] 0) none 0 none 0), ve (.tuple #[vv (Vl.mk 0 0 0 false [] [] 0) none 0 none 0, iv 3]), ve (.tuple #[vv (Vl.mk 0 0 0 false [] [] 0) none 0 none 0, iv 3]), ve (vv (Vl.mk 0 0 0 false [] [] 0) none 0 none 0), ve (iv 3), IsNew dv 29 [iv 0, iv 0, iv 0, .bool false, sv none ([]) 0, sv none ([]) 0, iv 0], vt, vt]
   [6] (newsCons (fun v w h => IsNew.old h) newsNil) bQ (.eq (.eq (.eq (.eq (.eq (.eq (.nw (.tt (.tt (.nil)))))))))) ?_ ?_ ?_
 refine .o1 (ck rfl rfl rfl (fun _ w hn k => ⟨#[iv 1], args1 rfl, fun _ => by kernel_rfl, owhole_c 1 _ ⟩) fun _ => rfl) <| .o1 (ck rfl rfl rfl (fun _ w hn k => ⟨#[iv 2], args1 rfl, fun _ => by kernel_rfl, owhole_c 2 _ ⟩) fun _ => rfl) <| .o1 (ck rfl rfl rfl (fun _ w hn k => ⟨#[.string ⟨#[47]⟩, vv (Vl.mk 3 0 1 false [] [] 0) none 0 none 0, vv (Vl.mk 3 0 2 false [] [] 0) none 0 none 0], args3 rfl (k.eq1 0 27 rfl) (k.eq1 1 28 rfl), fun _ => by kernel_rfl, f_d _ _ _ _ _ _ _ _ _ (SRow.nil _ _) (SRow.nil _ _) (SRow.nil _ _) (SRow.nil _ _)⟩) fun _ => rfl) <| .m (fun k => k.eq1 2 29 rfl) <| .t (fun _ w hn k => ⟨_, v_extract rfl (k.eq1 3 26 rfl) rfl, rfl⟩) ?_
 refine .o3 ?_
 exact .o2 (step_allocN (cs := [iv 0, iv 0, iv 0, .bool false, sv none ([]) 0, sv none ([]) 0, iv 0]) (t := 29) rfl (noG rfl) (fun _ w hn k => rfl) (fun q _ hq hb => ⟨q, rfl, hq, hb⟩)) <| .off <| .off .nil
 intro i h
 simp only [List.contains_eq_mem, List.mem_cons, List.not_mem_nil, or_false, decide_eq_true_eq] at h
 subst h
 exact eager_take rfl rfl fun _ w hn k => ⟨iv 3, fun w => v_extract rfl (k.eq1 3 26 rfl) rfl, rfl⟩
 refine aftI bQ dX bP fun dw hc bR dZ cp bh ax => ?_
 have fO := ax.fx 1 fL
 have fP := ax.fx 2 fM
 have fQ := ax.fx 4 fN
 have bS := ax.ge 4 30 rfl
 have bT := ax.ge 5 31 rfl
 obtain ⟨bU, bV, bl, aV⟩ : IsNew _ _ _ _ _ := ax.got 6 5 rfl (by kernel_rfl)
 have cq := bO.new_ bh
 have hne107 : aT ≠ bU := by have h1 := bO.lt; have h2 := bl; omega
 have gi := Nat.le_trans bP.size bl
 have cr := dV.new_ bh
 have ct := dW.new_ bh
 obtain ⟨aW, bW, bX, aX, cu⟩ := s_many (P := Tryz.prog) (t := 29) (i := 0) [iv 0, iv 0, iv 0, .bool false, sv none ([]) 0, sv none ([]) 0, iv 0] Tryz.sizeOf29 rfl rfl rfl aV lb
 have gj : Blk aW bU 29 [iv 0, iv 0, iv 0, .bool false, sv none ([]) 0, sv none ([]) 0, iv 0] := bX
 refine st_act rfl rfl fun gx cv => a_store' rfl bV bS bW (cv _ _ trivial ?_)
 have cw := cr.far aV aX (by first | rfl | decide | simp [notK])
 have cx := ct.far aV aX (by first | rfl | decide | simp [notK])
 have bm := cu _ _ _ (hne107) cq
 have bn := cp.trans aX (fun _ h b => by subst b; omega)
 refine st_take rfl rfl (y_assign (v := iv 3) rfl bT) rfl ?_
 obtain ⟨d0, ad⟩ : ∃ a', a' = dw.put (some 6) (iv 3) := ⟨_, rfl⟩
 have bo := pz ad bR
 have cy := pd ad dZ
 have d1 := pn ad fO (by decide)
 have d2 := pn ad fP (by decide)
 have d3 := pn ad fQ (by decide)
 have gy := pn ad bS (by decide)
 have gz := pn ad bT (by decide)
 have gA := pn ad bV (by decide)
 have d4 : d0.eval (.tmp 6) = iv 3 := by rw [ad]; exact put_same _ _ _ (by rw [bR]; decide)
 show stepsTo _ _ _ _ _ (dw.put (some 6) (iv 3)) _
 rw [← ad]
 refine st_nil (dY _ _ (wp_seq_k fun gB cz => ?_))
 refine wp_g [true, true, true, true, true, true, true, true, false, false] [6] [(8, false), (9, true)] 99
   [(OP aW.heap.size 56 .u32 ([1])), (fun (v_ : Value) (W : World) => ∃ (aN : Option Addr) (aO : Nat), v_ = vv (Vl.mk 4 0 0 false [1] [] 0) aN aO none 0 ∧ SRow W .u32 aN ([1]) aO), (fun (v_ : Value) (W : World) => ∃ (aP : Option Addr) (aQ : Nat), v_ = vv (Vl.mk 4 0 0 false [] [] 0) aP aQ none 0 ∧ SRow W .u32 aP ([]) aQ), ve (.tuple #[vv (Vl.mk 0 0 0 false [] [] 0) none 0 none 0, iv 2]), ve (.tuple #[vv (Vl.mk 0 0 0 false [] [] 0) none 0 none 0, iv 2]), ve (vv (Vl.mk 0 0 0 false [] [] 0) none 0 none 0), ve (iv 2), IsNew aW 29 [iv 0, iv 0, iv 0, .bool false, sv none ([]) 0, sv none ([]) 0, iv 0], vt, vt]
   [7] (newsCons (fun v w h => IsNew.old h) newsNil) bo (.cons (fun _ _ _ n ⟨_, _, e, h⟩ => ⟨_, _, e, h.new_ n⟩) (.cons (fun v W W' hn ⟨aN, aO, he, h0⟩ => ⟨aN, aO, he, h0.new_ hn⟩) (.cons (fun _ _ _ n ⟨_, _, e, h⟩ => ⟨_, _, e, h.new_ n⟩) (.eq (.eq (.eq (.eq (.nw (.tt (.tt (.nil))))))))))) ?_ ?_ ?_
 refine .o1 (tkA rfl (noG rfl) fun _ w hn k => (by
       exact x_bslice (k := .u32) (ps := [(0, .int .u32 1)]) [1] rfl (parts1 rfl) elW rfl (by omega) (by omega) (by first | kernel_rfl | (simp only [enc, List.map_cons, List.map_nil, Int.toNat_natCast, Int.toNat_of_nonneg (by omega : (0 : Int) ≤ _)]; kernel_rfl)) fun fT fU W' hmo => ⟨fT, fU, rfl, (hmo.more hn.size)⟩)) ?_
 refine .o1 (tkC rfl (noG rfl) rfl fun _ w hn k => (by
       obtain ⟨fV, fW, fX, d5⟩ : (OP aW.heap.size 56 .u32 ([1])) _ _ := k.dep 0 33 (by kernel_rfl) (by kernel_rfl)
       refine ⟨#[sv fV ([1]) fW], _, args1 fX, fun w => by kernel_rfl, obig_c _ ([1]) _ _ d5.row, ?_⟩
       rintro e w' ⟨fY, fZ, rfl, hmo0, hm⟩
       exact ⟨_, rfl, hm, ⟨fY, fZ, rfl, hmo0⟩⟩)) ?_
 refine .o1 (tkC rfl (noG rfl) rfl fun _ w hn k => (by
       refine ⟨#[sv none ([]) 0], _, args1 rfl, fun w => by kernel_rfl, obig_c _ ([]) _ _ (SRow.nil _ _), ?_⟩
       rintro e w' ⟨f0, f1, rfl, hmo0, hm⟩
       exact ⟨_, rfl, hm, ⟨f0, f1, rfl, hmo0⟩⟩)) ?_
 refine .o1 (tkC rfl (noG rfl) rfl fun _ w hn k => (by
       obtain ⟨f2, f3, f4, d6⟩ : (fun (v_ : Value) (W : World) => ∃ (aN : Option Addr) (aO : Nat), v_ = vv (Vl.mk 4 0 0 false [1] [] 0) aN aO none 0 ∧ SRow W .u32 aN ([1]) aO) _ _ := k.dep 1 34 (by kernel_rfl) (by kernel_rfl)
       obtain ⟨f5, f6, f7, d7⟩ : (fun (v_ : Value) (W : World) => ∃ (aP : Option Addr) (aQ : Nat), v_ = vv (Vl.mk 4 0 0 false [] [] 0) aP aQ none 0 ∧ SRow W .u32 aP ([]) aQ) _ _ := k.dep 2 35 (by kernel_rfl) (by kernel_rfl)
       refine ⟨#[.string ⟨#[47]⟩, vv (Vl.mk 4 0 0 false [1] [] 0) f2 f3 none 0, vv (Vl.mk 4 0 0 false [] [] 0) f5 f6 none 0], _, args3 rfl f4 f7, fun w => by kernel_rfl, f_b _ _ _ _ _ _ _ _ _ d6 (SRow.nil _ _) d7 (SRow.nil _ _), ?_⟩
       rintro e w' ⟨rfl, hm⟩
       exact ⟨_, rfl, hm, rfl⟩)) ?_
 refine .m (fun k => k.eq1 3 36 rfl) <| .t (fun _ w hn k => ⟨_, v_extract rfl (k.eq1 4 32 rfl) rfl, rfl⟩) ?_
 refine .o3 ?_
 exact .o2 (step_allocN (cs := [iv 0, iv 0, iv 0, .bool false, sv none ([]) 0, sv none ([]) 0, iv 0]) (t := 29) rfl (noG rfl) (fun _ w hn k => rfl) (fun q _ hq hb => ⟨q, rfl, hq, hb⟩)) <| .off <| .off .nil
 intro i h
 simp only [List.contains_eq_mem, List.mem_cons, List.not_mem_nil, or_false, decide_eq_true_eq] at h
 subst h
 exact eager_take rfl rfl fun _ w hn k => ⟨iv 2, fun w => v_extract rfl (k.eq1 4 32 rfl) rfl, rfl⟩
 refine aftI bo cy bn fun bY gC bp cA cB aY ah => ?_
 have d8 := ah.fx 1 d1
 have d9 := ah.fx 2 d2
 have ea := ah.fx 4 d3
 have eb := ah.fx 6 d4
 have bZ := ah.ge 5 37 rfl
 have b0 := ah.ge 6 38 rfl
 obtain ⟨b1, b2, bq, aZ⟩ : IsNew _ _ _ _ _ := ah.got 7 7 rfl (by kernel_rfl)
 have cC := bm.new_ aY
 have hne152 : aT ≠ b1 := by have h1 := bm.lt; have h2 := bq; omega
 have gk := Nat.le_trans bn.size bq
 have cD := cw.new_ aY
 have cE := cx.new_ aY
 obtain ⟨a1, b3, b4, a3, cF⟩ := s_many (P := Tryz.prog) (t := 29) (i := 0) [iv 0, iv 0, iv 0, .bool false, sv none ([]) 0, sv none ([]) 0, iv 0] Tryz.sizeOf29 rfl rfl rfl aZ lb
 have gl : Blk a1 b1 29 [iv 0, iv 0, iv 0, .bool false, sv none ([]) 0, sv none ([]) 0, iv 0] := b4
 refine st_act rfl rfl fun gD cG => a_store' rfl b2 bZ b3 (cG _ _ trivial ?_)
 have cH := cD.far aZ a3 (by first | rfl | decide | simp [notK])
 have cI := cE.far aZ a3 (by first | rfl | decide | simp [notK])
 have br := cF _ _ _ (hne152) cC
 have bs := cB.trans a3 (fun _ h b => by subst b; omega)
 refine st_take rfl rfl (y_assign (v := iv 2) rfl b0) rfl ?_
 obtain ⟨ec, ac⟩ : ∃ a', a' = bY.put (some 8) (iv 2) := ⟨_, rfl⟩
 have bt := pz ac bp
 have cJ := pd ac cA
 have ed := pn ac d8 (by decide)
 have ee := pn ac d9 (by decide)
 have ef := pn ac ea (by decide)
 have eg := pn ac eb (by decide)
 have gE := pn ac bZ (by decide)
 have gF := pn ac b0 (by decide)
 have gG := pn ac b2 (by decide)
 have eh : ec.eval (.tmp 8) = iv 2 := by rw [ac]; exact put_same _ _ _ (by rw [bp]; decide)
 show stepsTo _ _ _ _ _ (bY.put (some 8) (iv 2)) _
 rw [← ac]
 refine st_nil (cz _ _ (wp_seq_k fun gH cK => ?_))
 refine wp_g [true, true, true, true, true, true, true, true, false, false] [6] [(8, false), (9, true)] 99
   [(OP a1.heap.size 56 .u32 ([1])), (fun (v_ : Value) (W : World) => ∃ (an : Option Addr) (ao : Nat), v_ = vv (Vl.mk 4 0 0 false [1] [] 0) an ao none 0 ∧ SRow W .u32 an ([1]) ao), ve (vv (Vl.mk 3 0 2 false [] [] 0) none 0 none 0), ve (.tuple #[vv (Vl.mk 2 0 0 false [] [] 1) none 0 none 0, iv 0]), ve (.tuple #[vv (Vl.mk 2 0 0 false [] [] 1) none 0 none 0, iv 0]), ve (vv (Vl.mk 2 0 0 false [] [] 1) none 0 none 0), ve (iv 0), IsNew a1 29 [iv 0, iv 0, iv 0, .bool false, sv none ([]) 0, sv none ([]) 0, iv 0], vt, vt]
   [7] (newsCons (fun v w h => IsNew.old h) newsNil) bt (.cons (fun _ _ _ n ⟨_, _, e, h⟩ => ⟨_, _, e, h.new_ n⟩) (.cons (fun v W W' hn ⟨an, ao, he, h0⟩ => ⟨an, ao, he, h0.new_ hn⟩) (.eq (.eq (.eq (.eq (.eq (.nw (.tt (.tt (.nil))))))))))) ?_ ?_ ?_
 refine .o1 (tkA rfl (noG rfl) fun _ w hn k => (by
       exact x_bslice (k := .u32) (ps := [(0, .int .u32 1)]) [1] rfl (parts1 rfl) elW rfl (by omega) (by omega) (by first | kernel_rfl | (simp only [enc, List.map_cons, List.map_nil, Int.toNat_natCast, Int.toNat_of_nonneg (by omega : (0 : Int) ≤ _)]; kernel_rfl)) fun ga gb W' hmo => ⟨ga, gb, rfl, (hmo.more hn.size)⟩)) ?_
 refine .o1 (tkC rfl (noG rfl) rfl fun _ w hn k => (by
       obtain ⟨gc, gd, gg, cL⟩ : (OP a1.heap.size 56 .u32 ([1])) _ _ := k.dep 0 40 (by kernel_rfl) (by kernel_rfl)
       refine ⟨#[sv gc ([1]) gd], _, args1 gg, fun w => by kernel_rfl, obig_c _ ([1]) _ _ cL.row, ?_⟩
       rintro e w' ⟨ei, ej, rfl, hmo0, hm⟩
       exact ⟨_, rfl, hm, ⟨ei, ej, rfl, hmo0⟩⟩)) ?_
 refine .o1 (ck rfl rfl rfl (fun _ w hn k => ⟨#[iv 2], args1 rfl, fun _ => by kernel_rfl, owhole_c 2 _ ⟩) fun _ => rfl) ?_
 refine .o1 (tkC rfl (noG rfl) rfl fun _ w hn k => (by
       obtain ⟨ek, el, em, cM⟩ : (fun (v_ : Value) (W : World) => ∃ (an : Option Addr) (ao : Nat), v_ = vv (Vl.mk 4 0 0 false [1] [] 0) an ao none 0 ∧ SRow W .u32 an ([1]) ao) _ _ := k.dep 1 41 (by kernel_rfl) (by kernel_rfl)
       refine ⟨#[.string ⟨#[60]⟩, vv (Vl.mk 4 0 0 false [1] [] 0) ek el none 0, vv (Vl.mk 3 0 2 false [] [] 0) none 0 none 0], _, args3 rfl em (k.eq1 2 42 rfl), fun w => by kernel_rfl, f_l _ _ _ _ _ _ _ _ _ cM (SRow.nil _ _) (SRow.nil _ _) (SRow.nil _ _), ?_⟩
       rintro e w' ⟨rfl, hm⟩
       exact ⟨_, rfl, hm, rfl⟩)) ?_
 refine .m (fun k => k.eq1 3 43 rfl) <| .t (fun _ w hn k => ⟨_, v_extract rfl (k.eq1 4 39 rfl) rfl, rfl⟩) ?_
 refine .o3 ?_
 exact .o2 (step_allocN (cs := [iv 0, iv 0, iv 0, .bool false, sv none ([]) 0, sv none ([]) 0, iv 0]) (t := 29) rfl (noG rfl) (fun _ w hn k => rfl) (fun q _ hq hb => ⟨q, rfl, hq, hb⟩)) <| .off <| .off .nil
 intro i h
 simp only [List.contains_eq_mem, List.mem_cons, List.not_mem_nil, or_false, decide_eq_true_eq] at h
 subst h
 exact eager_take rfl rfl fun _ w hn k => ⟨iv 0, fun w => v_extract rfl (k.eq1 4 39 rfl) rfl, rfl⟩
 refine aftI bt cJ bs fun b5 gI bu cN cO a4 af => ?_
 have en := af.fx 1 ed
 have eo := af.fx 2 ee
 have ep := af.fx 4 ef
 have er := af.fx 6 eg
 have es := af.fx 8 eh
 have b6 := af.ge 5 44 rfl
 have b7 := af.ge 6 45 rfl
 obtain ⟨aR, b8, bv, a5⟩ : IsNew _ _ _ _ _ := af.got 7 9 rfl (by kernel_rfl)
 have cP := br.new_ a4
 have hne199 : aT ≠ aR := by have h1 := br.lt; have h2 := bv; omega
 have gn := Nat.le_trans bs.size bv
 have cQ := cH.new_ a4
 have cR := cI.new_ a4
 obtain ⟨b9, ca, cb, a6, cS⟩ := s_many (P := Tryz.prog) (t := 29) (i := 0) [iv 2, iv 0, iv 0, .bool false, sv none ([]) 0, sv none ([]) 0, iv 1] Tryz.sizeOf29 rfl rfl rfl a5 lb
 have bw : Blk b9 aR 29 [iv 2, iv 0, iv 0, .bool false, sv none ([]) 0, sv none ([]) 0, iv 1] := cb
 refine st_act rfl rfl fun gJ cT => a_store' rfl b8 b6 ca (cT _ _ trivial ?_)
 have cU := cQ.far a5 a6 (by first | rfl | decide | simp [notK])
 have cV := cR.far a5 a6 (by first | rfl | decide | simp [notK])
 have bx := cS _ _ _ (hne199) cP
 have bz := cO.trans a6 (fun _ h b => by subst b; omega)
 refine st_take rfl rfl (y_assign (v := iv 0) rfl b7) rfl ?_
 obtain ⟨et, ab⟩ : ∃ a', a' = b5.put (some 10) (iv 0) := ⟨_, rfl⟩
 have bA := pz ab bu
 have cW := pd ab cN
 have eu := pn ab en (by decide)
 have ev := pn ab eo (by decide)
 have ew := pn ab ep (by decide)
 have ex := pn ab er (by decide)
 have ey := pn ab es (by decide)
 have gK := pn ab b6 (by decide)
 have gL := pn ab b7 (by decide)
 have ez := pn ab b8 (by decide)
 have eA : et.eval (.tmp 10) = iv 0 := by rw [ab]; exact put_same _ _ _ (by rw [bu]; decide)
 show stepsTo _ _ _ _ _ (b5.put (some 10) (iv 0)) _
 rw [← ab]
 refine st_nil (cK _ _ (wp_seq_k fun gM cX => ?_))
 refine wp_g [true, true, true, true, true, true, false, false] [4] [(6, false), (7, true)] 99
   [ve (vv (Vl.mk 3 0 0 false [] [] 0) none 0 none 0), ve (.tuple #[vv (Vl.mk 3 1 0 false [] [] 0) none 0 none 0, iv 0]), ve (.tuple #[vv (Vl.mk 3 1 0 false [] [] 0) none 0 none 0, iv 0]), ve (vv (Vl.mk 3 1 0 false [] [] 0) none 0 none 0), ve (iv 0), IsNew b9 29 [iv 0, iv 0, iv 0, .bool false, sv none ([]) 0, sv none ([]) 0, iv 0], vt, vt]
   [5] (newsCons (fun v w h => IsNew.old h) newsNil) bA (.eq (.eq (.eq (.eq (.eq (.nw (.tt (.tt (.nil))))))))) ?_ ?_ ?_
 refine .o1 (ck rfl rfl rfl (fun _ w hn k => ⟨#[iv 0], args1 rfl, fun _ => by kernel_rfl, owhole_c 0 _ ⟩) fun _ => rfl) <| .o1 (ck rfl rfl rfl (fun _ w hn k => ⟨#[.string ⟨#[45]⟩, vv (Vl.mk 3 0 0 false [] [] 0) none 0 none 0], args2 rfl (k.eq1 0 47 rfl), fun _ => by kernel_rfl, f_n _ _ _ _ _ (SRow.nil _ _) (SRow.nil _ _)⟩) fun _ => rfl) <| .m (fun k => k.eq1 1 48 rfl) <| .t (fun _ w hn k => ⟨_, v_extract rfl (k.eq1 2 46 rfl) rfl, rfl⟩) ?_
 refine .o3 ?_
 exact .o2 (step_allocN (cs := [iv 0, iv 0, iv 0, .bool false, sv none ([]) 0, sv none ([]) 0, iv 0]) (t := 29) rfl (noG rfl) (fun _ w hn k => rfl) (fun q _ hq hb => ⟨q, rfl, hq, hb⟩)) <| .off <| .off .nil
 intro i h
 simp only [List.contains_eq_mem, List.mem_cons, List.not_mem_nil, or_false, decide_eq_true_eq] at h
 subst h
 exact eager_take rfl rfl fun _ w hn k => ⟨iv 0, fun w => v_extract rfl (k.eq1 2 46 rfl) rfl, rfl⟩
 refine aftI bA cW bz fun cc gN bB cY cZ ay ae => ?_
 have eB := ae.fx 1 eu
 have eC := ae.fx 2 ev
 have eD := ae.fx 4 ew
 have eE := ae.fx 6 ex
 have eF := ae.fx 8 ey
 have eG := ae.fx 9 ez
 have eH := ae.fx 10 eA
 have cd := ae.ge 3 49 rfl
 have ce := ae.ge 4 50 rfl
 obtain ⟨aS, cf, a7, a8⟩ : IsNew _ _ _ _ _ := ae.got 5 11 rfl (by kernel_rfl)
 have c0 := bx.new_ ay
 have c1 := bw.new_ ay
 have hne250 : aT ≠ aS := by have h1 := bx.lt; have h2 := a7; omega
 have hne251 : aR ≠ aS := by have h1 := bw.lt; have h2 := a7; omega
 have go := Nat.le_trans bz.size a7
 have c3 := cU.new_ ay
 have c5 := cV.new_ ay
 obtain ⟨eI, ch, ci, a9, bC⟩ := s_many (P := Tryz.prog) (t := 29) (i := 0) [iv 3, iv 1, iv 0, .bool false, sv none ([]) 0, sv none ([]) 0, iv 0] Tryz.sizeOf29 rfl rfl rfl a8 lb
 have c7 : Blk eI aS 29 [iv 3, iv 1, iv 0, .bool false, sv none ([]) 0, sv none ([]) 0, iv 0] := ci
 refine st_act rfl rfl fun gO c8 => a_store' rfl cf cd ch (c8 _ _ trivial ?_)
 have c9 := c3.far a8 a9 (by first | rfl | decide | simp [notK])
 have da := c5.far a8 a9 (by first | rfl | decide | simp [notK])
 have db := bC _ _ _ (hne250) c0
 have bD := bC _ _ _ (hne251) c1
 have dc := cZ.trans a9 (fun _ h b => by subst b; omega)
 refine st_take rfl rfl (y_assign (v := iv 0) rfl ce) rfl ?_
 obtain ⟨eJ, aa⟩ : ∃ a', a' = cc.put (some 12) (iv 0) := ⟨_, rfl⟩
 have bE := pz aa bB
 have dd := pd aa cY
 have eK := pn aa eB (by decide)
 have eL := pn aa eC (by decide)
 have eM := pn aa eD (by decide)
 have eN := pn aa eE (by decide)
 have eO := pn aa eF (by decide)
 have cj := pn aa eG (by decide)
 have eP := pn aa eH (by decide)
 have gP := pn aa cd (by decide)
 have gQ := pn aa ce (by decide)
 have eQ := pn aa cf (by decide)
 have eR : eJ.eval (.tmp 12) = iv 0 := by rw [aa]; exact put_same _ _ _ (by rw [bB]; decide)
 show stepsTo _ _ _ _ _ (cc.put (some 12) (iv 0)) _
 rw [← aa]
 refine st_nil (cX _ _ (wp_seq_k fun gR de => ?_))
 have bF : (decide (((joinV (cleanV (Vl.mk 5 0 0 false [] (asc ⟨#[97]⟩) 0)) (cleanV (Vl.mk 3 0 1 false [] [] 0))).2) = 0)) = true := by rw [join_a1]; rfl
 have gh := oT bF
 have df : (sameV ((joinV (cleanV (Vl.mk 5 0 0 false [] (asc ⟨#[97]⟩) 0)) (cleanV (Vl.mk 3 0 1 false [] [] 0))).1) (Vl.mk 5 0 0 false [] (asc ⟨#[97, 49]⟩) 0)) = true := by rw [join_a1]; decide +kernel
 refine wp_g0 (.replicate 49 true) [] 99
   [ve (iv ((joinV (cleanV (Vl.mk 5 0 0 false [] (asc ⟨#[97]⟩) 0)) (cleanV (Vl.mk 3 0 1 false [] [] 0))).2)), vT, vT, ve (vv (joinV (cleanV (Vl.mk 5 0 0 false [] (asc ⟨#[97]⟩) 0)) (cleanV (Vl.mk 3 0 1 false [] [] 0))).1 aH aI ba aJ), (fun (v_ : Value) (W : World) => ∃ (ap : Option Addr) (aq : Nat), v_ = vv (Vl.mk 5 0 0 false [] (asc ⟨#[97, 49]⟩) 0) none 0 ap aq ∧ SRow W .u16 ap (asc ⟨#[97, 49]⟩) aq), vT, vT, vT, ve (iv 1), vT, vT, vT, ve (iv 3), vT, vT, vT, ve (iv 2), vT, vT, vT, ve (iv 0), vT, vT, vT, ve (pv aR), ve (iv 2), vT, vT, vT, ve (.pointer (some ⟨aR, 6, none⟩)), ve (iv 1), vT, vT, vT, ve (iv 0), vT, vT, vT, ve (.pointer (some ⟨aS, 1, none⟩)), ve (.pointer (some ⟨aS, 1, none⟩)), ve (iv 1), vT, vT, vT, (fun (v_ : Value) (W : World) => ∃ (ar : Option Addr) (au : Nat), v_ = svT ar ([⟨#[43]⟩, ⟨#[45]⟩, ⟨#[42]⟩, ⟨#[47]⟩, ⟨#[37]⟩, ⟨#[38]⟩, ⟨#[124]⟩, ⟨#[94]⟩, ⟨#[60, 60]⟩, ⟨#[62, 62]⟩, ⟨#[62, 62, 62]⟩, ⟨#[60]⟩, ⟨#[62]⟩, ⟨#[60, 61]⟩, ⟨#[62, 61]⟩, ⟨#[61, 61]⟩, ⟨#[33, 61]⟩, ⟨#[61, 61, 61]⟩, ⟨#[33, 61, 61]⟩]) au ∧ TRow W ar ([⟨#[43]⟩, ⟨#[45]⟩, ⟨#[42]⟩, ⟨#[47]⟩, ⟨#[37]⟩, ⟨#[38]⟩, ⟨#[124]⟩, ⟨#[94]⟩, ⟨#[60, 60]⟩, ⟨#[62, 62]⟩, ⟨#[62, 62, 62]⟩, ⟨#[60]⟩, ⟨#[62]⟩, ⟨#[60, 61]⟩, ⟨#[62, 61]⟩, ⟨#[61, 61]⟩, ⟨#[33, 61]⟩, ⟨#[61, 61, 61]⟩, ⟨#[33, 61, 61]⟩]) au), (fun (v_ : Value) (W : World) => ∃ (av : Option Addr) (aw : Nat), v_ = svT av ([⟨#[43]⟩, ⟨#[45]⟩, ⟨#[42]⟩, ⟨#[47]⟩, ⟨#[37]⟩, ⟨#[38]⟩, ⟨#[124]⟩, ⟨#[94]⟩, ⟨#[60, 60]⟩, ⟨#[62, 62]⟩, ⟨#[62, 62, 62]⟩, ⟨#[60]⟩, ⟨#[62]⟩, ⟨#[60, 61]⟩, ⟨#[62, 61]⟩, ⟨#[61, 61]⟩, ⟨#[33, 61]⟩, ⟨#[61, 61, 61]⟩, ⟨#[33, 61, 61]⟩]) aw ∧ TRow W av ([⟨#[43]⟩, ⟨#[45]⟩, ⟨#[42]⟩, ⟨#[47]⟩, ⟨#[37]⟩, ⟨#[38]⟩, ⟨#[124]⟩, ⟨#[94]⟩, ⟨#[60, 60]⟩, ⟨#[62, 62]⟩, ⟨#[62, 62, 62]⟩, ⟨#[60]⟩, ⟨#[62]⟩, ⟨#[60, 61]⟩, ⟨#[62, 61]⟩, ⟨#[61, 61]⟩, ⟨#[33, 61]⟩, ⟨#[61, 61, 61]⟩, ⟨#[33, 61, 61]⟩]) aw), vT, vT, vT] bE (.eq (.eq (.eq (.eq (.cons (fun _ _ _ n ⟨_, _, e, h⟩ => ⟨_, _, e, h.new_ n⟩) (.eq (.eq (.eq (.eq (.eq (.eq (.eq (.eq (.eq (.eq (.eq (.eq (.eq (.eq (.eq (.eq (.eq (.eq (.eq (.eq (.eq (.eq (.eq (.eq (.eq (.eq (.eq (.eq (.eq (.eq (.eq (.eq (.eq (.eq (.eq (.eq (.eq (.eq (.eq (.cons (fun _ _ _ n ⟨_, _, e, h⟩ => ⟨_, _, e, h.new_ n⟩) (.cons (fun v W W' hn ⟨av, aw, he, h0⟩ => ⟨av, aw, he, h0.new_ hn⟩) (.eq (.eq (.eq (.nil)))))))))))))))))))))))))))))))))))))))))))))))))) ?_ ?_
 refine .m (fun k => k.fx 2 eL) <| .t (fun _ w hn k => ⟨_, v_bin rfl (k.eq1 0 51 rfl) rfl (fun _ => rfl) (r_eql bF), rfl⟩) <| .m (fun k => k.eq1 1 52 rfl) <| .g (fun k => k.eq1 2 53 rfl) (fun _ w hn k => ⟨_, v_load rfl (k.fx 1 eK) (l_agg Tryz.isAgg29 Tryz.sizeOf29 (db.new_ hn) rfl), rfl⟩) ?_
 refine .o1 (tkC rfl (onG rfl rfl fun _ _ k => k.eq1 2 53 rfl) rfl fun _ w hn k => (by
       refine ⟨#[.string ⟨#[97, 49]⟩], _, args1 rfl, fun w => by kernel_rfl, ostr_c ⟨#[97, 49]⟩ _ (by first | omega | (show (_ : Nat) ≤ _; decide)), ?_⟩
       rintro e w' ⟨eS, eT, rfl, hmo0, hm⟩
       exact ⟨_, rfl, hm, ⟨eS, eT, rfl, hmo0⟩⟩)) ?_
 refine .o1 (tkC rfl (onG rfl rfl fun _ _ k => k.eq1 2 53 rfl) rfl fun _ w hn k => (by
       obtain ⟨eU, eV, eW, dg⟩ : (fun (v_ : Value) (W : World) => ∃ (ap : Option Addr) (aq : Nat), v_ = vv (Vl.mk 5 0 0 false [] (asc ⟨#[97, 49]⟩) 0) none 0 ap aq ∧ SRow W .u16 ap (asc ⟨#[97, 49]⟩) aq) _ _ := k.dep 4 55 (by kernel_rfl) (by kernel_rfl)
       refine ⟨#[vv (joinV (cleanV (Vl.mk 5 0 0 false [] (asc ⟨#[97]⟩) 0)) (cleanV (Vl.mk 3 0 1 false [] [] 0))).1 aH aI ba aJ, vv (Vl.mk 5 0 0 false [] (asc ⟨#[97, 49]⟩) 0) none 0 eU eV], _, args2 (k.eq1 3 54 rfl) eW, fun w => by kernel_rfl, vsame_c ((joinV (cleanV (Vl.mk 5 0 0 false [] (asc ⟨#[97]⟩) 0)) (cleanV (Vl.mk 3 0 1 false [] [] 0))).1) _ _ _ _ (Vl.mk 5 0 0 false [] (asc ⟨#[97, 49]⟩) 0) _ _ _ _ _ (c9.new_ hn) (da.new_ hn) (SRow.nil _ _) dg, ?_⟩
       rintro e w' ⟨rfl, hm⟩
       exact ⟨_, rfl, hm, congrArg Value.bool df⟩)) ?_
 refine .t (fun _ w hn k => ⟨_, v_pickT rfl (k.eq1 2 53 rfl) (k.eq1 5 56 rfl), rfl⟩) <| .m (fun k => k.eq1 6 57 rfl) <| .gm (fun k => k.eq1 7 58 rfl) (fun k => k.fx 4 eM) <| .g (fun k => k.eq1 7 58 rfl) (fun _ w hn k => ⟨_, v_bin rfl (k.eq1 8 59 rfl) rfl (fun _ => rfl) (fun w => by kernel_rfl), rfl⟩) <| .t (fun _ w hn k => ⟨_, v_pickT rfl (k.eq1 7 58 rfl) (k.eq1 9 60 rfl), rfl⟩) <| .m (fun k => k.eq1 10 61 rfl) <| .gm (fun k => k.eq1 11 62 rfl) (fun k => k.fx 6 eN) <| .g (fun k => k.eq1 11 62 rfl) (fun _ w hn k => ⟨_, v_bin rfl (k.eq1 12 63 rfl) rfl (fun _ => rfl) (fun w => by kernel_rfl), rfl⟩) <| .t (fun _ w hn k => ⟨_, v_pickT rfl (k.eq1 11 62 rfl) (k.eq1 13 64 rfl), rfl⟩) <| .m (fun k => k.eq1 14 65 rfl) <| .gm (fun k => k.eq1 15 66 rfl) (fun k => k.fx 8 eO) <| .g (fun k => k.eq1 15 66 rfl) (fun _ w hn k => ⟨_, v_bin rfl (k.eq1 16 67 rfl) rfl (fun _ => rfl) (fun w => by kernel_rfl), rfl⟩) <| .t (fun _ w hn k => ⟨_, v_pickT rfl (k.eq1 15 66 rfl) (k.eq1 17 68 rfl), rfl⟩) <| .m (fun k => k.eq1 18 69 rfl) <| .gm (fun k => k.eq1 19 70 rfl) (fun k => k.fx 10 eP) <| .g (fun k => k.eq1 19 70 rfl) (fun _ w hn k => ⟨_, v_bin rfl (k.eq1 20 71 rfl) rfl (fun _ => rfl) (fun w => by kernel_rfl), rfl⟩) <| .t (fun _ w hn k => ⟨_, v_pickT rfl (k.eq1 19 70 rfl) (k.eq1 21 72 rfl), rfl⟩) <| .m (fun k => k.eq1 22 73 rfl) <| .gf (fun k => k.eq1 23 74 rfl) (fun k => k.fx 9 cj) <| .g (fun k => k.eq1 23 74 rfl) (fun _ w hn k => ⟨_, v_load rfl (k.eq1 24 75 rfl) (l_one Tryz.isAgg3 ((bD.new_ hn).cell 0)), rfl⟩) <| .g (fun k => k.eq1 23 74 rfl) (fun _ w hn k => ⟨_, v_bin rfl (k.eq1 25 76 rfl) rfl (fun _ => rfl) (fun w => by kernel_rfl), rfl⟩) <| .t (fun _ w hn k => ⟨_, v_pickT rfl (k.eq1 23 74 rfl) (k.eq1 26 77 rfl), rfl⟩) <| .m (fun k => k.eq1 27 78 rfl) <| .gf (fun k => k.eq1 28 79 rfl) (fun k => k.fx 9 cj) <| .g (fun k => k.eq1 28 79 rfl) (fun _ w hn k => ⟨_, v_load rfl (k.eq1 29 80 rfl) (l_one Tryz.isAgg3 ((bD.new_ hn).cell 6)), rfl⟩) <| .g (fun k => k.eq1 28 79 rfl) (fun _ w hn k => ⟨_, v_bin rfl (k.eq1 30 81 rfl) rfl (fun _ => rfl) (fun w => by kernel_rfl), rfl⟩) <| .t (fun _ w hn k => ⟨_, v_pickT rfl (k.eq1 28 79 rfl) (k.eq1 31 82 rfl), rfl⟩) <| .m (fun k => k.eq1 32 83 rfl) <| .gm (fun k => k.eq1 33 84 rfl) (fun k => k.fx 12 eR) <| .g (fun k => k.eq1 33 84 rfl) (fun _ w hn k => ⟨_, v_bin rfl (k.eq1 34 85 rfl) rfl (fun _ => rfl) (fun w => by kernel_rfl), rfl⟩) <| .t (fun _ w hn k => ⟨_, v_pickT rfl (k.eq1 33 84 rfl) (k.eq1 35 86 rfl), rfl⟩) <| .m (fun k => k.eq1 36 87 rfl) <| .gf (fun k => k.eq1 37 88 rfl) (fun k => k.fx 11 eQ) <| .gf (fun k => k.eq1 37 88 rfl) (fun k => k.eq1 38 89 rfl) <| .g (fun k => k.eq1 37 88 rfl) (fun _ w hn k => ⟨_, v_load rfl (k.eq1 39 90 rfl) (l_one Tryz.isAgg3 ((c7.new_ hn).cell 1)), rfl⟩) <| .g (fun k => k.eq1 37 88 rfl) (fun _ w hn k => ⟨_, v_bin rfl (k.eq1 40 91 rfl) rfl (fun _ => rfl) (fun w => by kernel_rfl), rfl⟩) <| .t (fun _ w hn k => ⟨_, v_pickT rfl (k.eq1 37 88 rfl) (k.eq1 41 92 rfl), rfl⟩) <| .m (fun k => k.eq1 42 93 rfl) ?_
 refine .o1 (tkC rfl (onG rfl rfl fun _ _ k => k.eq1 43 94 rfl) rfl fun _ w hn k => (by
       refine ⟨#[], _, rfl, fun w => by kernel_rfl, ops_c  _ , ?_⟩
       rintro e w' ⟨eX, eY, rfl, hmo0, hm⟩
       exact ⟨_, rfl, hm, ⟨eX, eY, rfl, hmo0⟩⟩)) ?_
 refine .o1 (tkC rfl (onG rfl rfl fun _ _ k => k.eq1 43 94 rfl) rfl fun _ w hn k => (by
       refine ⟨#[], _, rfl, fun w => by kernel_rfl, rops_c  _ , ?_⟩
       rintro e w' ⟨eZ, e0, rfl, hmo0, hm⟩
       exact ⟨_, rfl, hm, ⟨eZ, e0, rfl, hmo0⟩⟩)) ?_
 refine .o1 (tkC rfl (onG rfl rfl fun _ _ k => k.eq1 43 94 rfl) rfl fun _ w hn k => (by
       obtain ⟨e1, e2, e3, dh⟩ : (fun (v_ : Value) (W : World) => ∃ (ar : Option Addr) (au : Nat), v_ = svT ar ([⟨#[43]⟩, ⟨#[45]⟩, ⟨#[42]⟩, ⟨#[47]⟩, ⟨#[37]⟩, ⟨#[38]⟩, ⟨#[124]⟩, ⟨#[94]⟩, ⟨#[60, 60]⟩, ⟨#[62, 62]⟩, ⟨#[62, 62, 62]⟩, ⟨#[60]⟩, ⟨#[62]⟩, ⟨#[60, 61]⟩, ⟨#[62, 61]⟩, ⟨#[61, 61]⟩, ⟨#[33, 61]⟩, ⟨#[61, 61, 61]⟩, ⟨#[33, 61, 61]⟩]) au ∧ TRow W ar ([⟨#[43]⟩, ⟨#[45]⟩, ⟨#[42]⟩, ⟨#[47]⟩, ⟨#[37]⟩, ⟨#[38]⟩, ⟨#[124]⟩, ⟨#[94]⟩, ⟨#[60, 60]⟩, ⟨#[62, 62]⟩, ⟨#[62, 62, 62]⟩, ⟨#[60]⟩, ⟨#[62]⟩, ⟨#[60, 61]⟩, ⟨#[62, 61]⟩, ⟨#[61, 61]⟩, ⟨#[33, 61]⟩, ⟨#[61, 61, 61]⟩, ⟨#[33, 61, 61]⟩]) au) _ _ := k.dep 44 95 (by kernel_rfl) (by kernel_rfl)
       obtain ⟨e4, e5, e6, di⟩ : (fun (v_ : Value) (W : World) => ∃ (av : Option Addr) (aw : Nat), v_ = svT av ([⟨#[43]⟩, ⟨#[45]⟩, ⟨#[42]⟩, ⟨#[47]⟩, ⟨#[37]⟩, ⟨#[38]⟩, ⟨#[124]⟩, ⟨#[94]⟩, ⟨#[60, 60]⟩, ⟨#[62, 62]⟩, ⟨#[62, 62, 62]⟩, ⟨#[60]⟩, ⟨#[62]⟩, ⟨#[60, 61]⟩, ⟨#[62, 61]⟩, ⟨#[61, 61]⟩, ⟨#[33, 61]⟩, ⟨#[61, 61, 61]⟩, ⟨#[33, 61, 61]⟩]) aw ∧ TRow W av ([⟨#[43]⟩, ⟨#[45]⟩, ⟨#[42]⟩, ⟨#[47]⟩, ⟨#[37]⟩, ⟨#[38]⟩, ⟨#[124]⟩, ⟨#[94]⟩, ⟨#[60, 60]⟩, ⟨#[62, 62]⟩, ⟨#[62, 62, 62]⟩, ⟨#[60]⟩, ⟨#[62]⟩, ⟨#[60, 61]⟩, ⟨#[62, 61]⟩, ⟨#[61, 61]⟩, ⟨#[33, 61]⟩, ⟨#[61, 61, 61]⟩, ⟨#[33, 61, 61]⟩]) aw) _ _ := k.dep 45 96 (by kernel_rfl) (by kernel_rfl)
       refine ⟨#[svT e1 ([⟨#[43]⟩, ⟨#[45]⟩, ⟨#[42]⟩, ⟨#[47]⟩, ⟨#[37]⟩, ⟨#[38]⟩, ⟨#[124]⟩, ⟨#[94]⟩, ⟨#[60, 60]⟩, ⟨#[62, 62]⟩, ⟨#[62, 62, 62]⟩, ⟨#[60]⟩, ⟨#[62]⟩, ⟨#[60, 61]⟩, ⟨#[62, 61]⟩, ⟨#[61, 61]⟩, ⟨#[33, 61]⟩, ⟨#[61, 61, 61]⟩, ⟨#[33, 61, 61]⟩]) e2, svT e4 ([⟨#[43]⟩, ⟨#[45]⟩, ⟨#[42]⟩, ⟨#[47]⟩, ⟨#[37]⟩, ⟨#[38]⟩, ⟨#[124]⟩, ⟨#[94]⟩, ⟨#[60, 60]⟩, ⟨#[62, 62]⟩, ⟨#[62, 62, 62]⟩, ⟨#[60]⟩, ⟨#[62]⟩, ⟨#[60, 61]⟩, ⟨#[62, 61]⟩, ⟨#[61, 61]⟩, ⟨#[33, 61]⟩, ⟨#[61, 61, 61]⟩, ⟨#[33, 61, 61]⟩]) e5], _, args2 e3 e6, fun w => by kernel_rfl, texts_c _ ([⟨#[43]⟩, ⟨#[45]⟩, ⟨#[42]⟩, ⟨#[47]⟩, ⟨#[37]⟩, ⟨#[38]⟩, ⟨#[124]⟩, ⟨#[94]⟩, ⟨#[60, 60]⟩, ⟨#[62, 62]⟩, ⟨#[62, 62, 62]⟩, ⟨#[60]⟩, ⟨#[62]⟩, ⟨#[60, 61]⟩, ⟨#[62, 61]⟩, ⟨#[61, 61]⟩, ⟨#[33, 61]⟩, ⟨#[61, 61, 61]⟩, ⟨#[33, 61, 61]⟩]) _ _ ([⟨#[43]⟩, ⟨#[45]⟩, ⟨#[42]⟩, ⟨#[47]⟩, ⟨#[37]⟩, ⟨#[38]⟩, ⟨#[124]⟩, ⟨#[94]⟩, ⟨#[60, 60]⟩, ⟨#[62, 62]⟩, ⟨#[62, 62, 62]⟩, ⟨#[60]⟩, ⟨#[62]⟩, ⟨#[60, 61]⟩, ⟨#[62, 61]⟩, ⟨#[61, 61]⟩, ⟨#[33, 61]⟩, ⟨#[61, 61, 61]⟩, ⟨#[33, 61, 61]⟩]) _ _ dh di rfl, ?_⟩
       rintro e w' ⟨rfl, hm⟩
       exact ⟨_, rfl, hm, rfl⟩)) ?_
 exact .t (fun _ w hn k => ⟨_, v_pickT rfl (k.eq1 43 94 rfl) (k.eq1 46 97 rfl), rfl⟩) <| .a (fun k => k.eq1 47 98 rfl) .nil
 refine aftI bE dd dc fun gS gT gp dj dk gq dl => ?_
 have e8 := dl.ge 48 0 rfl
 refine st_nil (de _ _ ?_)
 refine wp_ret (ret_k dj (v := .bool true) (res_t rfl e8 _) ?_)
 exact ⟨rfl, dk⟩
def IsTextD (xs : List Int) (w : World) (e : Ending) (w' : World) : Prop := e = .returned (.string (strOfNums xs)) ∧ New w w'
theorem strOf_app (a b : List Int) : strOfNums a ++ strOfNums b = strOfNums (a ++ b) := by
  apply ByteArray.ext
  simp [strOfNums]
theorem textI_small {n : Int} (h0 : 0 ≤ n) (h : n < 10) : textI n = [48 + n] := by
  unfold textI
  by_cases hz : n = 0
  · subst hz; rfl
  · rw [if_neg hz, if_neg (by omega), digs_one (by omega) (by omega)]
    simp [letter]; omega
theorem textI_big {n : Int} (h : 10 ≤ n) : textI n = textI (n.tdiv 10) ++ [48 + n.tmod 10] := by
  have hd : n.tdiv 10 = n / 10 := Int.tdiv_eq_ediv_of_nonneg (by omega)
  have hm : n.tmod 10 = n % 10 := Int.tmod_eq_emod_of_nonneg (by omega)
  rw [hd, hm]
  unfold textI
  rw [if_neg (by omega), if_neg (by omega), if_neg (by omega), if_neg (by omega), digs_pos (n := n.natAbs) (by omega), show (n / 10).natAbs = n.natAbs / 10 by omega]
  simp [letter]; omega
theorem td_neg (m : Nat) : (-(m : Int)).tdiv 10 = -((m / 10 : Nat) : Int) := by rw [Int.neg_tdiv]; rfl
theorem tm_neg (m : Nat) : (-(m : Int)).tmod 10 = -((m % 10 : Nat) : Int) := by rw [Int.neg_tmod]; rfl
theorem textI_neg1 {n : Int} (h0 : n < 0) (h : n.tdiv 10 = 0) : textI n = [45] ++ [48 - n.tmod 10] := by
  obtain ⟨m, rfl⟩ : ∃ m : Nat, n = -(m : Int) := ⟨n.natAbs, by omega⟩
  rw [td_neg] at h
  unfold textI
  rw [if_neg (by omega), if_pos h0, digs_one (by omega) (by omega), tm_neg]
  simp [letter]; omega
theorem textI_neg2 {n : Int} (h0 : n < 0) (h : n.tdiv 10 ≠ 0) : textI n = [45] ++ textI (-(n.tdiv 10)) ++ [48 - n.tmod 10] := by
  obtain ⟨m, rfl⟩ : ∃ m : Nat, n = -(m : Int) := ⟨n.natAbs, by omega⟩
  rw [td_neg] at h ⊢
  rw [tm_neg, Int.neg_neg]
  unfold textI
  rw [if_neg (by omega), if_pos h0, if_neg (by omega), if_neg (by omega), digs_pos (n := (-(m : Int)).natAbs) (by omega), show (-(m : Int)).natAbs = m by omega, show (((m / 10 : Nat) : Int)).natAbs = m / 10 by omega]
  simp [letter]
theorem tmod_nn {n : Int} (h : 0 ≤ n) : 0 ≤ n.tmod 10 ∧ n.tmod 10 < 10 := by rw [Int.tmod_eq_emod_of_nonneg h]; omega
theorem tmod_np {n : Int} (h : n ≤ 0) : -10 < n.tmod 10 ∧ n.tmod 10 ≤ 0 := by
  obtain ⟨m, rfl⟩ : ∃ m : Nat, n = -(m : Int) := ⟨n.natAbs, by omega⟩
  rw [tm_neg]; omega
theorem tdiv_nn {n : Int} (h : 0 ≤ n) : n.tdiv 10 = n / 10 := Int.tdiv_eq_ediv_of_nonneg h
theorem r_quo {t : TypeId} {x y r : Int} (h : x.tdiv y = r) (hy : y ≠ 0) (hr : -9223372036854775808 ≤ r ∧ r ≤ 9223372036854775807) : ∀ w, (binOp .quo t (.int .i64 x) (.int .i64 y)).run Tryz.prog w = .ok (.int .i64 r) w := by
  intro w; simp [binOp, Op.intDiv, h, hy, IntWalk.i64_in r hr]
theorem r_rem {t : TypeId} {x y r : Int} (h : x.tmod y = r) (hy : y ≠ 0) (hr : -9223372036854775808 ≤ r ∧ r ≤ 9223372036854775807) : ∀ w, (binOp .rem t (.int .i64 x) (.int .i64 y)).run Tryz.prog w = .ok (.int .i64 r) w := by
  intro w; simp [binOp, Op.intDiv, h, hy, IntWalk.i64_in r hr]
section
variable {P : Program} {ops : Array Oper} {Q : Exit → Act → World → Prop} {S : World → Prop} {o : Oper} {a : Act}
theorem y_conv {s d : TypeId} {x : Operand} {u v : Value} (ho : o.op = .convert s d x) (hx : a.eval x = u) {w : World} (h : (convert s d u).run P w = .ok v w) : (execOp a.eval o).run P w = .ok (.value v) w := by
  simp [execOp, ho, hx, h]
theorem y_adds {t t' : TypeId} {x y : Operand} {s s' : ByteArray} (ho : o.op = .binOp .add t x y t') (hx : a.eval x = .string s) (hy : a.eval y = .string s') (hl : s.size + s'.size ≤ 9223372036854775807) {w : World} : (execOp a.eval o).run P w = .ok (.value (.string (s ++ s'))) w := by
  simp [execOp, ho, hx, hy, binOp, eqGuard, Op.stringOp]; omega
theorem y_build {t e : TypeId} {parts : Array (Nat × Operand)} {len : Nat} {vs : List Value} {w : World} (ho : o.op = .buildSlice t len parts) (h : (Instr.buildSlice t len (parts.map fun (i, x) => (i, a.eval x))).run P w = .ok (.slice (some ⟨w.heap.size, 0, none⟩) len len) (w.alloc (.cells vs.toArray e))) :
    (execOp a.eval o).run P w = .ok (.value (.slice (some ⟨w.heap.size, 0, none⟩) len len)) (w.alloc (.cells vs.toArray e)) := by
  simp [execOp, ho, h]
theorem y_negi {t : TypeId} {x : Operand} {m : Int} (ho : o.op = .unOp .neg t x) (hx : a.eval x = .int .i64 m) (hr : -9223372036854775808 ≤ -m ∧ -m ≤ 9223372036854775807) {w : World} : (execOp a.eval o).run P w = .ok (.value (.int .i64 (-m))) w := by
  simp [execOp, ho, hx, Op.unary, Op.intArith, IntWalk.i64_in (-m) hr]
theorem step_new {T : Nat → Value → World → Prop} {F : Array Bool} {a0 : Act} {w0 : World} {i : Nat} {o : Oper} (hi : ops.toList[i]? = some o) (hg : o.guard = none)
    (h : ∀ a w, New w0 w → Known ops F T a0 i a w → ∃ v ob, (execOp a.eval o).run P w = .ok (.value v) (w.alloc ob) ∧ T i v (w.alloc ob)) : StepOk P ops Q F T a0 w0 i := by
  refine ⟨o, hi, fun a w hw hk => ?_⟩
  obtain ⟨v, ob, hrun, hT⟩ := h a w hw hk
  have hi' : ops[i]? = some o := by rw [← Array.getElem?_toList]; exact hi
  have hwt : Region.wanted o (yielded ops a.tmps) = true := by simp [Region.wanted, hg]
  unfold wpOp
  simp only [hi', hwt, if_true, Oper.wp, hrun, Oper.upon]
  exact .inl ⟨_, rfl, (Upd.refl _ _).alloc _, hT⟩
end
set_option maxRecDepth 100000 in
theorem run_build1 (v : Int) (w : World) : (Instr.buildSlice 77 1 #[(0, .int .u8 v)]).run Tryz.prog w = .ok (.slice (some ⟨w.heap.size, 0, none⟩) 1 1) (w.alloc (.cells #[.int .u8 v] 5)) :=
  run_buildSlice w 77 5 1 _ _ _ (.int .u8 0) Tryz.underlying77 rfl (by kernel_rfl) (by decide +kernel) (by decide +kernel) (by kernel_rfl)
theorem run_str1 (v : Int) (q : Nat) (w : World) (h : Blk w q 5 [.int .u8 v]) : (convert 77 9 (.slice (some ⟨q, 0, none⟩) 1 1)).run Tryz.prog w = .ok (.string (strOfNums [v])) w :=
  run_convert_bytes_arg w 77 5 Tryz.underlying77 Tryz.underlying5 q 0 1 1 [v] rfl (fun i hi => by
    obtain rfl : i = 0 := by omega
    exact h.cell 0) 9 Tryz.underlying9
theorem run_byte (v : Int) (h : 0 ≤ v ∧ v < 256) (w : World) : (convert 3 5 (.int .i64 v)).run Tryz.prog w = .ok (.int .u8 v) w := by
  rw [run_convert_int (src := 3) (dst := 5) (k := .i64) (n := v) (hs := by rw [Tryz.underlying3]; rfl) (hd := by rw [Tryz.underlying5]; kernel_rfl)]
  have e : Tryz.prog.intKind 5 = .u8 := by kernel_rfl
  rw [e, IntWalk.u8_in v (by omega)]
theorem textI_len {n : Int} (h1 : -9223372036854775808 ≤ n) (h2 : n ≤ 9223372036854775807) : (strOfNums (textI n)).size ≤ 100 := by
  rw [strOfNums_size]
  have h := digs_len (n := n.natAbs) (k := 19) (by omega)
  unfold textI
  split
  · simp
  · split <;> simp <;> omega
def IsByte (v : Value) (c : Int) (w : World) : Prop := ∃ q, v = .slice (some ⟨q, 0, none⟩) 1 1 ∧ Blk w q 5 [.int .u8 c]
theorem IsByte.new_ {v : Value} {c : Int} {w w' : World} (h : IsByte v c w) (hn : New w w') : IsByte v c w' := by
  obtain ⟨q, he, hb⟩ := h; exact ⟨q, he, hb.new_ hn⟩
def TDec (vs : List Value) (k : Nat) (c : Int) (i : Nat) (v : Value) (w : World) : Prop := if i = k then IsByte v c w else v = vs.getD i undef
theorem TDec.new_ {vs : List Value} {k : Nat} {c : Int} (i : Nat) (v : Value) (w w' : World) (hn : New w w') (h : TDec vs k c i v w) : TDec vs k c i v w' := by
  unfold TDec at *
  split
  · rename_i hik; rw [if_pos hik] at h; exact h.new_ hn
  · rename_i hik; rw [if_neg hik] at h; exact h
theorem TDec.eq {vs : List Value} {k : Nat} {c : Int} {i : Nat} {v : Value} {w : World} (h : TDec vs k c i v w) (hik : (i == k) = false) : v = vs.getD i undef := by
  unfold TDec at h
  rw [if_neg (by simpa using hik)] at h
  exact h
theorem TDec.byte {vs : List Value} {k : Nat} {c : Int} {v : Value} {w : World} (h : TDec vs k c k v w) : IsByte v c w := by
  unfold TDec at h
  rw [if_pos rfl] at h
  exact h
theorem TDec.mk {vs : List Value} {k : Nat} {c : Int} {i : Nat} {w : World} (hik : (i == k) = false) : TDec vs k c i (vs.getD i undef) w := by
  unfold TDec
  rw [if_neg (by simpa using hik)]
set_option maxHeartbeats 1600000 in
set_option maxRecDepth 100000 in
theorem dec_step (n : Int) (w : World) (h1 : -9223372036854775808 ≤ n) (h2 : n ≤ 9223372036854775807)
    (ih : ∀ (k : Int) (w : World), k.natAbs < n.natAbs → -9223372036854775808 ≤ k → k ≤ 9223372036854775807 → Calls Tryz.prog 19 #[.int .i64 k] w (IsTextD (textI k) w)) :
    Calls Tryz.prog 19 #[.int .i64 n] w (IsTextD (textI n) w) := by
  have IH := hide ih
  clear ih
  have HT := hide (textI_len h1 h2)
  by_cases hneg : n < 0
  · by_cases hs : n.tdiv 10 = 0
    · rw [textI_neg1 hneg hs]
      have hm := tmod_np (n := n) (by omega)
      have hq := hide hs
      have hq0 : (n.tdiv 10 == 0) = true := by simpa using hs
      have hw1 : wrap64 (48 - n.tmod 10) = 48 - n.tmod 10 := by unfold wrap64; omega
      have hw2 : (48 - n.tmod 10) % 256 = 48 - n.tmod 10 := by omega
      have hconv := run_str1 (48 - n.tmod 10) w.heap.size (w.alloc (.cells #[.int .u8 (48 - n.tmod 10)] 5)) (Blk.new w _ [_])
      have hsz : (strOfNums [48 - n.tmod 10]).size = 1 := rfl
      have hadd := hide (strOf_app [45] [48 - n.tmod 10])
      clear hm hs HT
      go_enter Tryz.func19, Tryz.ntmps19
      go_wp2
      go_ret
      exact ⟨congrArg (fun s => Ending.returned (.string s)) hadd.out, (Upd.refl _ _).alloc _⟩
    · have ht := hide (textI_neg2 hneg hs)
      have hm := tmod_np (n := n) (by omega)
      obtain ⟨d, hde⟩ : ∃ d, d = n.tdiv 10 := ⟨_, rfl⟩
      have hq0 : (n.tdiv 10 == 0) = false := by simpa using hs
      have hd1 : (-d).natAbs < n.natAbs ∧ -9223372036854775808 ≤ -d ∧ -d ≤ 9223372036854775807 ∧ -9223372036854775808 ≤ d ∧ d ≤ 9223372036854775807 := by
        obtain ⟨m, rfl⟩ : ∃ m : Nat, n = -(m : Int) := ⟨n.natAbs, by omega⟩
        rw [td_neg] at hde
        omega
      have Hd := hide hde
      have hlen := hide (textI_len hd1.2.1 hd1.2.2.1)
      clear hde hs
      go_enter Tryz.func19, Tryz.ntmps19
      go_wp2_with fail
      refine wp_region_inv [true, true, true, true, true, true, true, true, true, true, true, true, false] [] [(12, true)] 44
        (TDec [.int .i64 n, .int .i64 d, .int .i64 (-d), .string (strOfNums (textI (-d))), .string (strOfNums ([45] ++ textI (-d))), .int .i64 n, .int .i64 (n.tmod 10), .int .i64 (48 - n.tmod 10), .int .u8 (48 - n.tmod 10), undef, .string (strOfNums [48 - n.tmod 10]), .string (strOfNums (textI n))] 9 (48 - n.tmod 10))
        (by kernel_rfl) (by kernel_rfl) rfl (fun _ _ d _ _ h => by cases d <;> exact h) TDec.new_ ?_ (fun i h => by simp at h) ?_
      · intro i hF _
        match i with
        | 0 => exact step_take rfl rfl fun ac w hw hk => ⟨_, y_move (S := fun _ => True) rfl ((hk.fix 0 (by kernel_rfl)).trans rfl) w trivial, .mk rfl⟩
        | 1 => exact step_take rfl rfl fun ac w hw hk => ⟨_, y_bin (S := fun _ => True) rfl ((hk.dep 0 15 (by kernel_rfl) (by kernel_rfl)).eq rfl) rfl (r_quo Hd.out.symm (by omega) (by omega)) w trivial, .mk rfl⟩
        | 2 => exact step_take rfl rfl fun ac w hw hk => ⟨_, y_negi rfl ((hk.dep 1 16 (by kernel_rfl) (by kernel_rfl)).eq rfl) (by omega), .mk rfl⟩
        | 3 =>
          refine step_call rfl rfl rfl fun ac w hw hk => ?_
          have h1 := (hk.dep 2 17 (by kernel_rfl) (by kernel_rfl)).eq rfl
          refine ⟨#[.int .i64 (-d)], _, ?_, fun w => by kernel_rfl, IH.out (-d) w hd1.1 hd1.2.1 hd1.2.2.1, ?_⟩
          · show [ac.eval (.tmp 17)] = _; rw [h1]; rfl
          · rintro e w' ⟨rfl, hn⟩; exact ⟨_, rfl, hn, .mk rfl⟩
        | 4 =>
          refine step_take rfl rfl fun ac w hw hk => ?_
          have h1 : ac.eval (.tmp 18) = .string (strOfNums (textI (-d))) := (hk.dep 3 18 (by kernel_rfl) (by kernel_rfl)).eq rfl
          refine ⟨.string (strOfNums ([45] ++ textI (-d))), ?_, .mk rfl⟩
          rw [← strOf_app]
          exact y_adds rfl rfl h1 (by have := hlen.out; have : (strOfNums [45]).size = 1 := rfl; omega)
        | 5 => exact step_take rfl rfl fun ac w hw hk => ⟨_, y_move (S := fun _ => True) rfl ((hk.fix 0 (by kernel_rfl)).trans rfl) w trivial, .mk rfl⟩
        | 6 => exact step_take rfl rfl fun ac w hw hk => ⟨_, y_bin (S := fun _ => True) rfl ((hk.dep 5 20 (by kernel_rfl) (by kernel_rfl)).eq rfl) rfl (r_rem rfl (by omega) (by omega)) w trivial, .mk rfl⟩
        | 7 => exact step_take rfl rfl fun ac w hw hk => ⟨_, y_bin (S := fun _ => True) rfl rfl ((hk.dep 6 21 (by kernel_rfl) (by kernel_rfl)).eq rfl) (r_sub rfl (by omega)) w trivial, .mk rfl⟩
        | 8 => exact step_take rfl rfl fun ac w hw hk => ⟨_, y_conv rfl ((hk.dep 7 22 (by kernel_rfl) (by kernel_rfl)).eq rfl) (run_byte _ (by omega) w), .mk rfl⟩
        | 9 =>
          refine step_new rfl rfl fun ac w hw hk => ?_
          have h1 : ac.eval (.tmp 23) = .int .u8 (48 - n.tmod 10) := (hk.dep 8 23 (by kernel_rfl) (by kernel_rfl)).eq rfl
          refine ⟨_, _, y_build (vs := [.int .u8 (48 - n.tmod 10)]) rfl ?_, ⟨_, rfl, Blk.new w _ _⟩⟩
          simp only [List.map_toArray, List.map_cons, List.map_nil, h1]
          exact run_build1 _ w
        | 10 =>
          refine step_take rfl rfl fun ac w hw hk => ?_
          obtain ⟨q, h1, hb⟩ := (hk.dep 9 24 (by kernel_rfl) (by kernel_rfl)).byte
          exact ⟨_, y_conv rfl h1 (run_str1 _ q w hb), .mk rfl⟩
        | 11 =>
          refine step_take rfl rfl fun ac w hw hk => ?_
          have h1 : ac.eval (.tmp 19) = .string (strOfNums ([45] ++ textI (-d))) := (hk.dep 4 19 (by kernel_rfl) (by kernel_rfl)).eq rfl
          have h2 : ac.eval (.tmp 25) = .string (strOfNums [48 - n.tmod 10]) := (hk.dep 10 25 (by kernel_rfl) (by kernel_rfl)).eq rfl
          have h3 : strOfNums (textI n) = strOfNums ([45] ++ textI (-d)) ++ strOfNums [48 - n.tmod 10] := by rw [strOf_app, Hd.out, ← ht.out]
          refine ⟨.string (strOfNums (textI n)), ?_, .mk rfl⟩
          rw [h3]
          exact y_adds rfl h1 h2 (by have := hlen.out; have : (strOfNums [48 - n.tmod 10]).size = 1 := rfl; simp only [strOfNums_size] at *; simp; omega)
        | 12 => cases hF
        | _ + 13 => cases hF
      · intro vals w1 hn hTl
        have hv0 : vals 0 = .int .i64 n := (hTl 0 rfl).eq rfl
        have hv1 : vals 1 = .int .i64 d := (hTl 1 rfl).eq rfl
        have hv2 : vals 2 = .int .i64 (-d) := (hTl 2 rfl).eq rfl
        have hv3 : vals 3 = .string (strOfNums (textI (-d))) := (hTl 3 rfl).eq rfl
        have hv4 : vals 4 = .string (strOfNums ([45] ++ textI (-d))) := (hTl 4 rfl).eq rfl
        have hv5 : vals 5 = .int .i64 n := (hTl 5 rfl).eq rfl
        have hv6 : vals 6 = .int .i64 (n.tmod 10) := (hTl 6 rfl).eq rfl
        have hv7 : vals 7 = .int .i64 (48 - n.tmod 10) := (hTl 7 rfl).eq rfl
        have hv8 : vals 8 = .int .u8 (48 - n.tmod 10) := (hTl 8 rfl).eq rfl
        obtain ⟨q, hv9, -⟩ := (hTl 9 rfl).byte
        have hv10 : vals 10 = .string (strOfNums [48 - n.tmod 10]) := (hTl 10 rfl).eq rfl
        have hv11 : vals 11 = .string (strOfNums (textI n)) := (hTl 11 rfl).eq rfl
        clear hTl
        simp only [putL, Act.put, List.setIfInBounds_toArray, List.set_cons_zero, List.set_cons_succ, hv0, hv1, hv2, hv3, hv4, hv5, hv6, hv7, hv8, hv9, hv10, hv11]
        clear hv0 hv1 hv2 hv3 hv4 hv5 hv6 hv7 hv8 hv9 hv10 hv11 hm hd1
        refine st_take (a' := ?_) rfl rfl (y_assign (v := .string (strOfNums (textI n))) rfl rfl) ?_ ?_
        rotate_left; (simp only [Act.put, List.setIfInBounds_toArray, List.set_cons_zero, List.set_cons_succ]; rfl)
        refine st_nil ?_
        go_wp2
        go_ret
        exact ⟨rfl, hn⟩
  · by_cases hs : n < 10
    · rw [textI_small (by omega) hs]
      have hconv := run_str1 (48 + n) w.heap.size (w.alloc (.cells #[.int .u8 (48 + n)] 5)) (Blk.new w _ [_])
      have hl : 0 ≤ n := by omega
      clear HT
      go_enter Tryz.func19, Tryz.ntmps19
      go_wp2
      go_ret
      exact ⟨rfl, (Upd.refl _ _).alloc _⟩
    · have ht := hide (textI_big (n := n) (by omega))
      have hm := tmod_nn (n := n) (by omega)
      have hd := tdiv_nn (n := n) (by omega)
      obtain ⟨d, hde⟩ : ∃ d, d = n.tdiv 10 := ⟨_, rfl⟩
      rw [← hde] at hd
      have Hd := hide hde
      have hd1 : d.natAbs < n.natAbs ∧ -9223372036854775808 ≤ d ∧ d ≤ 9223372036854775807 := by omega
      have hlen := hide (textI_len hd1.2.1 hd1.2.2)
      have hl : 10 ≤ n := by omega
      clear hd hde
      go_enter Tryz.func19, Tryz.ntmps19
      go_wp2_with fail
      refine wp_region_inv [true, true, true, true, true, true, true, true, true, true, false] [] [(10, true)] 44
        (TDec [.int .i64 n, .int .i64 d, .string (strOfNums (textI d)), .int .i64 n, .int .i64 (n.tmod 10), .int .i64 (48 + n.tmod 10), .int .u8 (48 + n.tmod 10), undef, .string (strOfNums [48 + n.tmod 10]), .string (strOfNums (textI n))] 7 (48 + n.tmod 10))
        (by kernel_rfl) (by kernel_rfl) rfl (fun _ _ d _ _ h => by cases d <;> exact h) TDec.new_ ?_ (fun i h => by simp at h) ?_
      · intro i hF _
        match i with
        | 0 => exact step_take rfl rfl fun ac w hw hk => ⟨_, y_move (S := fun _ => True) rfl ((hk.fix 0 (by kernel_rfl)).trans rfl) w trivial, .mk rfl⟩
        | 1 => exact step_take rfl rfl fun ac w hw hk => ⟨_, y_bin (S := fun _ => True) rfl ((hk.dep 0 34 (by kernel_rfl) (by kernel_rfl)).eq rfl) rfl (r_quo Hd.out.symm (by omega) (by omega)) w trivial, .mk rfl⟩
        | 2 =>
          refine step_call rfl rfl rfl fun ac w hw hk => ?_
          have h1 := (hk.dep 1 35 (by kernel_rfl) (by kernel_rfl)).eq rfl
          refine ⟨#[.int .i64 d], _, ?_, fun w => by kernel_rfl, IH.out d w hd1.1 hd1.2.1 hd1.2.2, ?_⟩
          · show [ac.eval (.tmp 35)] = _; rw [h1]; rfl
          · rintro e w' ⟨rfl, hn⟩; exact ⟨_, rfl, hn, .mk rfl⟩
        | 3 => exact step_take rfl rfl fun ac w hw hk => ⟨_, y_move (S := fun _ => True) rfl ((hk.fix 0 (by kernel_rfl)).trans rfl) w trivial, .mk rfl⟩
        | 4 => exact step_take rfl rfl fun ac w hw hk => ⟨_, y_bin (S := fun _ => True) rfl ((hk.dep 3 37 (by kernel_rfl) (by kernel_rfl)).eq rfl) rfl (r_rem rfl (by omega) (by omega)) w trivial, .mk rfl⟩
        | 5 => exact step_take rfl rfl fun ac w hw hk => ⟨_, y_bin (S := fun _ => True) rfl rfl ((hk.dep 4 38 (by kernel_rfl) (by kernel_rfl)).eq rfl) (r_add rfl (by omega)) w trivial, .mk rfl⟩
        | 6 => exact step_take rfl rfl fun ac w hw hk => ⟨_, y_conv rfl ((hk.dep 5 39 (by kernel_rfl) (by kernel_rfl)).eq rfl) (run_byte _ (by omega) w), .mk rfl⟩
        | 7 =>
          refine step_new rfl rfl fun ac w hw hk => ?_
          have h1 : ac.eval (.tmp 40) = .int .u8 (48 + n.tmod 10) := (hk.dep 6 40 (by kernel_rfl) (by kernel_rfl)).eq rfl
          refine ⟨_, _, y_build (vs := [.int .u8 (48 + n.tmod 10)]) rfl ?_, ⟨_, rfl, Blk.new w _ _⟩⟩
          simp only [List.map_toArray, List.map_cons, List.map_nil, h1]
          exact run_build1 _ w
        | 8 =>
          refine step_take rfl rfl fun ac w hw hk => ?_
          obtain ⟨q, h1, hb⟩ := (hk.dep 7 41 (by kernel_rfl) (by kernel_rfl)).byte
          exact ⟨_, y_conv rfl h1 (run_str1 _ q w hb), .mk rfl⟩
        | 9 =>
          refine step_take rfl rfl fun ac w hw hk => ?_
          have h1 : ac.eval (.tmp 36) = .string (strOfNums (textI d)) := (hk.dep 2 36 (by kernel_rfl) (by kernel_rfl)).eq rfl
          have h2 : ac.eval (.tmp 42) = .string (strOfNums [48 + n.tmod 10]) := (hk.dep 8 42 (by kernel_rfl) (by kernel_rfl)).eq rfl
          have h3 : strOfNums (textI n) = strOfNums (textI d) ++ strOfNums [48 + n.tmod 10] := by rw [strOf_app, Hd.out, ← ht.out]
          refine ⟨.string (strOfNums (textI n)), ?_, .mk rfl⟩
          rw [h3]
          exact y_adds rfl h1 h2 (by have := hlen.out; have : (strOfNums [48 + n.tmod 10]).size = 1 := rfl; omega)
        | 10 => cases hF
        | _ + 11 => cases hF
      · intro vals w1 hn hTl
        have hv0 : vals 0 = .int .i64 n := (hTl 0 rfl).eq rfl
        have hv1 : vals 1 = .int .i64 d := (hTl 1 rfl).eq rfl
        have hv2 : vals 2 = .string (strOfNums (textI d)) := (hTl 2 rfl).eq rfl
        have hv3 : vals 3 = .int .i64 n := (hTl 3 rfl).eq rfl
        have hv4 : vals 4 = .int .i64 (n.tmod 10) := (hTl 4 rfl).eq rfl
        have hv5 : vals 5 = .int .i64 (48 + n.tmod 10) := (hTl 5 rfl).eq rfl
        have hv6 : vals 6 = .int .u8 (48 + n.tmod 10) := (hTl 6 rfl).eq rfl
        obtain ⟨q, hv7, -⟩ := (hTl 7 rfl).byte
        have hv8 : vals 8 = .string (strOfNums [48 + n.tmod 10]) := (hTl 8 rfl).eq rfl
        have hv9 : vals 9 = .string (strOfNums (textI n)) := (hTl 9 rfl).eq rfl
        clear hTl
        simp only [putL, Act.put, List.setIfInBounds_toArray, List.set_cons_zero, List.set_cons_succ, hv0, hv1, hv2, hv3, hv4, hv5, hv6, hv7, hv8, hv9]
        clear hv0 hv1 hv2 hv3 hv4 hv5 hv6 hv7 hv8 hv9 hm hd1 hl
        refine st_take (a' := ?_) rfl rfl (y_assign (v := .string (strOfNums (textI n))) rfl rfl) ?_ ?_
        rotate_left; (simp only [Act.put, List.setIfInBounds_toArray, List.set_cons_zero, List.set_cons_succ]; rfl)
        refine st_nil ?_
        go_wp2
        go_ret
        exact ⟨rfl, hn⟩
theorem dec_any (n : Int) (w : World) (h1 : -9223372036854775808 ≤ n) (h2 : n ≤ 9223372036854775807) : Calls Tryz.prog 19 #[.int .i64 n] w (IsTextD (textI n) w) := by
  obtain ⟨m, hm⟩ : ∃ m, m = n.natAbs := ⟨_, rfl⟩
  induction m using Nat.strongRecOn generalizing n w with
  | ind m ih => exact dec_step n w h1 h2 fun k w' hk g1 g2 => ih k.natAbs (by omega) k w' g1 g2 rfl

def plusS_c_P (a : List Nat) (b : List Nat) (w : World) (en : Ending) (w' : World) : Prop := ∃ (A : Option Addr) (c : Nat) (B : Option Addr) (d : Nat), en = .returned (.tuple #[vv (strV (a ++ b)) A c B d, iv 0]) ∧ SRow w' .u32 A (strV (a ++ b)).mag c ∧ SRow w' .u16 B (strV (a ++ b)).s d ∧ New w w'
theorem plusS_c (a : List Nat) (b : List Nat) (A0 : Option Addr) (c0 : Nat) (B0 : Option Addr) (d0 : Nat) (A1 : Option Addr) (c1 : Nat) (B1 : Option Addr) (d1 : Nat) (w : World) (hm0 : SRow w .u32 A0 (strV a).mag c0) (hs0 : SRow w .u16 B0 (strV a).s d0) (hm1 : SRow w .u32 A1 (strV b).mag c1) (hs1 : SRow w .u16 B1 (strV b).s d1) (ha : U16s a) (hb : U16s b) (hl : a.length + b.length ≤ 4096) (HT : ItoaOk w) : Calls Tryz.prog 12 #[.string ⟨#[43]⟩, vv (strV a) A0 c0 B0 d0, vv (strV b) A1 c1 B1 d1] w (plusS_c_P a b w) := by
  have h := binT_c (strV a) A0 c0 B0 d0 (strV b) A1 c1 B1 d1 w hm0 hs0 hm1 hs1 (VOk.str4 ha (by omega)) (VOk.str4 hb (by omega)) (by rw [str_clean]; rfl) HT
  unfold binT_c_P at h
  rw [join_str hl] at h
  exact h
def plusN_c_P (a : List Nat) (n : Int) (w : World) (en : Ending) (w' : World) : Prop := ∃ (A : Option Addr) (c : Nat) (B : Option Addr) (d : Nat), en = .returned (.tuple #[vv (strV (a ++ asc (strOfNums (textI n)))) A c B d, iv 0]) ∧ SRow w' .u32 A (strV (a ++ asc (strOfNums (textI n)))).mag c ∧ SRow w' .u16 B (strV (a ++ asc (strOfNums (textI n)))).s d ∧ New w w'
theorem plusN_c (a : List Nat) (n : Int) (A0 : Option Addr) (c0 : Nat) (B0 : Option Addr) (d0 : Nat) (A1 : Option Addr) (c1 : Nat) (B1 : Option Addr) (d1 : Nat) (w : World) (hm0 : SRow w .u32 A0 (strV a).mag c0) (hs0 : SRow w .u16 B0 (strV a).s d0) (hm1 : SRow w .u32 A1 [] c1) (hs1 : SRow w .u16 B1 [] d1) (ha : U16s a) (hl : a.length ≤ 4000) (h1 : -9007199254740991 ≤ n) (h2 : n ≤ 9007199254740991) (HT : ItoaOk w) : Calls Tryz.prog 12 #[.string ⟨#[43]⟩, vv (strV a) A0 c0 B0 d0, vv (Vl.mk 3 0 n false [] [] 0) A1 c1 B1 d1] w (plusN_c_P a n w) := by
  have h := binT_c (strV a) A0 c0 B0 d0 (Vl.mk 3 0 n false [] [] 0) A1 c1 B1 d1 w hm0 hs0 hm1 hs1 (VOk.str4 ha (by omega)) (VOk.whole (by omega) (by omega)) (by rw [str_clean]; rfl) HT
  unfold binT_c_P at h
  rw [join_whole hl h1 h2] at h
  exact h
def plusX_c_P (a : List Nat) (s : ByteArray) (w : World) (en : Ending) (w' : World) : Prop := ∃ (A : Option Addr) (c : Nat) (B : Option Addr) (d : Nat), en = .returned (.tuple #[vv (strV (a ++ asc s)) A c B d, iv 0]) ∧ SRow w' .u32 A (strV (a ++ asc s)).mag c ∧ SRow w' .u16 B (strV (a ++ asc s)).s d ∧ New w w'
theorem plusX_c (a : List Nat) (s : ByteArray) (A0 : Option Addr) (c0 : Nat) (B0 : Option Addr) (d0 : Nat) (A1 : Option Addr) (c1 : Nat) (B1 : Option Addr) (d1 : Nat) (w : World) (hm0 : SRow w .u32 A0 (strV a).mag c0) (hs0 : SRow w .u16 B0 (strV a).s d0) (hm1 : SRow w .u32 A1 [] c1) (hs1 : SRow w .u16 B1 (asc s) d1) (ha : U16s a) (hl : a.length ≤ 3900) (hx : s.size ≤ 100) (HT : ItoaOk w) : Calls Tryz.prog 12 #[.string ⟨#[43]⟩, vv (strV a) A0 c0 B0 d0, vv (Vl.mk 5 0 0 false [] (asc s) 0) A1 c1 B1 d1] w (plusX_c_P a s w) := by
  have h := binT_c (strV a) A0 c0 B0 d0 (Vl.mk 5 0 0 false [] (asc s) 0) A1 c1 B1 d1 w hm0 hs0 hm1 hs1 (VOk.str4 ha (by omega)) (VOk.str s (by omega)) (by rw [str_clean]; rfl) HT
  unfold binT_c_P at h
  rw [show joinV (cleanV (strV a)) (cleanV (Vl.mk 5 0 0 false [] (asc s) 0)) = (strV (a ++ asc s), 0) from by rw [← strV_short (u := asc s) (by rw [asc_len]; omega)]; exact join_str (by rw [asc_len]; omega)] at h
  exact h
theorem U16s.app {a b : List Nat} (h : U16s a) (h2 : U16s b) : U16s (a ++ b) := fun x hx => by
  rcases List.mem_append.1 hx with hx | hx
  · exact h x hx
  · exact h2 x hx
theorem strV_len {u : List Nat} (h : u.length ≤ 4096) : (strV u).s.length = u.length := by
  show (u.take 4096).length = u.length
  rw [List.length_take]; omega
theorem otexts_w (Aa : Option Addr) (a : List Nat) (ca : Nat) (Ab : Option Addr) (b : List Nat) (cb : Nat) (Ac : Option Addr) (c : List Nat) (cc : Nat) (n : Int) (w : World) (hra : SRow w .u16 Aa a ca) (hrb : SRow w .u16 Ab b cb) (hrc : SRow w .u16 Ac c cc) (hua : U16s a) (hub : U16s b) (huc : U16s c) (oG : -9223372036854775808 ≤ n) (oH : n ≤ 9223372036854775807) (HT : ItoaOk w) : Calls Tryz.prog 4 #[sv Aa a ca, sv Ab b cb, sv Ac c cc, iv n] w (IsRet (.bool true) w) := by
 refine enter_abs Tryz.func4 rfl fun a0 dZ oI hp => ?_
 have dZ : a0.tmps.size = 158 := dZ
 have oJ : New w w := Upd.refl _ _
 have hp0 : a0.eval (.tmp 0) = sv Aa a ca := hp 0 _ rfl
 have hp1 : a0.eval (.tmp 1) = sv Ab b cb := hp 1 _ rfl
 have hp2 : a0.eval (.tmp 2) = sv Ac c cc := hp 2 _ rfl
 have hp3 : a0.eval (.tmp 3) = iv n := hp 3 _ rfl
 have hmx := hra.max
 have hmy := hrb.max
 have hmz := hrc.max
 have htl := textI_len oG oH
 refine wp_seq_k fun K1 oK => ?_
 refine wp_g0 [true] [] 158
   [vF] dZ (.eq (.nil)) ?_ ?_
 exact .t (fun _ w hn k => ⟨_, v_assign rfl rfl, rfl⟩) .nil
 refine aftI dZ oI oJ fun a2 w3 jY oL e0 sl d0 => ?_
 have h8 := d0.fx 0 hp0
 have h9 := d0.fx 1 hp1
 have oM := d0.fx 2 hp2
 have oN := d0.fx 3 hp3
 refine st_nil (oK _ _ (wp_seq_k fun sm j2 => ?_))
 refine wp_seq_k fun sn j3 => ?_
 refine wp_g0 [true, true] [] 158
   [vT, vF] jY (.eq (.eq (.nil))) ?_ ?_
 exact .o1 (ck rfl rfl rfl (fun _ w hn k => ⟨#[], rfl, fun _ => by kernel_rfl, first_c _ (HT.up (e0.transNew hn))⟩) fun _ => rfl) <| .t (fun _ w hn k => ⟨_, v_not rfl (k.eq1 0 26 rfl), rfl⟩) .nil
 refine aftI jY oL e0 fun so sp be cX cY qm cv => ?_
 have co := cv.fx 0 h8
 have cw := cv.fx 1 h9
 have cW := cv.fx 2 oM
 have d1 := cv.fx 3 oN
 have oO := cv.ge 1 27 rfl
 refine st_nil (j3 _ _ ?_)
 refine wp_cond_false oO ?_
 refine wp_skip ?_
 refine j2 _ _ ?_
 refine wp_seq_k fun sq j4 => ?_
 refine wp_seq_k fun sr cZ => ?_
 rcases bc (decide ((a.length : Int) ≤ 1300)) with bp | bp
 have fW := oT bp
 rcases bc (decide ((b.length : Int) ≤ 1300)) with cm | cm
 have fX := oT cm
 rcases bc (decide ((c.length : Int) ≤ 1300)) with cx | cx
 have fY := oT cx
 refine wp_g0 (.replicate 13 true) [] 158
   [ve (sv Aa a ca), ve (iv (a.length : Int)), vF, vF, ve (sv Ab b cb), ve (iv (b.length : Int)), vF, vF, vF, ve (sv Ac c cc), ve (iv (c.length : Int)), vF, vF] be (.eq (.eq (.eq (.eq (.eq (.eq (.eq (.eq (.eq (.eq (.eq (.eq (.eq (.nil)))))))))))))) ?_ ?_
 exact .m (fun k => k.fx 0 co) <| .t (fun _ w hn k => ⟨_, v_lenR rfl elU (k.eq1 0 28 rfl), rfl⟩) <| .t (fun _ w hn k => ⟨_, v_bin rfl (k.eq1 1 29 rfl) rfl (fun _ => rfl) (r_gtrK bp), rfl⟩) <| .m (fun k => k.eq1 2 30 rfl) <| .gm (fun k => k.eq1 3 31 rfl) (fun k => k.fx 1 cw) <| .g (fun k => k.eq1 3 31 rfl) (fun _ w hn k => ⟨_, v_lenR rfl elU (k.eq1 4 32 rfl), rfl⟩) <| .g (fun k => k.eq1 3 31 rfl) (fun _ w hn k => ⟨_, v_bin rfl (k.eq1 5 33 rfl) rfl (fun _ => rfl) (r_gtrK cm), rfl⟩) <| .t (fun _ w hn k => ⟨_, v_pickF rfl (k.eq1 3 31 rfl) (k.eq1 6 34 rfl), rfl⟩) <| .m (fun k => k.eq1 7 35 rfl) <| .gm (fun k => k.eq1 8 36 rfl) (fun k => k.fx 2 cW) <| .g (fun k => k.eq1 8 36 rfl) (fun _ w hn k => ⟨_, v_lenR rfl elU (k.eq1 9 37 rfl), rfl⟩) <| .g (fun k => k.eq1 8 36 rfl) (fun _ w hn k => ⟨_, v_bin rfl (k.eq1 10 38 rfl) rfl (fun _ => rfl) (r_gtrK cx), rfl⟩) <| .t (fun _ w hn k => ⟨_, v_pickF rfl (k.eq1 8 36 rfl) (k.eq1 11 39 rfl), rfl⟩) .nil
 refine aftI be cX cY fun ss e1 e2 j5 bq qn cy => ?_
 have jZ := cy.fx 0 co
 have j0 := cy.fx 1 cw
 have j1 := cy.fx 2 cW
 have oP := cy.fx 3 d1
 have oQ := cy.ge 12 40 rfl
 refine st_nil (cZ _ _ ?_)
 refine wp_cond_false oQ ?_
 refine wp_skip ?_
 refine j4 _ _ ?_
 refine wp_seq_k fun st j6 => ?_
 refine wp_g [true, true, true, true, true, true, true, true, true, false, false, false] [] [(9, false), (10, false), (11, false)] 158
   [ve (sv Aa a ca),
    (VP (strV a)), ve (sv Ab b cb),
    (VP (strV b)), ve (sv Ac c cc),
    (VP (strV c)), IsNew e1 29 [iv 0, iv 0, iv 0, .bool false, sv none ([]) 0, sv none ([]) 0, iv 0], IsNew e1 29 [iv 0, iv 0, iv 0, .bool false, sv none ([]) 0, sv none ([]) 0, iv 0], IsNew e1 29 [iv 0, iv 0, iv 0, .bool false, sv none ([]) 0, sv none ([]) 0, iv 0], vt, vt, vt]
   [6, 7, 8] (newsCons (fun v w h => IsNew.old h) (newsCons (fun v w h => IsNew.old h) (newsCons (fun v w h => IsNew.old h) newsNil))) e2 (.eq (.cons (fun v W W' hn ⟨A5, c6, A7, c8, he, h0, h1⟩ => ⟨A5, c6, A7, c8, he, h0.new_ hn, h1.new_ hn⟩) (.eq (.cons (fun v W W' hn ⟨oR, oS, oU, oV, he, h0, h1⟩ => ⟨oR, oS, oU, oV, he, h0.new_ hn, h1.new_ hn⟩) (.eq (.cons (fun v W W' hn ⟨oW, oX, oY, oZ, he, h0, h1⟩ => ⟨oW, oX, oY, oZ, he, h0.new_ hn, h1.new_ hn⟩) (.nw (.nw (.nw (.tt (.tt (.tt (.nil))))))))))))) ?_ (fun i h => by cases h) ?_
 refine .m (fun k => k.fx 0 jZ) ?_
 refine .o1 (tkC rfl (noG rfl) rfl fun _ w hn k => (by
       refine ⟨#[sv Aa a ca], _, args1 (k.eq1 0 42 rfl), fun w => by kernel_rfl, cstr_c _ a _ _ (hra.new_ (bq.transNew hn)) (by first | omega | (simp only [List.length_nil, List.length_take, List.length_drop]; omega) | (simp only [List.length_cons, List.length_nil]; omega)), ?_⟩
       rintro e w' ⟨A1, c2, A3, c4, rfl, hmo0, hmo1, hm⟩
       exact ⟨_, rfl, hm, ⟨A1, c2, A3, c4, rfl, hmo0, hmo1⟩⟩)) ?_
 refine .m (fun k => k.fx 1 j0) ?_
 refine .o1 (tkC rfl (noG rfl) rfl fun _ w hn k => (by
       refine ⟨#[sv Ab b cb], _, args1 (k.eq1 2 44 rfl), fun w => by kernel_rfl, cstr_c _ b _ _ (hrb.new_ (bq.transNew hn)) (by first | omega | (simp only [List.length_nil, List.length_take, List.length_drop]; omega) | (simp only [List.length_cons, List.length_nil]; omega)), ?_⟩
       rintro e w' ⟨A9, o0, o4, o5, rfl, hmo0, hmo1, hm⟩
       exact ⟨_, rfl, hm, ⟨A9, o0, o4, o5, rfl, hmo0, hmo1⟩⟩)) ?_
 refine .m (fun k => k.fx 2 j1) ?_
 refine .o1 (tkC rfl (noG rfl) rfl fun _ w hn k => (by
       refine ⟨#[sv Ac c cc], _, args1 (k.eq1 4 46 rfl), fun w => by kernel_rfl, cstr_c _ c _ _ (hrc.new_ (bq.transNew hn)) (by first | omega | (simp only [List.length_nil, List.length_take, List.length_drop]; omega) | (simp only [List.length_cons, List.length_nil]; omega)), ?_⟩
       rintro e w' ⟨o6, o7, o8, o9, rfl, hmo0, hmo1, hm⟩
       exact ⟨_, rfl, hm, ⟨o6, o7, o8, o9, rfl, hmo0, hmo1⟩⟩)) ?_
 exact .o2 (step_allocN (cs := [iv 0, iv 0, iv 0, .bool false, sv none ([]) 0, sv none ([]) 0, iv 0]) (t := 29) rfl (noG rfl) (fun _ w hn k => rfl) (fun q _ hq hb => ⟨q, rfl, hq, hb⟩)) <| .o2 (step_allocN (cs := [iv 0, iv 0, iv 0, .bool false, sv none ([]) 0, sv none ([]) 0, iv 0]) (t := 29) rfl (noG rfl) (fun _ w hn k => rfl) (fun q _ hq hb => ⟨q, rfl, hq, hb⟩)) <| .o2 (step_allocN (cs := [iv 0, iv 0, iv 0, .bool false, sv none ([]) 0, sv none ([]) 0, iv 0]) (t := 29) rfl (noG rfl) (fun _ w hn k => rfl) (fun q _ hq hb => ⟨q, rfl, hq, hb⟩)) <| .off <| .off <| .off .nil
 refine aftI e2 j5 bq fun e3 sw e4 j7 j8 qo an => ?_
 have pa := an.fx 0 jZ
 have pb := an.fx 1 j0
 have pc := an.fx 2 j1
 have pe := an.fx 3 oP
 obtain ⟨ar, aj, aC, ak, e5, j9, ka⟩ : (VP (strV a)) _ _ := an.got 1 43 rfl (by kernel_rfl)
 have e5 : e3.eval (.tmp 43) = vv (strV a) ar aj aC ak := e5
 obtain ⟨am, br, cz, bs, e6, kb, kc⟩ : (VP (strV b)) _ _ := an.got 3 45 rfl (by kernel_rfl)
 have e6 : e3.eval (.tmp 45) = vv (strV b) am br cz bs := e6
 obtain ⟨cA, bt, cB, bu, e7, kd, ke⟩ : (VP (strV c)) _ _ := an.got 5 47 rfl (by kernel_rfl)
 have e7 : e3.eval (.tmp 47) = vv (strV c) cA bt cB bu := e7
 obtain ⟨bV, dL, kf, bv⟩ : IsNew _ _ _ _ _ := an.got 6 9 rfl (by kernel_rfl)
 obtain ⟨dM, dN, kg, kh⟩ : IsNew _ _ _ _ _ := an.got 7 10 rfl (by kernel_rfl)
 obtain ⟨dO, d2, ki, kj⟩ : IsNew _ _ _ _ _ := an.got 8 11 rfl (by kernel_rfl)
 have hne88 : bV ≠ dM := an.ne 6 7 9 10 dL dN
 have hne89 : bV ≠ dO := an.ne 6 8 9 11 dL d2
 have hne90 : dM ≠ dO := an.ne 7 8 10 11 dN d2
 have qp := Nat.le_trans bq.size kf
 have qq := Nat.le_trans bq.size kg
 have qr := Nat.le_trans bq.size ki
 obtain ⟨pf, fZ, f0, bw, e8⟩ := s_many (P := Tryz.prog) (t := 29) (i := 0) [iv ((strV a).k), iv ((strV a).nk), iv ((strV a).nn), .bool ((strV a).neg), sv ar ((strV a).mag) aj, sv aC ((strV a).s) ak, iv ((strV a).ref)] Tryz.sizeOf29 rfl rfl rfl bv lb
 have kk : Blk pf bV 29 [iv ((strV a).k), iv ((strV a).nk), iv ((strV a).nn), .bool ((strV a).neg), sv ar ((strV a).mag) aj, sv aC ((strV a).s) ak, iv ((strV a).ref)] := f0
 refine st_act rfl rfl fun qs f1 => a_store' rfl dL e5 fZ (f1 _ _ trivial ?_)
 have f2 := j9.far bv bw (by first | rfl | decide | simp [notK])
 have f3 := ka.far bv bw (by first | rfl | decide | simp [notK])
 have f4 := kb.far bv bw (by first | rfl | decide | simp [notK])
 have f5 := kc.far bv bw (by first | rfl | decide | simp [notK])
 have f6 := kd.far bv bw (by first | rfl | decide | simp [notK])
 have f7 := ke.far bv bw (by first | rfl | decide | simp [notK])
 have a3 := e8 _ _ _ (fun h => hne88 h.symm) kh
 have f8 := e8 _ _ _ (fun h => hne89 h.symm) kj
 have f9 := j8.trans bw (fun _ h b => by subst b; omega)
 obtain ⟨kl, e9, fa, a4, d3⟩ := s_many (P := Tryz.prog) (t := 29) (i := 0) [iv ((strV b).k), iv ((strV b).nk), iv ((strV b).nn), .bool ((strV b).neg), sv am ((strV b).mag) br, sv cz ((strV b).s) bs, iv ((strV b).ref)] Tryz.sizeOf29 rfl rfl rfl a3 lb
 have ga : Blk kl dM 29 [iv ((strV b).k), iv ((strV b).nk), iv ((strV b).nn), .bool ((strV b).neg), sv am ((strV b).mag) br, sv cz ((strV b).s) bs, iv ((strV b).ref)] := fa
 refine st_act rfl rfl fun qt gb => a_store' rfl dN e6 e9 (gb _ _ trivial ?_)
 have gc := f2.far a3 a4 (by first | rfl | decide | simp [notK])
 have gd := f3.far a3 a4 (by first | rfl | decide | simp [notK])
 have gg := f4.far a3 a4 (by first | rfl | decide | simp [notK])
 have gh := f5.far a3 a4 (by first | rfl | decide | simp [notK])
 have gi := f6.far a3 a4 (by first | rfl | decide | simp [notK])
 have gj := f7.far a3 a4 (by first | rfl | decide | simp [notK])
 have gk := d3 _ _ _ (hne88) kk
 have a5 := d3 _ _ _ (fun h => hne90 h.symm) f8
 have gl := f9.trans a4 (fun _ h b => by subst b; omega)
 obtain ⟨fb, fc, fd, a6, d4⟩ := s_many (P := Tryz.prog) (t := 29) (i := 0) [iv ((strV c).k), iv ((strV c).nk), iv ((strV c).nn), .bool ((strV c).neg), sv cA ((strV c).mag) bt, sv cB ((strV c).s) bu, iv ((strV c).ref)] Tryz.sizeOf29 rfl rfl rfl a5 lb
 have d5 : Blk fb dO 29 [iv ((strV c).k), iv ((strV c).nk), iv ((strV c).nn), .bool ((strV c).neg), sv cA ((strV c).mag) bt, sv cB ((strV c).s) bu, iv ((strV c).ref)] := fd
 refine st_act rfl rfl fun qu gn => a_store' rfl d2 e7 fc (gn _ _ trivial ?_)
 have d6 := gc.far a5 a6 (by first | rfl | decide | simp [notK])
 have d7 := gd.far a5 a6 (by first | rfl | decide | simp [notK])
 have d8 := gg.far a5 a6 (by first | rfl | decide | simp [notK])
 have d9 := gh.far a5 a6 (by first | rfl | decide | simp [notK])
 have go := gi.far a5 a6 (by first | rfl | decide | simp [notK])
 have gp := gj.far a5 a6 (by first | rfl | decide | simp [notK])
 have c0 := d4 _ _ _ (hne89) gk
 have c1 := d4 _ _ _ (hne90) ga
 have c3 := gl.trans a6 (fun _ h b => by subst b; omega)
 refine st_nil (j6 _ _ (wp_seq_k fun qv gq => ?_))
 refine wp_gS (fun W => True) (fun W W' hn h => trivial) trivial [true, true, true, true, true, true, true, false, false] [5] [(7, false), (8, true)] 158
   [ve (vv (strV a) ar aj aC ak), ve (vv (strV b) am br cz bs), (fun (v_ : Value) (W : World) => ∃ (cC : Option Addr) (cD : Nat) (cE : Option Addr) (cF : Nat), v_ = .tuple #[vv (strV (a ++ b)) cC cD cE cF, iv 0] ∧ SRow W .u32 cC ((strV (a ++ b)).mag) cD ∧ SRow W .u16 cE ((strV (a ++ b)).s) cF), (fun (v_ : Value) (W : World) => ∃ (bm : Option Addr) (bn : Nat) (am : Option Addr) (bo : Nat), v_ = .tuple #[vv (strV (a ++ b)) bm bn am bo, iv 0] ∧ SRow W .u32 bm ((strV (a ++ b)).mag) bn ∧ SRow W .u16 am ((strV (a ++ b)).s) bo),
    (VP (strV (a ++ b))), ve (iv 0), IsNew fb 29 [iv 0, iv 0, iv 0, .bool false, sv none ([]) 0, sv none ([]) 0, iv 0], vt, vt]
   [6] (newsCons (fun v w h => IsNew.old h) newsNil) e4 (.eq (.eq (.cons (fun v W W' hn ⟨cC, cD, cE, cF, he, h0, h1⟩ => ⟨cC, cD, cE, cF, he, h0.new_ hn, h1.new_ hn⟩) (.cons (fun v W W' hn ⟨bm, bn, am, bo, he, h0, h1⟩ => ⟨bm, bn, am, bo, he, h0.new_ hn, h1.new_ hn⟩) (.cons (fun v W W' hn ⟨pg, ph, pi, pj, he, h0, h1⟩ => ⟨pg, ph, pi, pj, he, h0.new_ hn, h1.new_ hn⟩) (.eq (.nw (.tt (.tt (.nil)))))))))) ?_ ?_ ?_
 refine .t (fun _ w hn k => ⟨_, v_load rfl (k.fx 9 dL) (l_agg Tryz.isAgg29 Tryz.sizeOf29 (c0.new_ hn) rfl), rfl⟩) <| .t (fun _ w hn k => ⟨_, v_load rfl (k.fx 10 dN) (l_agg Tryz.isAgg29 Tryz.sizeOf29 (c1.new_ hn) rfl), rfl⟩) ?_
 refine .o1 (tkC rfl (noG rfl) rfl fun _ w hn k => (by
       refine ⟨#[.string ⟨#[43]⟩, vv (strV a) ar aj aC ak, vv (strV b) am br cz bs], _, args3 rfl (k.eq1 0 49 rfl) (k.eq1 1 50 rfl), fun w => by kernel_rfl, plusS_c a b _ _ _ _ _ _ _ _ _ (d6.new_ hn) (d7.new_ hn) (d8.new_ hn) (d9.new_ hn) hua hub (by first | omega | (simp only [List.length_append, List.length_nil]; omega)) (HT.up (c3.transNew hn)), ?_⟩
       rintro e w' ⟨pk, pl, pm, po, rfl, hmo0, hmo1, hm⟩
       exact ⟨_, rfl, hm, ⟨pk, pl, pm, po, rfl, hmo0, hmo1⟩⟩)) ?_
 refine .o1 (tk rfl rfl fun _ w hn k => (by
       obtain ⟨pp, pq, ar, pr, ps, km, kn⟩ : (fun (v_ : Value) (W : World) => ∃ (cC : Option Addr) (cD : Nat) (cE : Option Addr) (cF : Nat), v_ = .tuple #[vv (strV (a ++ b)) cC cD cE cF, iv 0] ∧ SRow W .u32 cC ((strV (a ++ b)).mag) cD ∧ SRow W .u16 cE ((strV (a ++ b)).s) cF) _ _ := k.dep 2 51 (by kernel_rfl) (by kernel_rfl)
       exact ⟨_, v_move rfl ps, ⟨pp, pq, ar, pr, rfl, km, kn⟩⟩)) ?_
 refine .o1 (tk rfl rfl fun _ w hn k => (by
       obtain ⟨pt, pu, pw, px, py, ko, kp⟩ : (fun (v_ : Value) (W : World) => ∃ (bm : Option Addr) (bn : Nat) (am : Option Addr) (bo : Nat), v_ = .tuple #[vv (strV (a ++ b)) bm bn am bo, iv 0] ∧ SRow W .u32 bm ((strV (a ++ b)).mag) bn ∧ SRow W .u16 am ((strV (a ++ b)).s) bo) _ _ := k.dep 3 48 (by kernel_rfl) (by kernel_rfl)
       exact ⟨_, v_extract rfl py rfl, ⟨pt, pu, pw, px, rfl, ko, kp⟩⟩)) ?_
 refine .o3 ?_
 exact .o2 (step_allocN (cs := [iv 0, iv 0, iv 0, .bool false, sv none ([]) 0, sv none ([]) 0, iv 0]) (t := 29) rfl (noG rfl) (fun _ w hn k => rfl) (fun q _ hq hb => ⟨q, rfl, hq, hb⟩)) <| .off <| .off .nil
 intro i h
 simp only [List.contains_eq_mem, List.mem_cons, List.not_mem_nil, or_false, decide_eq_true_eq] at h
 subst h
 exact eager_takeG rfl (noG rfl) fun _ w hn k => (by
     obtain ⟨sx, sy, sz, sA, pA, qw, qx⟩ : (fun (v_ : Value) (W : World) => ∃ (bm : Option Addr) (bn : Nat) (am : Option Addr) (bo : Nat), v_ = .tuple #[vv (strV (a ++ b)) bm bn am bo, iv 0] ∧ SRow W .u32 bm ((strV (a ++ b)).mag) bn ∧ SRow W .u16 am ((strV (a ++ b)).s) bo) _ _ := k.dep 3 48 (by kernel_rfl) (by kernel_rfl)
     exact ⟨_, fun w hS => v_extract rfl pA rfl, rfl⟩)
 intro dP qy _ ao al
 obtain ⟨ea, gr, gs⟩ := aft al e4 j7 c3 ao
 have kq := al.fx 0 pa
 have kr := al.fx 1 pb
 have ks := al.fx 2 pc
 have kt := al.fx 3 pe
 have ku := al.fx 9 dL
 have kv := al.fx 10 dN
 have kw := al.fx 11 d2
 obtain ⟨cG, bW, cH, bX, c5, gt, gu⟩ : (VP (strV (a ++ b))) _ _ := al.got 4 52 rfl (by kernel_rfl)
 have c5 : dP.eval (.tmp 52) = vv (strV (a ++ b)) cG bW cH bX := c5
 have fe := al.ge 5 53 rfl
 obtain ⟨c7, ff, cp, au⟩ : IsNew _ _ _ _ _ := al.got 6 12 rfl (by kernel_rfl)
 have gv := c0.new_ ao
 have gw := c1.new_ ao
 have gx := d5.new_ ao
 have hne172 : bV ≠ c7 := by have h1 := c0.lt; have h2 := cp; omega
 have hne173 : dM ≠ c7 := by have h1 := c1.lt; have h2 := cp; omega
 have hne174 : dO ≠ c7 := by have h1 := d5.lt; have h2 := cp; omega
 have pI := Nat.le_trans c3.size cp
 have gy := d6.new_ ao
 have gz := d7.new_ ao
 have gA := d8.new_ ao
 have gB := d9.new_ ao
 have gC := go.new_ ao
 have gD := gp.new_ ao
 obtain ⟨fg, fh, fi, av, c9⟩ := s_many (P := Tryz.prog) (t := 29) (i := 0) [iv ((strV (a ++ b)).k), iv ((strV (a ++ b)).nk), iv ((strV (a ++ b)).nn), .bool ((strV (a ++ b)).neg), sv cG ((strV (a ++ b)).mag) bW, sv cH ((strV (a ++ b)).s) bX, iv ((strV (a ++ b)).ref)] Tryz.sizeOf29 rfl rfl rfl au lb
 have gE : Blk fg c7 29 [iv ((strV (a ++ b)).k), iv ((strV (a ++ b)).nk), iv ((strV (a ++ b)).nn), .bool ((strV (a ++ b)).neg), sv cG ((strV (a ++ b)).mag) bW, sv cH ((strV (a ++ b)).s) bX, iv ((strV (a ++ b)).ref)] := fi
 refine st_act rfl rfl fun qz gF => a_store' rfl ff c5 fh (gF _ _ trivial ?_)
 have gG := gy.far au av (by first | rfl | decide | simp [notK])
 have gH := gz.far au av (by first | rfl | decide | simp [notK])
 have gI := gA.far au av (by first | rfl | decide | simp [notK])
 have gJ := gB.far au av (by first | rfl | decide | simp [notK])
 have eb := gC.far au av (by first | rfl | decide | simp [notK])
 have ec := gD.far au av (by first | rfl | decide | simp [notK])
 have gK := gt.far au av (by first | rfl | decide | simp [notK])
 have gL := gu.far au av (by first | rfl | decide | simp [notK])
 have ed := c9 _ _ _ (hne172) gv
 have ee := c9 _ _ _ (hne173) gw
 have da := c9 _ _ _ (hne174) gx
 have db := gs.trans av (fun _ h b => by subst b; omega)
 refine st_take rfl rfl (y_assign (v := iv 0) rfl fe) rfl ?_
 obtain ⟨kx, af⟩ : ∃ a', a' = dP.put (some 13) (iv 0) := ⟨_, rfl⟩
 have ef := pz af ea
 have gM := pd af gr
 have ky := pn af kq (by decide)
 have kz := pn af kr (by decide)
 have kA := pn af ks (by decide)
 have kB := pn af kt (by decide)
 have kC := pn af ku (by decide)
 have kD := pn af kv (by decide)
 have fj := pn af kw (by decide)
 have qA := pn af c5 (by decide)
 have qB := pn af fe (by decide)
 have kE := pn af ff (by decide)
 have kF : kx.eval (.tmp 13) = iv 0 := by rw [af]; exact put_same _ _ _ (by rw [ea]; decide)
 show stepsTo _ _ _ _ _ (dP.put (some 13) (iv 0)) _
 rw [← af]
 refine st_nil (gq _ _ (wp_seq_k fun qC gN => ?_))
 refine wp_gS (fun W => True) (fun W W' hn h => trivial) trivial [true, true, true, true, true, true, true, false, false] [5] [(7, false), (8, true)] 158
   [ve (vv (strV (a ++ b)) cG bW cH bX), ve (vv (strV c) cA bt cB bu), (fun (v_ : Value) (W : World) => ∃ (cI : Option Addr) (cJ : Nat) (cK : Option Addr) (cL : Nat), v_ = .tuple #[vv (strV ((a ++ b) ++ c)) cI cJ cK cL, iv 0] ∧ SRow W .u32 cI ((strV ((a ++ b) ++ c)).mag) cJ ∧ SRow W .u16 cK ((strV ((a ++ b) ++ c)).s) cL), (fun (v_ : Value) (W : World) => ∃ (aD : Option Addr) (aE : Nat) (aF : Option Addr) (aG : Nat), v_ = .tuple #[vv (strV ((a ++ b) ++ c)) aD aE aF aG, iv 0] ∧ SRow W .u32 aD ((strV ((a ++ b) ++ c)).mag) aE ∧ SRow W .u16 aF ((strV ((a ++ b) ++ c)).s) aG),
    (VP (strV ((a ++ b) ++ c))), ve (iv 0), IsNew fg 29 [iv 0, iv 0, iv 0, .bool false, sv none ([]) 0, sv none ([]) 0, iv 0], vt, vt]
   [6] (newsCons (fun v w h => IsNew.old h) newsNil) ef (.eq (.eq (.cons (fun v W W' hn ⟨cI, cJ, cK, cL, he, h0, h1⟩ => ⟨cI, cJ, cK, cL, he, h0.new_ hn, h1.new_ hn⟩) (.cons (fun v W W' hn ⟨aD, aE, aF, aG, he, h0, h1⟩ => ⟨aD, aE, aF, aG, he, h0.new_ hn, h1.new_ hn⟩) (.cons (fun v W W' hn ⟨kG, kH, kI, kJ, he, h0, h1⟩ => ⟨kG, kH, kI, kJ, he, h0.new_ hn, h1.new_ hn⟩) (.eq (.nw (.tt (.tt (.nil)))))))))) ?_ ?_ ?_
 refine .t (fun _ w hn k => ⟨_, v_load rfl (k.fx 12 kE) (l_agg Tryz.isAgg29 Tryz.sizeOf29 (gE.new_ hn) rfl), rfl⟩) <| .t (fun _ w hn k => ⟨_, v_load rfl (k.fx 11 fj) (l_agg Tryz.isAgg29 Tryz.sizeOf29 (da.new_ hn) rfl), rfl⟩) ?_
 refine .o1 (tkC rfl (noG rfl) rfl fun _ w hn k => (by
       refine ⟨#[.string ⟨#[43]⟩, vv (strV (a ++ b)) cG bW cH bX, vv (strV c) cA bt cB bu], _, args3 rfl (k.eq1 0 55 rfl) (k.eq1 1 56 rfl), fun w => by kernel_rfl, plusS_c (a ++ b) c _ _ _ _ _ _ _ _ _ (gK.new_ hn) (gL.new_ hn) (eb.new_ hn) (ec.new_ hn) (hua.app hub) huc (by first | omega | (simp only [List.length_append, List.length_nil]; omega)) (HT.up (db.transNew hn)), ?_⟩
       rintro e w' ⟨pB, pC, pD, pE, rfl, hmo0, hmo1, hm⟩
       exact ⟨_, rfl, hm, ⟨pB, pC, pD, pE, rfl, hmo0, hmo1⟩⟩)) ?_
 refine .o1 (tk rfl rfl fun _ w hn k => (by
       obtain ⟨pF, pG, kK, kL, kM, gO, gP⟩ : (fun (v_ : Value) (W : World) => ∃ (cI : Option Addr) (cJ : Nat) (cK : Option Addr) (cL : Nat), v_ = .tuple #[vv (strV ((a ++ b) ++ c)) cI cJ cK cL, iv 0] ∧ SRow W .u32 cI ((strV ((a ++ b) ++ c)).mag) cJ ∧ SRow W .u16 cK ((strV ((a ++ b) ++ c)).s) cL) _ _ := k.dep 2 57 (by kernel_rfl) (by kernel_rfl)
       exact ⟨_, v_move rfl kM, ⟨pF, pG, kK, kL, rfl, gO, gP⟩⟩)) ?_
 refine .o1 (tk rfl rfl fun _ w hn k => (by
       obtain ⟨kN, kO, kP, kQ, kR, gQ, gR⟩ : (fun (v_ : Value) (W : World) => ∃ (aD : Option Addr) (aE : Nat) (aF : Option Addr) (aG : Nat), v_ = .tuple #[vv (strV ((a ++ b) ++ c)) aD aE aF aG, iv 0] ∧ SRow W .u32 aD ((strV ((a ++ b) ++ c)).mag) aE ∧ SRow W .u16 aF ((strV ((a ++ b) ++ c)).s) aG) _ _ := k.dep 3 54 (by kernel_rfl) (by kernel_rfl)
       exact ⟨_, v_extract rfl kR rfl, ⟨kN, kO, kP, kQ, rfl, gQ, gR⟩⟩)) ?_
 refine .o3 ?_
 exact .o2 (step_allocN (cs := [iv 0, iv 0, iv 0, .bool false, sv none ([]) 0, sv none ([]) 0, iv 0]) (t := 29) rfl (noG rfl) (fun _ w hn k => rfl) (fun q _ hq hb => ⟨q, rfl, hq, hb⟩)) <| .off <| .off .nil
 intro i h
 simp only [List.contains_eq_mem, List.mem_cons, List.not_mem_nil, or_false, decide_eq_true_eq] at h
 subst h
 exact eager_takeG rfl (noG rfl) fun _ w hn k => (by
     obtain ⟨qD, qE, qF, qG, kS, pJ, pK⟩ : (fun (v_ : Value) (W : World) => ∃ (aD : Option Addr) (aE : Nat) (aF : Option Addr) (aG : Nat), v_ = .tuple #[vv (strV ((a ++ b) ++ c)) aD aE aF aG, iv 0] ∧ SRow W .u32 aD ((strV ((a ++ b) ++ c)).mag) aE ∧ SRow W .u16 aF ((strV ((a ++ b) ++ c)).s) aG) _ _ := k.dep 3 54 (by kernel_rfl) (by kernel_rfl)
     exact ⟨_, fun w hS => v_extract rfl kS rfl, rfl⟩)
 intro dQ qH _ ap ah
 obtain ⟨eg, gS, gT⟩ := aft ah ef gM db ap
 have kT := ah.fx 0 ky
 have kU := ah.fx 1 kz
 have kV := ah.fx 2 kA
 have kW := ah.fx 3 kB
 have kX := ah.fx 9 kC
 have kY := ah.fx 10 kD
 have kZ := ah.fx 11 fj
 have k0 := ah.fx 13 kF
 obtain ⟨cM, bY, cn, bh, dc, gU, gV⟩ : (VP (strV ((a ++ b) ++ c))) _ _ := ah.got 4 58 rfl (by kernel_rfl)
 have dc : dQ.eval (.tmp 58) = vv (strV ((a ++ b) ++ c)) cM bY cn bh := dc
 have fk := ah.ge 5 59 rfl
 obtain ⟨bf, fl, cq, aw⟩ : IsNew _ _ _ _ _ := ah.got 6 14 rfl (by kernel_rfl)
 have gW := ed.new_ ap
 have gX := ee.new_ ap
 have gY := da.new_ ap
 have hne247 : bV ≠ bf := by have h1 := ed.lt; have h2 := cq; omega
 have hne248 : dM ≠ bf := by have h1 := ee.lt; have h2 := cq; omega
 have hne249 : dO ≠ bf := by have h1 := da.lt; have h2 := cq; omega
 have pL := Nat.le_trans db.size cq
 have gZ := gG.new_ ap
 have g0 := gH.new_ ap
 have g1 := gI.new_ ap
 have g2 := gJ.new_ ap
 have g3 := eb.new_ ap
 have g4 := ec.new_ ap
 obtain ⟨fm, fn, fo, ax, dd⟩ := s_many (P := Tryz.prog) (t := 29) (i := 0) [iv ((strV ((a ++ b) ++ c)).k), iv ((strV ((a ++ b) ++ c)).nk), iv ((strV ((a ++ b) ++ c)).nn), .bool ((strV ((a ++ b) ++ c)).neg), sv cM ((strV ((a ++ b) ++ c)).mag) bY, sv cn ((strV ((a ++ b) ++ c)).s) bh, iv ((strV ((a ++ b) ++ c)).ref)] Tryz.sizeOf29 rfl rfl rfl aw lb
 have eh : Blk fm bf 29 [iv ((strV ((a ++ b) ++ c)).k), iv ((strV ((a ++ b) ++ c)).nk), iv ((strV ((a ++ b) ++ c)).nn), .bool ((strV ((a ++ b) ++ c)).neg), sv cM ((strV ((a ++ b) ++ c)).mag) bY, sv cn ((strV ((a ++ b) ++ c)).s) bh, iv ((strV ((a ++ b) ++ c)).ref)] := fo
 refine st_act rfl rfl fun qI g5 => a_store' rfl fl dc fn (g5 _ _ trivial ?_)
 have g6 := gZ.far aw ax (by first | rfl | decide | simp [notK])
 have g7 := g0.far aw ax (by first | rfl | decide | simp [notK])
 have g8 := g1.far aw ax (by first | rfl | decide | simp [notK])
 have g9 := g2.far aw ax (by first | rfl | decide | simp [notK])
 have ha := g3.far aw ax (by first | rfl | decide | simp [notK])
 have hc := g4.far aw ax (by first | rfl | decide | simp [notK])
 have hd := gU.far aw ax (by first | rfl | decide | simp [notK])
 have hf := gV.far aw ax (by first | rfl | decide | simp [notK])
 have ei := dd _ _ _ (hne247) gW
 have hg := dd _ _ _ (hne248) gX
 have hh := dd _ _ _ (hne249) gY
 have de := gT.trans ax (fun _ h b => by subst b; omega)
 refine st_take rfl rfl (y_assign (v := iv 0) rfl fk) rfl ?_
 obtain ⟨k1, ac⟩ : ∃ a', a' = dQ.put (some 15) (iv 0) := ⟨_, rfl⟩
 have ej := pz ac eg
 have hi := pd ac gS
 have k2 := pn ac kT (by decide)
 have k3 := pn ac kU (by decide)
 have k4 := pn ac kV (by decide)
 have k5 := pn ac kW (by decide)
 have k6 := pn ac kX (by decide)
 have k7 := pn ac kY (by decide)
 have k8 := pn ac kZ (by decide)
 have k9 := pn ac k0 (by decide)
 have qJ := pn ac dc (by decide)
 have qK := pn ac fk (by decide)
 have la := pn ac fl (by decide)
 have lc : k1.eval (.tmp 15) = iv 0 := by rw [ac]; exact put_same _ _ _ (by rw [eg]; decide)
 show stepsTo _ _ _ _ _ (dQ.put (some 15) (iv 0)) _
 rw [← ac]
 refine st_nil (gN _ _ (wp_seq_k fun qL hj => ?_))
 refine wp_gS (fun W => True) (fun W W' hn h => trivial) trivial [true, true, true, true, true, true, true, false, false] [5] [(7, false), (8, true)] 158
   [ve (vv (strV b) am br cz bs), ve (vv (strV c) cA bt cB bu), (fun (v_ : Value) (W : World) => ∃ (bx : Option Addr) (bz : Nat) (bA : Option Addr) (bB : Nat), v_ = .tuple #[vv (strV (b ++ c)) bx bz bA bB, iv 0] ∧ SRow W .u32 bx ((strV (b ++ c)).mag) bz ∧ SRow W .u16 bA ((strV (b ++ c)).s) bB), (fun (v_ : Value) (W : World) => ∃ (aH : Option Addr) (aI : Nat) (aJ : Option Addr) (aK : Nat), v_ = .tuple #[vv (strV (b ++ c)) aH aI aJ aK, iv 0] ∧ SRow W .u32 aH ((strV (b ++ c)).mag) aI ∧ SRow W .u16 aJ ((strV (b ++ c)).s) aK),
    (VP (strV (b ++ c))), ve (iv 0), IsNew fm 29 [iv 0, iv 0, iv 0, .bool false, sv none ([]) 0, sv none ([]) 0, iv 0], vt, vt]
   [6] (newsCons (fun v w h => IsNew.old h) newsNil) ej (.eq (.eq (.cons (fun v W W' hn ⟨bx, bz, bA, bB, he, h0, h1⟩ => ⟨bx, bz, bA, bB, he, h0.new_ hn, h1.new_ hn⟩) (.cons (fun v W W' hn ⟨aH, aI, aJ, aK, he, h0, h1⟩ => ⟨aH, aI, aJ, aK, he, h0.new_ hn, h1.new_ hn⟩) (.cons (fun v W W' hn ⟨ld, le, lf, lg, he, h0, h1⟩ => ⟨ld, le, lf, lg, he, h0.new_ hn, h1.new_ hn⟩) (.eq (.nw (.tt (.tt (.nil)))))))))) ?_ ?_ ?_
 refine .t (fun _ w hn k => ⟨_, v_load rfl (k.fx 10 k7) (l_agg Tryz.isAgg29 Tryz.sizeOf29 (hg.new_ hn) rfl), rfl⟩) <| .t (fun _ w hn k => ⟨_, v_load rfl (k.fx 11 k8) (l_agg Tryz.isAgg29 Tryz.sizeOf29 (hh.new_ hn) rfl), rfl⟩) ?_
 refine .o1 (tkC rfl (noG rfl) rfl fun _ w hn k => (by
       refine ⟨#[.string ⟨#[43]⟩, vv (strV b) am br cz bs, vv (strV c) cA bt cB bu], _, args3 rfl (k.eq1 0 61 rfl) (k.eq1 1 62 rfl), fun w => by kernel_rfl, plusS_c b c _ _ _ _ _ _ _ _ _ (g8.new_ hn) (g9.new_ hn) (ha.new_ hn) (hc.new_ hn) hub huc (by first | omega | (simp only [List.length_append, List.length_nil]; omega)) (HT.up (de.transNew hn)), ?_⟩
       rintro e w' ⟨lh, li, lj, lk, rfl, hmo0, hmo1, hm⟩
       exact ⟨_, rfl, hm, ⟨lh, li, lj, lk, rfl, hmo0, hmo1⟩⟩)) ?_
 refine .o1 (tk rfl rfl fun _ w hn k => (by
       obtain ⟨ll, lm, ln, lo, lp, hl, ho⟩ : (fun (v_ : Value) (W : World) => ∃ (bx : Option Addr) (bz : Nat) (bA : Option Addr) (bB : Nat), v_ = .tuple #[vv (strV (b ++ c)) bx bz bA bB, iv 0] ∧ SRow W .u32 bx ((strV (b ++ c)).mag) bz ∧ SRow W .u16 bA ((strV (b ++ c)).s) bB) _ _ := k.dep 2 63 (by kernel_rfl) (by kernel_rfl)
       exact ⟨_, v_move rfl lp, ⟨ll, lm, ln, lo, rfl, hl, ho⟩⟩)) ?_
 refine .o1 (tk rfl rfl fun _ w hn k => (by
       obtain ⟨lq, lr, ls, lu, lv, hr, hs⟩ : (fun (v_ : Value) (W : World) => ∃ (aH : Option Addr) (aI : Nat) (aJ : Option Addr) (aK : Nat), v_ = .tuple #[vv (strV (b ++ c)) aH aI aJ aK, iv 0] ∧ SRow W .u32 aH ((strV (b ++ c)).mag) aI ∧ SRow W .u16 aJ ((strV (b ++ c)).s) aK) _ _ := k.dep 3 60 (by kernel_rfl) (by kernel_rfl)
       exact ⟨_, v_extract rfl lv rfl, ⟨lq, lr, ls, lu, rfl, hr, hs⟩⟩)) ?_
 refine .o3 ?_
 exact .o2 (step_allocN (cs := [iv 0, iv 0, iv 0, .bool false, sv none ([]) 0, sv none ([]) 0, iv 0]) (t := 29) rfl (noG rfl) (fun _ w hn k => rfl) (fun q _ hq hb => ⟨q, rfl, hq, hb⟩)) <| .off <| .off .nil
 intro i h
 simp only [List.contains_eq_mem, List.mem_cons, List.not_mem_nil, or_false, decide_eq_true_eq] at h
 subst h
 exact eager_takeG rfl (noG rfl) fun _ w hn k => (by
     obtain ⟨qM, qN, qO, qP, lw, pM, pN⟩ : (fun (v_ : Value) (W : World) => ∃ (aH : Option Addr) (aI : Nat) (aJ : Option Addr) (aK : Nat), v_ = .tuple #[vv (strV (b ++ c)) aH aI aJ aK, iv 0] ∧ SRow W .u32 aH ((strV (b ++ c)).mag) aI ∧ SRow W .u16 aJ ((strV (b ++ c)).s) aK) _ _ := k.dep 3 60 (by kernel_rfl) (by kernel_rfl)
     exact ⟨_, fun w hS => v_extract rfl lw rfl, rfl⟩)
 intro dR qQ _ a7 ai
 obtain ⟨ek, ht, hu⟩ := aft ai ej hi de a7
 have lx := ai.fx 0 k2
 have ly := ai.fx 1 k3
 have lz := ai.fx 2 k4
 have lA := ai.fx 3 k5
 have lB := ai.fx 9 k6
 have lC := ai.fx 13 k9
 have lD := ai.fx 14 la
 have lE := ai.fx 15 lc
 obtain ⟨bC, bZ, cN, b0, df, hv, hw⟩ : (VP (strV (b ++ c))) _ _ := ai.got 4 64 rfl (by kernel_rfl)
 have df : dR.eval (.tmp 64) = vv (strV (b ++ c)) bC bZ cN b0 := df
 have fp := ai.ge 5 65 rfl
 obtain ⟨dS, fq, dg, a8⟩ : IsNew _ _ _ _ _ := ai.got 6 16 rfl (by kernel_rfl)
 have hx := ei.new_ a7
 have hy := eh.new_ a7
 have hne322 : bV ≠ dS := by have h1 := ei.lt; have h2 := dg; omega
 have hne323 : bf ≠ dS := by have h1 := eh.lt; have h2 := dg; omega
 have pO := Nat.le_trans de.size dg
 have hz := g6.new_ a7
 have hA := g7.new_ a7
 have hC := hd.new_ a7
 have hD := hf.new_ a7
 obtain ⟨fr, fs, ft, a9, el⟩ := s_many (P := Tryz.prog) (t := 29) (i := 0) [iv ((strV (b ++ c)).k), iv ((strV (b ++ c)).nk), iv ((strV (b ++ c)).nn), .bool ((strV (b ++ c)).neg), sv bC ((strV (b ++ c)).mag) bZ, sv cN ((strV (b ++ c)).s) b0, iv ((strV (b ++ c)).ref)] Tryz.sizeOf29 rfl rfl rfl a8 lb
 have hE : Blk fr dS 29 [iv ((strV (b ++ c)).k), iv ((strV (b ++ c)).nk), iv ((strV (b ++ c)).nn), .bool ((strV (b ++ c)).neg), sv bC ((strV (b ++ c)).mag) bZ, sv cN ((strV (b ++ c)).s) b0, iv ((strV (b ++ c)).ref)] := ft
 refine st_act rfl rfl fun qR hF => a_store' rfl fq df fs (hF _ _ trivial ?_)
 have em := hz.far a8 a9 (by first | rfl | decide | simp [notK])
 have en := hA.far a8 a9 (by first | rfl | decide | simp [notK])
 have hG := hC.far a8 a9 (by first | rfl | decide | simp [notK])
 have hH := hD.far a8 a9 (by first | rfl | decide | simp [notK])
 have hI := hv.far a8 a9 (by first | rfl | decide | simp [notK])
 have hJ := hw.far a8 a9 (by first | rfl | decide | simp [notK])
 have dh := el _ _ _ (hne322) hx
 have eo := el _ _ _ (hne323) hy
 have di := hu.trans a9 (fun _ h b => by subst b; omega)
 refine st_take rfl rfl (y_assign (v := iv 0) rfl fp) rfl ?_
 obtain ⟨lF, ad⟩ : ∃ a', a' = dR.put (some 17) (iv 0) := ⟨_, rfl⟩
 have ep := pz ad ek
 have hK := pd ad ht
 have lG := pn ad lx (by decide)
 have lH := pn ad ly (by decide)
 have lI := pn ad lz (by decide)
 have lJ := pn ad lA (by decide)
 have fu := pn ad lB (by decide)
 have lK := pn ad lC (by decide)
 have lL := pn ad lD (by decide)
 have lM := pn ad lE (by decide)
 have qS := pn ad df (by decide)
 have qT := pn ad fp (by decide)
 have lN := pn ad fq (by decide)
 have lO : lF.eval (.tmp 17) = iv 0 := by rw [ad]; exact put_same _ _ _ (by rw [ek]; decide)
 show stepsTo _ _ _ _ _ (dR.put (some 17) (iv 0)) _
 rw [← ad]
 refine st_nil (hj _ _ (wp_seq_k fun qU hL => ?_))
 refine wp_gS (fun W => True) (fun W W' hn h => trivial) trivial [true, true, true, true, true, true, true, false, false] [5] [(7, false), (8, true)] 158
   [ve (vv (strV a) ar aj aC ak), ve (vv (strV (b ++ c)) bC bZ cN b0), (fun (v_ : Value) (W : World) => ∃ (bD : Option Addr) (bE : Nat) (bF : Option Addr) (bG : Nat), v_ = .tuple #[vv (strV (a ++ (b ++ c))) bD bE bF bG, iv 0] ∧ SRow W .u32 bD ((strV (a ++ (b ++ c))).mag) bE ∧ SRow W .u16 bF ((strV (a ++ (b ++ c))).s) bG), (fun (v_ : Value) (W : World) => ∃ (aL : Option Addr) (aM : Nat) (aN : Option Addr) (aO : Nat), v_ = .tuple #[vv (strV (a ++ (b ++ c))) aL aM aN aO, iv 0] ∧ SRow W .u32 aL ((strV (a ++ (b ++ c))).mag) aM ∧ SRow W .u16 aN ((strV (a ++ (b ++ c))).s) aO),
    (VP (strV (a ++ (b ++ c)))), ve (iv 0), IsNew fr 29 [iv 0, iv 0, iv 0, .bool false, sv none ([]) 0, sv none ([]) 0, iv 0], vt, vt]
   [6] (newsCons (fun v w h => IsNew.old h) newsNil) ep (.eq (.eq (.cons (fun v W W' hn ⟨bD, bE, bF, bG, he, h0, h1⟩ => ⟨bD, bE, bF, bG, he, h0.new_ hn, h1.new_ hn⟩) (.cons (fun v W W' hn ⟨aL, aM, aN, aO, he, h0, h1⟩ => ⟨aL, aM, aN, aO, he, h0.new_ hn, h1.new_ hn⟩) (.cons (fun v W W' hn ⟨lP, lQ, lR, lS, he, h0, h1⟩ => ⟨lP, lQ, lR, lS, he, h0.new_ hn, h1.new_ hn⟩) (.eq (.nw (.tt (.tt (.nil)))))))))) ?_ ?_ ?_
 refine .t (fun _ w hn k => ⟨_, v_load rfl (k.fx 9 fu) (l_agg Tryz.isAgg29 Tryz.sizeOf29 (dh.new_ hn) rfl), rfl⟩) <| .t (fun _ w hn k => ⟨_, v_load rfl (k.fx 16 lN) (l_agg Tryz.isAgg29 Tryz.sizeOf29 (hE.new_ hn) rfl), rfl⟩) ?_
 refine .o1 (tkC rfl (noG rfl) rfl fun _ w hn k => (by
       refine ⟨#[.string ⟨#[43]⟩, vv (strV a) ar aj aC ak, vv (strV (b ++ c)) bC bZ cN b0], _, args3 rfl (k.eq1 0 67 rfl) (k.eq1 1 68 rfl), fun w => by kernel_rfl, plusS_c a (b ++ c) _ _ _ _ _ _ _ _ _ (em.new_ hn) (en.new_ hn) (hI.new_ hn) (hJ.new_ hn) hua (hub.app huc) (by first | omega | (simp only [List.length_append, List.length_nil]; omega)) (HT.up (di.transNew hn)), ?_⟩
       rintro e w' ⟨lT, lU, lV, lW, rfl, hmo0, hmo1, hm⟩
       exact ⟨_, rfl, hm, ⟨lT, lU, lV, lW, rfl, hmo0, hmo1⟩⟩)) ?_
 refine .o1 (tk rfl rfl fun _ w hn k => (by
       obtain ⟨lX, lY, lZ, l0, l1, hM, hN⟩ : (fun (v_ : Value) (W : World) => ∃ (bD : Option Addr) (bE : Nat) (bF : Option Addr) (bG : Nat), v_ = .tuple #[vv (strV (a ++ (b ++ c))) bD bE bF bG, iv 0] ∧ SRow W .u32 bD ((strV (a ++ (b ++ c))).mag) bE ∧ SRow W .u16 bF ((strV (a ++ (b ++ c))).s) bG) _ _ := k.dep 2 69 (by kernel_rfl) (by kernel_rfl)
       exact ⟨_, v_move rfl l1, ⟨lX, lY, lZ, l0, rfl, hM, hN⟩⟩)) ?_
 refine .o1 (tk rfl rfl fun _ w hn k => (by
       obtain ⟨l2, l3, l4, l5, l6, hO, hP⟩ : (fun (v_ : Value) (W : World) => ∃ (aL : Option Addr) (aM : Nat) (aN : Option Addr) (aO : Nat), v_ = .tuple #[vv (strV (a ++ (b ++ c))) aL aM aN aO, iv 0] ∧ SRow W .u32 aL ((strV (a ++ (b ++ c))).mag) aM ∧ SRow W .u16 aN ((strV (a ++ (b ++ c))).s) aO) _ _ := k.dep 3 66 (by kernel_rfl) (by kernel_rfl)
       exact ⟨_, v_extract rfl l6 rfl, ⟨l2, l3, l4, l5, rfl, hO, hP⟩⟩)) ?_
 refine .o3 ?_
 exact .o2 (step_allocN (cs := [iv 0, iv 0, iv 0, .bool false, sv none ([]) 0, sv none ([]) 0, iv 0]) (t := 29) rfl (noG rfl) (fun _ w hn k => rfl) (fun q _ hq hb => ⟨q, rfl, hq, hb⟩)) <| .off <| .off .nil
 intro i h
 simp only [List.contains_eq_mem, List.mem_cons, List.not_mem_nil, or_false, decide_eq_true_eq] at h
 subst h
 exact eager_takeG rfl (noG rfl) fun _ w hn k => (by
     obtain ⟨qV, qW, qX, qY, l7, pP, pQ⟩ : (fun (v_ : Value) (W : World) => ∃ (aL : Option Addr) (aM : Nat) (aN : Option Addr) (aO : Nat), v_ = .tuple #[vv (strV (a ++ (b ++ c))) aL aM aN aO, iv 0] ∧ SRow W .u32 aL ((strV (a ++ (b ++ c))).mag) aM ∧ SRow W .u16 aN ((strV (a ++ (b ++ c))).s) aO) _ _ := k.dep 3 66 (by kernel_rfl) (by kernel_rfl)
     exact ⟨_, fun w hS => v_extract rfl l7 rfl, rfl⟩)
 intro dT qZ _ ba ag
 obtain ⟨er, hQ, hR⟩ := aft ag ep hK di ba
 have l8 := ag.fx 0 lG
 have l9 := ag.fx 1 lH
 have ma := ag.fx 2 lI
 have mb := ag.fx 3 lJ
 have mc := ag.fx 9 fu
 have md := ag.fx 13 lK
 have me := ag.fx 14 lL
 have mf := ag.fx 15 lM
 have mg := ag.fx 17 lO
 obtain ⟨cO, b1, cP, b2, dj, hT, hU⟩ : (VP (strV (a ++ (b ++ c)))) _ _ := ag.got 4 70 rfl (by kernel_rfl)
 have dj : dT.eval (.tmp 70) = vv (strV (a ++ (b ++ c))) cO b1 cP b2 := dj
 have fv := ag.ge 5 71 rfl
 obtain ⟨dk, fw, dl, bb⟩ : IsNew _ _ _ _ _ := ag.got 6 18 rfl (by kernel_rfl)
 have hV := dh.new_ ba
 have hW := eo.new_ ba
 have hne392 : bV ≠ dk := by have h1 := dh.lt; have h2 := dl; omega
 have hne393 : bf ≠ dk := by have h1 := eo.lt; have h2 := dl; omega
 have pR := Nat.le_trans di.size dl
 have hX := em.new_ ba
 have hY := en.new_ ba
 have hZ := hG.new_ ba
 have h3 := hH.new_ ba
 obtain ⟨fy, fz, fA, bd, es⟩ := s_many (P := Tryz.prog) (t := 29) (i := 0) [iv ((strV (a ++ (b ++ c))).k), iv ((strV (a ++ (b ++ c))).nk), iv ((strV (a ++ (b ++ c))).nn), .bool ((strV (a ++ (b ++ c))).neg), sv cO ((strV (a ++ (b ++ c))).mag) b1, sv cP ((strV (a ++ (b ++ c))).s) b2, iv ((strV (a ++ (b ++ c))).ref)] Tryz.sizeOf29 rfl rfl rfl bb lb
 have et : Blk fy dk 29 [iv ((strV (a ++ (b ++ c))).k), iv ((strV (a ++ (b ++ c))).nk), iv ((strV (a ++ (b ++ c))).nn), .bool ((strV (a ++ (b ++ c))).neg), sv cO ((strV (a ++ (b ++ c))).mag) b1, sv cP ((strV (a ++ (b ++ c))).s) b2, iv ((strV (a ++ (b ++ c))).ref)] := fA
 refine st_act rfl rfl fun q0 h4 => a_store' rfl fw dj fz (h4 _ _ trivial ?_)
 have eu := hX.far bb bd (by first | rfl | decide | simp [notK])
 have ev := hY.far bb bd (by first | rfl | decide | simp [notK])
 have h5 := hZ.far bb bd (by first | rfl | decide | simp [notK])
 have h6 := h3.far bb bd (by first | rfl | decide | simp [notK])
 have h7 := hT.far bb bd (by first | rfl | decide | simp [notK])
 have ia := hU.far bb bd (by first | rfl | decide | simp [notK])
 have dm := es _ _ _ (hne392) hV
 have ew := es _ _ _ (hne393) hW
 have dn := hR.trans bd (fun _ h b => by subst b; omega)
 refine st_take rfl rfl (y_assign (v := iv 0) rfl fv) rfl ?_
 obtain ⟨mh, ab⟩ : ∃ a', a' = dT.put (some 19) (iv 0) := ⟨_, rfl⟩
 have ex := pz ab er
 have ib := pd ab hQ
 have mi := pn ab l8 (by decide)
 have mj := pn ab l9 (by decide)
 have ml := pn ab ma (by decide)
 have mm := pn ab mb (by decide)
 have fB := pn ab mc (by decide)
 have mn := pn ab md (by decide)
 have mo := pn ab me (by decide)
 have mp := pn ab mf (by decide)
 have mq := pn ab mg (by decide)
 have q1 := pn ab dj (by decide)
 have q2 := pn ab fv (by decide)
 have mr := pn ab fw (by decide)
 have ms : mh.eval (.tmp 19) = iv 0 := by rw [ab]; exact put_same _ _ _ (by rw [er]; decide)
 show stepsTo _ _ _ _ _ (dT.put (some 19) (iv 0)) _
 rw [← ab]
 refine st_nil (hL _ _ (wp_seq_k fun q3 ic => ?_))
 refine wp_gS (fun W => True) (fun W W' hn h => trivial) trivial [true, true, true, true, true, true, true, false, false] [5] [(7, false), (8, true)] 158
   [ve (vv (strV a) ar aj aC ak),
    (VP (strV ([]))), (fun (v_ : Value) (W : World) => ∃ (bH : Option Addr) (bI : Nat) (bJ : Option Addr) (bK : Nat), v_ = .tuple #[vv (strV (a ++ ([]))) bH bI bJ bK, iv 0] ∧ SRow W .u32 bH ((strV (a ++ ([]))).mag) bI ∧ SRow W .u16 bJ ((strV (a ++ ([]))).s) bK), (fun (v_ : Value) (W : World) => ∃ (aP : Option Addr) (aQ : Nat) (aR : Option Addr) (aS : Nat), v_ = .tuple #[vv (strV (a ++ ([]))) aP aQ aR aS, iv 0] ∧ SRow W .u32 aP ((strV (a ++ ([]))).mag) aQ ∧ SRow W .u16 aR ((strV (a ++ ([]))).s) aS),
    (VP (strV (a ++ ([])))), ve (iv 0), IsNew fy 29 [iv 0, iv 0, iv 0, .bool false, sv none ([]) 0, sv none ([]) 0, iv 0], vt, vt]
   [6] (newsCons (fun v w h => IsNew.old h) newsNil) ex (.eq (.cons (fun v W W' hn ⟨mt, mu, mv, mw, he, h0, h1⟩ => ⟨mt, mu, mv, mw, he, h0.new_ hn, h1.new_ hn⟩) (.cons (fun v W W' hn ⟨bH, bI, bJ, bK, he, h0, h1⟩ => ⟨bH, bI, bJ, bK, he, h0.new_ hn, h1.new_ hn⟩) (.cons (fun v W W' hn ⟨aP, aQ, aR, aS, he, h0, h1⟩ => ⟨aP, aQ, aR, aS, he, h0.new_ hn, h1.new_ hn⟩) (.cons (fun v W W' hn ⟨mx, my, mz, mA, he, h0, h1⟩ => ⟨mx, my, mz, mA, he, h0.new_ hn, h1.new_ hn⟩) (.eq (.nw (.tt (.tt (.nil)))))))))) ?_ ?_ ?_
 refine .t (fun _ w hn k => ⟨_, v_load rfl (k.fx 9 fB) (l_agg Tryz.isAgg29 Tryz.sizeOf29 (dm.new_ hn) rfl), rfl⟩) ?_
 refine .o1 (tkC rfl (noG rfl) rfl fun _ w hn k => (by
       refine ⟨#[sv none ([]) 0], _, args1 rfl, fun w => by kernel_rfl, cstr_c _ ([]) _ _ (SRow.nil _ _) (by simp), ?_⟩
       rintro e w' ⟨mB, mC, mD, mE, rfl, hmo0, hmo1, hm⟩
       exact ⟨_, rfl, hm, ⟨mB, mC, mD, mE, rfl, hmo0, hmo1⟩⟩)) ?_
 refine .o1 (tkC rfl (noG rfl) rfl fun _ w hn k => (by
       obtain ⟨mF, mG, mH, mI, mJ, id, ie⟩ : (VP (strV ([]))) _ _ := k.dep 1 74 (by kernel_rfl) (by kernel_rfl)
       refine ⟨#[.string ⟨#[43]⟩, vv (strV a) ar aj aC ak, vv (strV ([])) mF mG mH mI], _, args3 rfl (k.eq1 0 73 rfl) mJ, fun w => by kernel_rfl, plusS_c a ([]) _ _ _ _ _ _ _ _ _ (eu.new_ hn) (ev.new_ hn) id ie hua U16s.nil (by first | omega | (simp only [List.length_append, List.length_nil]; omega)) (HT.up (dn.transNew hn)), ?_⟩
       rintro e w' ⟨mK, mL, mM, mN, rfl, hmo0, hmo1, hm⟩
       exact ⟨_, rfl, hm, ⟨mK, mL, mM, mN, rfl, hmo0, hmo1⟩⟩)) ?_
 refine .o1 (tk rfl rfl fun _ w hn k => (by
       obtain ⟨mO, mP, mQ, mR, mS, ig, ih⟩ : (fun (v_ : Value) (W : World) => ∃ (bH : Option Addr) (bI : Nat) (bJ : Option Addr) (bK : Nat), v_ = .tuple #[vv (strV (a ++ ([]))) bH bI bJ bK, iv 0] ∧ SRow W .u32 bH ((strV (a ++ ([]))).mag) bI ∧ SRow W .u16 bJ ((strV (a ++ ([]))).s) bK) _ _ := k.dep 2 75 (by kernel_rfl) (by kernel_rfl)
       exact ⟨_, v_move rfl mS, ⟨mO, mP, mQ, mR, rfl, ig, ih⟩⟩)) ?_
 refine .o1 (tk rfl rfl fun _ w hn k => (by
       obtain ⟨mT, mU, mV, mW, mX, ii, ij⟩ : (fun (v_ : Value) (W : World) => ∃ (aP : Option Addr) (aQ : Nat) (aR : Option Addr) (aS : Nat), v_ = .tuple #[vv (strV (a ++ ([]))) aP aQ aR aS, iv 0] ∧ SRow W .u32 aP ((strV (a ++ ([]))).mag) aQ ∧ SRow W .u16 aR ((strV (a ++ ([]))).s) aS) _ _ := k.dep 3 72 (by kernel_rfl) (by kernel_rfl)
       exact ⟨_, v_extract rfl mX rfl, ⟨mT, mU, mV, mW, rfl, ii, ij⟩⟩)) ?_
 refine .o3 ?_
 exact .o2 (step_allocN (cs := [iv 0, iv 0, iv 0, .bool false, sv none ([]) 0, sv none ([]) 0, iv 0]) (t := 29) rfl (noG rfl) (fun _ w hn k => rfl) (fun q _ hq hb => ⟨q, rfl, hq, hb⟩)) <| .off <| .off .nil
 intro i h
 simp only [List.contains_eq_mem, List.mem_cons, List.not_mem_nil, or_false, decide_eq_true_eq] at h
 subst h
 exact eager_takeG rfl (noG rfl) fun _ w hn k => (by
     obtain ⟨q4, q5, q6, q7, mY, pS, pT⟩ : (fun (v_ : Value) (W : World) => ∃ (aP : Option Addr) (aQ : Nat) (aR : Option Addr) (aS : Nat), v_ = .tuple #[vv (strV (a ++ ([]))) aP aQ aR aS, iv 0] ∧ SRow W .u32 aP ((strV (a ++ ([]))).mag) aQ ∧ SRow W .u16 aR ((strV (a ++ ([]))).s) aS) _ _ := k.dep 3 72 (by kernel_rfl) (by kernel_rfl)
     exact ⟨_, fun w hS => v_extract rfl mY rfl, rfl⟩)
 intro dU q8 _ aq ae
 obtain ⟨ey, ik, il⟩ := aft ae ex ib dn aq
 have mZ := ae.fx 0 mi
 have m0 := ae.fx 1 mj
 have m1 := ae.fx 2 ml
 have m2 := ae.fx 3 mm
 have m3 := ae.fx 9 fB
 have m4 := ae.fx 13 mn
 have m5 := ae.fx 14 mo
 have m6 := ae.fx 15 mp
 have m7 := ae.fx 17 mq
 have m8 := ae.fx 18 mr
 have m9 := ae.fx 19 ms
 obtain ⟨cQ, b3, cR, b4, dp, im, io⟩ : (VP (strV (a ++ ([])))) _ _ := ae.got 4 76 rfl (by kernel_rfl)
 have dp : dU.eval (.tmp 76) = vv (strV (a ++ ([]))) cQ b3 cR b4 := dp
 have fC := ae.ge 5 77 rfl
 obtain ⟨dq, fD, cr, ay⟩ : IsNew _ _ _ _ _ := ae.got 6 20 rfl (by kernel_rfl)
 have ip := dm.new_ aq
 have iq := ew.new_ aq
 have ir := et.new_ aq
 have hne466 : bV ≠ dq := by have h1 := dm.lt; have h2 := cr; omega
 have hne467 : bf ≠ dq := by have h1 := ew.lt; have h2 := cr; omega
 have hne468 : dk ≠ dq := by have h1 := et.lt; have h2 := cr; omega
 have pU := Nat.le_trans dn.size cr
 have it := eu.new_ aq
 have iu := ev.new_ aq
 have iw := h5.new_ aq
 have ix := h6.new_ aq
 have iy := h7.new_ aq
 have iz := ia.new_ aq
 obtain ⟨na, fE, fF, az, dr⟩ := s_many (P := Tryz.prog) (t := 29) (i := 0) [iv ((strV (a ++ ([]))).k), iv ((strV (a ++ ([]))).nk), iv ((strV (a ++ ([]))).nn), .bool ((strV (a ++ ([]))).neg), sv cQ ((strV (a ++ ([]))).mag) b3, sv cR ((strV (a ++ ([]))).s) b4, iv ((strV (a ++ ([]))).ref)] Tryz.sizeOf29 rfl rfl rfl ay lb
 have iA : Blk na dq 29 [iv ((strV (a ++ ([]))).k), iv ((strV (a ++ ([]))).nk), iv ((strV (a ++ ([]))).nn), .bool ((strV (a ++ ([]))).neg), sv cQ ((strV (a ++ ([]))).mag) b3, sv cR ((strV (a ++ ([]))).s) b4, iv ((strV (a ++ ([]))).ref)] := fF
 refine st_act rfl rfl fun q9 iB => a_store' rfl fD dp fE (iB _ _ trivial ?_)
 have ez := it.far ay az (by first | rfl | decide | simp [notK])
 have eA := iu.far ay az (by first | rfl | decide | simp [notK])
 have iC := iw.far ay az (by first | rfl | decide | simp [notK])
 have iD := ix.far ay az (by first | rfl | decide | simp [notK])
 have iE := iy.far ay az (by first | rfl | decide | simp [notK])
 have iF := iz.far ay az (by first | rfl | decide | simp [notK])
 have iG := im.far ay az (by first | rfl | decide | simp [notK])
 have iH := io.far ay az (by first | rfl | decide | simp [notK])
 have eB := dr _ _ _ (hne466) ip
 have eC := dr _ _ _ (hne467) iq
 have iI := dr _ _ _ (hne468) ir
 have iJ := il.trans az (fun _ h b => by subst b; omega)
 refine st_take rfl rfl (y_assign (v := iv 0) rfl fC) rfl ?_
 obtain ⟨nb, aa⟩ : ∃ a', a' = dU.put (some 21) (iv 0) := ⟨_, rfl⟩
 have eD := pz aa ey
 have iK := pd aa ik
 have nc := pn aa mZ (by decide)
 have nd := pn aa m0 (by decide)
 have nf := pn aa m1 (by decide)
 have ng := pn aa m2 (by decide)
 have fG := pn aa m3 (by decide)
 have nh := pn aa m4 (by decide)
 have fH := pn aa m5 (by decide)
 have ni := pn aa m6 (by decide)
 have nj := pn aa m7 (by decide)
 have nl := pn aa m8 (by decide)
 have nm := pn aa m9 (by decide)
 have ra := pn aa dp (by decide)
 have rb := pn aa fC (by decide)
 have np := pn aa fD (by decide)
 have nq : nb.eval (.tmp 21) = iv 0 := by rw [aa]; exact put_same _ _ _ (by rw [ey]; decide)
 show stepsTo _ _ _ _ _ (dU.put (some 21) (iv 0)) _
 rw [← aa]
 refine st_nil (ic _ _ (wp_seq_k fun rc iL => ?_))
 refine wp_seq_k fun rd iM => ?_
 have eE : (decide ((((strV ((a ++ b) ++ c)).s).length : Int) = (((a.length + b.length) + c.length : Nat) : Int))) = true := decide_eq_true (by rw [strV_len (by simp only [List.length_append]; omega)]; first | omega | (simp only [List.length_append]; done) | (simp only [List.length_append]; omega))
 have pH := oT eE
 refine wp_g0 (.replicate 44 true) [] 158
   [ve (iv 0), vF, vF, ve (iv 0), vF, vF, vF, ve (iv 0), vF, vF, vF, ve (iv 0), vF, vF, vF, ve (iv 0), vF, vF, vF, ve (vv (strV ((a ++ b) ++ c)) cM bY cn bh), ve (vv (strV (a ++ (b ++ c))) cO b1 cP b2), vT, vF, vF, vF, ve (vv (strV (a ++ ([]))) cQ b3 cR b4), ve (vv (strV a) ar aj aC ak), vT, vF, vF, vF, ve (.pointer (some ⟨bf, 5, none⟩)), ve (sv cn ((strV ((a ++ b) ++ c)).s) bh), ve (iv (((strV ((a ++ b) ++ c)).s).length : Int)), ve (sv Aa a ca), ve (iv (a.length : Int)), ve (sv Ab b cb), ve (iv (b.length : Int)), ve (iv ((a.length + b.length : Nat) : Int)), ve (sv Ac c cc), ve (iv (c.length : Int)), ve (iv (((a.length + b.length) + c.length : Nat) : Int)), vF, vF] eD (.eq (.eq (.eq (.eq (.eq (.eq (.eq (.eq (.eq (.eq (.eq (.eq (.eq (.eq (.eq (.eq (.eq (.eq (.eq (.eq (.eq (.eq (.eq (.eq (.eq (.eq (.eq (.eq (.eq (.eq (.eq (.eq (.eq (.eq (.eq (.eq (.eq (.eq (.eq (.eq (.eq (.eq (.eq (.eq (.nil))))))))))))))))))))))))))))))))))))))))))))) ?_ ?_
 exact .m (fun k => k.fx 13 nh) <| .t (fun _ w hn k => ⟨_, v_bin rfl (k.eq1 0 78 rfl) rfl (fun _ => rfl) (fun w => by kernel_rfl), rfl⟩) <| .m (fun k => k.eq1 1 79 rfl) <| .gm (fun k => k.eq1 2 80 rfl) (fun k => k.fx 15 ni) <| .g (fun k => k.eq1 2 80 rfl) (fun _ w hn k => ⟨_, v_bin rfl (k.eq1 3 81 rfl) rfl (fun _ => rfl) (fun w => by kernel_rfl), rfl⟩) <| .t (fun _ w hn k => ⟨_, v_pickF rfl (k.eq1 2 80 rfl) (k.eq1 4 82 rfl), rfl⟩) <| .m (fun k => k.eq1 5 83 rfl) <| .gm (fun k => k.eq1 6 84 rfl) (fun k => k.fx 17 nj) <| .g (fun k => k.eq1 6 84 rfl) (fun _ w hn k => ⟨_, v_bin rfl (k.eq1 7 85 rfl) rfl (fun _ => rfl) (fun w => by kernel_rfl), rfl⟩) <| .t (fun _ w hn k => ⟨_, v_pickF rfl (k.eq1 6 84 rfl) (k.eq1 8 86 rfl), rfl⟩) <| .m (fun k => k.eq1 9 87 rfl) <| .gm (fun k => k.eq1 10 88 rfl) (fun k => k.fx 19 nm) <| .g (fun k => k.eq1 10 88 rfl) (fun _ w hn k => ⟨_, v_bin rfl (k.eq1 11 89 rfl) rfl (fun _ => rfl) (fun w => by kernel_rfl), rfl⟩) <| .t (fun _ w hn k => ⟨_, v_pickF rfl (k.eq1 10 88 rfl) (k.eq1 12 90 rfl), rfl⟩) <| .m (fun k => k.eq1 13 91 rfl) <| .gm (fun k => k.eq1 14 92 rfl) (fun k => k.fx 21 nq) <| .g (fun k => k.eq1 14 92 rfl) (fun _ w hn k => ⟨_, v_bin rfl (k.eq1 15 93 rfl) rfl (fun _ => rfl) (fun w => by kernel_rfl), rfl⟩) <| .t (fun _ w hn k => ⟨_, v_pickF rfl (k.eq1 14 92 rfl) (k.eq1 16 94 rfl), rfl⟩) <| .m (fun k => k.eq1 17 95 rfl) <| .g (fun k => k.eq1 18 96 rfl) (fun _ w hn k => ⟨_, v_load rfl (k.fx 14 fH) (l_agg Tryz.isAgg29 Tryz.sizeOf29 (eC.new_ hn) rfl), rfl⟩) <| .g (fun k => k.eq1 18 96 rfl) (fun _ w hn k => ⟨_, v_load rfl (k.fx 18 nl) (l_agg Tryz.isAgg29 Tryz.sizeOf29 (iI.new_ hn) rfl), rfl⟩) <| .o1 (cg rfl rfl rfl (fun _ _ k => k.eq1 18 96 rfl) rfl (fun _ w hn k => ⟨#[vv (strV ((a ++ b) ++ c)) cM bY cn bh, vv (strV (a ++ (b ++ c))) cO b1 cP b2], args2 (k.eq1 19 97 rfl) (k.eq1 20 98 rfl), fun _ => by kernel_rfl, vsame_c (strV ((a ++ b) ++ c)) _ _ _ _ (strV (a ++ (b ++ c))) _ _ _ _ _ (iC.new_ hn) (iD.new_ hn) (iE.new_ hn) (iF.new_ hn)⟩) fun _ => congrArg Value.bool (by rw [List.append_assoc]; exact sameV_self _)) <| .g (fun k => k.eq1 18 96 rfl) (fun _ w hn k => ⟨_, v_not rfl (k.eq1 21 99 rfl), rfl⟩) <| .t (fun _ w hn k => ⟨_, v_pickF rfl (k.eq1 18 96 rfl) (k.eq1 22 100 rfl), rfl⟩) <| .m (fun k => k.eq1 23 101 rfl) <| .g (fun k => k.eq1 24 102 rfl) (fun _ w hn k => ⟨_, v_load rfl (k.fx 20 np) (l_agg Tryz.isAgg29 Tryz.sizeOf29 (iA.new_ hn) rfl), rfl⟩) <| .g (fun k => k.eq1 24 102 rfl) (fun _ w hn k => ⟨_, v_load rfl (k.fx 9 fG) (l_agg Tryz.isAgg29 Tryz.sizeOf29 (eB.new_ hn) rfl), rfl⟩) <| .o1 (cg rfl rfl rfl (fun _ _ k => k.eq1 24 102 rfl) rfl (fun _ w hn k => ⟨#[vv (strV (a ++ ([]))) cQ b3 cR b4, vv (strV a) ar aj aC ak], args2 (k.eq1 25 103 rfl) (k.eq1 26 104 rfl), fun _ => by kernel_rfl, vsame_c (strV (a ++ ([]))) _ _ _ _ (strV a) _ _ _ _ _ (iG.new_ hn) (iH.new_ hn) (ez.new_ hn) (eA.new_ hn)⟩) fun _ => congrArg Value.bool (by rw [List.append_nil]; exact sameV_self _)) <| .g (fun k => k.eq1 24 102 rfl) (fun _ w hn k => ⟨_, v_not rfl (k.eq1 27 105 rfl), rfl⟩) <| .t (fun _ w hn k => ⟨_, v_pickF rfl (k.eq1 24 102 rfl) (k.eq1 28 106 rfl), rfl⟩) <| .m (fun k => k.eq1 29 107 rfl) <| .gf (fun k => k.eq1 30 108 rfl) (fun k => k.fx 14 fH) <| .g (fun k => k.eq1 30 108 rfl) (fun _ w hn k => ⟨_, v_load rfl (k.eq1 31 109 rfl) (l_one Tryz.isAgg27 ((eC.new_ hn).cell 5)), rfl⟩) <| .g (fun k => k.eq1 30 108 rfl) (fun _ w hn k => ⟨_, v_lenR rfl elU (k.eq1 32 110 rfl), rfl⟩) <| .gm (fun k => k.eq1 30 108 rfl) (fun k => k.fx 0 nc) <| .g (fun k => k.eq1 30 108 rfl) (fun _ w hn k => ⟨_, v_lenR rfl elU (k.eq1 34 112 rfl), rfl⟩) <| .gm (fun k => k.eq1 30 108 rfl) (fun k => k.fx 1 nd) <| .g (fun k => k.eq1 30 108 rfl) (fun _ w hn k => ⟨_, v_lenR rfl elU (k.eq1 36 114 rfl), rfl⟩) <| .g (fun k => k.eq1 30 108 rfl) (fun _ w hn k => ⟨_, v_bin rfl (k.eq1 35 113 rfl) (k.eq1 37 115 rfl) (fun _ => rfl) (n_add (by omega) (IntWalk.i64_in _ (by omega))), rfl⟩) <| .gm (fun k => k.eq1 30 108 rfl) (fun k => k.fx 2 nf) <| .g (fun k => k.eq1 30 108 rfl) (fun _ w hn k => ⟨_, v_lenR rfl elU (k.eq1 39 117 rfl), rfl⟩) <| .g (fun k => k.eq1 30 108 rfl) (fun _ w hn k => ⟨_, v_bin rfl (k.eq1 38 116 rfl) (k.eq1 40 118 rfl) (fun _ => rfl) (n_add (by omega) (IntWalk.i64_in _ (by omega))), rfl⟩) <| .g (fun k => k.eq1 30 108 rfl) (fun _ w hn k => ⟨_, v_bin rfl (k.eq1 33 111 rfl) (k.eq1 41 119 rfl) (fun _ => rfl) (r_neq eE), rfl⟩) <| .t (fun _ w hn k => ⟨_, v_pickF rfl (k.eq1 30 108 rfl) (k.eq1 42 120 rfl), rfl⟩) .nil
 refine aftI eD iK iJ fun re rf bi ds dt du dv => ?_
 have bg := dv.fx 3 ng
 have dV := dv.fx 9 fG
 have nr := dv.ge 43 121 rfl
 have dw := eB.new_ du
 have dx := ez.new_ du
 have dy := eA.new_ du
 refine st_nil (iM _ _ ?_)
 refine wp_cond_false nr ?_
 refine wp_skip ?_
 refine iL _ _ ?_
 refine wp_seq_k fun rg iN => ?_
 refine wp_seq_k fun rh dz => ?_
 rcases bc (decide (n < -9007199254740991)) with bj | bj
 have fI := oT bj
 refine wp_g0 [true, true, true, true, true, true] [] 158
   [ve (iv n), vT, vT, vU, vU, vT] bi (.eq (.eq (.eq (.eq (.eq (.eq (.nil))))))) ?_ ?_
 exact .m (fun k => k.fx 3 bg) <| .t (fun _ w hn k => ⟨_, v_bin rfl (k.eq1 0 122 rfl) rfl (fun _ => rfl) (r_lssK bj), rfl⟩) <| .m (fun k => k.eq1 1 123 rfl) <| .s (fun k => k.eq1 2 124 rfl) <| .s (fun k => k.eq1 2 124 rfl) <| .t (fun _ w hn k => ⟨_, v_pickT rfl (k.eq1 2 124 rfl) rfl, rfl⟩) .nil
 refine aftI bi ds dt fun ri rj eF iO eG dA dB => ?_
 have rk := dB.fx 3 bg
 have rl := dB.fx 9 dV
 have ns := dB.ge 5 127 rfl
 have pV := dw.new_ dA
 have pW := dx.new_ dA
 have pX := dy.new_ dA
 refine st_nil (dz _ _ ?_)
 refine wp_cond_true ns ?_
 refine wp_seq_k fun rm iP => ?_
 refine wp_g0 [true, true] [] 158
   [vT, vT] eF (.eq (.eq (.nil))) ?_ ?_
 exact .o1 (ck rfl rfl rfl (fun _ w hn k => ⟨#[], rfl, fun _ => by kernel_rfl, first_c _ (HT.up (eG.transNew hn))⟩) fun _ => rfl) <| .a (fun k => k.eq1 0 128 rfl) .nil
 refine aftI eF iO eG fun rn ro pY iQ iR pZ iS => ?_
 have nt := iS.ge 1 8 rfl
 refine st_nil (iP _ _ ?_)
 refine wp_ret (ret_k iQ (v := .bool true) (res_t rfl nt _) ?_)
 exact ⟨rfl, iR⟩
 have fI := oF bj
 rcases bc (decide (n ≤ 9007199254740991)) with b5 | b5
 have fJ := oT b5
 refine wp_g0 [true, true, true, true, true, true] [] 158
   [ve (iv n), vF, vF, ve (iv n), vF, vF] bi (.eq (.eq (.eq (.eq (.eq (.eq (.nil))))))) ?_ ?_
 exact .m (fun k => k.fx 3 bg) <| .t (fun _ w hn k => ⟨_, v_bin rfl (k.eq1 0 122 rfl) rfl (fun _ => rfl) (r_lssK bj), rfl⟩) <| .m (fun k => k.eq1 1 123 rfl) <| .gm (fun k => k.eq1 2 124 rfl) (fun k => k.fx 3 bg) <| .g (fun k => k.eq1 2 124 rfl) (fun _ w hn k => ⟨_, v_bin rfl (k.eq1 3 125 rfl) rfl (fun _ => rfl) (r_gtrK b5), rfl⟩) <| .t (fun _ w hn k => ⟨_, v_pickF rfl (k.eq1 2 124 rfl) (k.eq1 4 126 rfl), rfl⟩) .nil
 refine aftI bi ds dt fun rp nu eH iT dC dD dE => ?_
 have fK := dE.fx 3 bg
 have fL := dE.fx 9 dV
 have nx := dE.ge 5 127 rfl
 have dF := dw.new_ dD
 have eI := dx.new_ dD
 have eJ := dy.new_ dD
 refine st_nil (dz _ _ ?_)
 refine wp_cond_false nx ?_
 refine wp_skip ?_
 refine iN _ _ ?_
 refine wp_seq_k fun rq iU => ?_
 refine wp_gS (fun W => True) (fun W W' hn h => trivial) trivial [true, true, true, true, true, true, true, true, false, false] [6] [(8, false), (9, true)] 158
   [ve (vv (strV a) ar aj aC ak), ve (iv n), ve (vv (Vl.mk 3 0 n false [] [] 0) none 0 none 0), (fun (v_ : Value) (W : World) => ∃ (bL : Option Addr) (bM : Nat) (bN : Option Addr) (bO : Nat), v_ = .tuple #[vv (strV (a ++ asc (strOfNums (textI n)))) bL bM bN bO, iv 0] ∧ SRow W .u32 bL ((strV (a ++ asc (strOfNums (textI n)))).mag) bM ∧ SRow W .u16 bN ((strV (a ++ asc (strOfNums (textI n)))).s) bO), (fun (v_ : Value) (W : World) => ∃ (aT : Option Addr) (aU : Nat) (aV : Option Addr) (aW : Nat), v_ = .tuple #[vv (strV (a ++ asc (strOfNums (textI n)))) aT aU aV aW, iv 0] ∧ SRow W .u32 aT ((strV (a ++ asc (strOfNums (textI n)))).mag) aU ∧ SRow W .u16 aV ((strV (a ++ asc (strOfNums (textI n)))).s) aW),
    (VP (strV (a ++ asc (strOfNums (textI n))))), ve (iv 0), IsNew nu 29 [iv 0, iv 0, iv 0, .bool false, sv none ([]) 0, sv none ([]) 0, iv 0], vt, vt]
   [7] (newsCons (fun v w h => IsNew.old h) newsNil) eH (.eq (.eq (.eq (.cons (fun v W W' hn ⟨bL, bM, bN, bO, he, h0, h1⟩ => ⟨bL, bM, bN, bO, he, h0.new_ hn, h1.new_ hn⟩) (.cons (fun v W W' hn ⟨aT, aU, aV, aW, he, h0, h1⟩ => ⟨aT, aU, aV, aW, he, h0.new_ hn, h1.new_ hn⟩) (.cons (fun v W W' hn ⟨ny, nz, bC, nA, he, h0, h1⟩ => ⟨ny, nz, bC, nA, he, h0.new_ hn, h1.new_ hn⟩) (.eq (.nw (.tt (.tt (.nil))))))))))) ?_ ?_ ?_
 refine .t (fun _ w hn k => ⟨_, v_load rfl (k.fx 9 fL) (l_agg Tryz.isAgg29 Tryz.sizeOf29 (dF.new_ hn) rfl), rfl⟩) <| .m (fun k => k.fx 3 fK) <| .o1 (ck rfl rfl rfl (fun _ w hn k => ⟨#[iv n], args1 (k.eq1 1 131 rfl), fun _ => by kernel_rfl, owhole_c n _ ⟩) fun _ => rfl) ?_
 refine .o1 (tkC rfl (noG rfl) rfl fun _ w hn k => (by
       refine ⟨#[.string ⟨#[43]⟩, vv (strV a) ar aj aC ak, vv (Vl.mk 3 0 n false [] [] 0) none 0 none 0], _, args3 rfl (k.eq1 0 130 rfl) (k.eq1 2 132 rfl), fun w => by kernel_rfl, plusN_c a n _ _ _ _ _ _ _ _ _ (eI.new_ hn) (eJ.new_ hn) (SRow.nil _ _) (SRow.nil _ _) hua (by first | omega | (simp only [List.length_append, List.length_nil]; omega)) (by omega) (by omega) (HT.up (dC.transNew hn)), ?_⟩
       rintro e w' ⟨nB, nC, nD, nE, rfl, hmo0, hmo1, hm⟩
       exact ⟨_, rfl, hm, ⟨nB, nC, nD, nE, rfl, hmo0, hmo1⟩⟩)) ?_
 refine .o1 (tk rfl rfl fun _ w hn k => (by
       obtain ⟨nF, nG, nH, nI, nJ, iV, iW⟩ : (fun (v_ : Value) (W : World) => ∃ (bL : Option Addr) (bM : Nat) (bN : Option Addr) (bO : Nat), v_ = .tuple #[vv (strV (a ++ asc (strOfNums (textI n)))) bL bM bN bO, iv 0] ∧ SRow W .u32 bL ((strV (a ++ asc (strOfNums (textI n)))).mag) bM ∧ SRow W .u16 bN ((strV (a ++ asc (strOfNums (textI n)))).s) bO) _ _ := k.dep 3 133 (by kernel_rfl) (by kernel_rfl)
       exact ⟨_, v_move rfl nJ, ⟨nF, nG, nH, nI, rfl, iV, iW⟩⟩)) ?_
 refine .o1 (tk rfl rfl fun _ w hn k => (by
       obtain ⟨nK, nL, nM, nN, nO, iX, iY⟩ : (fun (v_ : Value) (W : World) => ∃ (aT : Option Addr) (aU : Nat) (aV : Option Addr) (aW : Nat), v_ = .tuple #[vv (strV (a ++ asc (strOfNums (textI n)))) aT aU aV aW, iv 0] ∧ SRow W .u32 aT ((strV (a ++ asc (strOfNums (textI n)))).mag) aU ∧ SRow W .u16 aV ((strV (a ++ asc (strOfNums (textI n)))).s) aW) _ _ := k.dep 4 129 (by kernel_rfl) (by kernel_rfl)
       exact ⟨_, v_extract rfl nO rfl, ⟨nK, nL, nM, nN, rfl, iX, iY⟩⟩)) ?_
 refine .o3 ?_
 exact .o2 (step_allocN (cs := [iv 0, iv 0, iv 0, .bool false, sv none ([]) 0, sv none ([]) 0, iv 0]) (t := 29) rfl (noG rfl) (fun _ w hn k => rfl) (fun q _ hq hb => ⟨q, rfl, hq, hb⟩)) <| .off <| .off .nil
 intro i h
 simp only [List.contains_eq_mem, List.mem_cons, List.not_mem_nil, or_false, decide_eq_true_eq] at h
 subst h
 exact eager_takeG rfl (noG rfl) fun _ w hn k => (by
     obtain ⟨rr, rs, rt, ru, nP, p0, p1⟩ : (fun (v_ : Value) (W : World) => ∃ (aT : Option Addr) (aU : Nat) (aV : Option Addr) (aW : Nat), v_ = .tuple #[vv (strV (a ++ asc (strOfNums (textI n)))) aT aU aV aW, iv 0] ∧ SRow W .u32 aT ((strV (a ++ asc (strOfNums (textI n)))).mag) aU ∧ SRow W .u16 aV ((strV (a ++ asc (strOfNums (textI n)))).s) aW) _ _ := k.dep 4 129 (by kernel_rfl) (by kernel_rfl)
     exact ⟨_, fun w hS => v_extract rfl nP rfl, rfl⟩)
 intro dW rv _ ct bk
 obtain ⟨eK, iZ, i0⟩ := aft bk eH iT dC ct
 have nQ := bk.fx 3 fK
 have nR := bk.fx 9 fL
 obtain ⟨cS, b6, cT, b7, dG, i1, i2⟩ : (VP (strV (a ++ asc (strOfNums (textI n))))) _ _ := bk.got 5 134 rfl (by kernel_rfl)
 have dG : dW.eval (.tmp 134) = vv (strV (a ++ asc (strOfNums (textI n)))) cS b6 cT b7 := dG
 have fM := bk.ge 6 135 rfl
 obtain ⟨dX, fN, eL, b8⟩ : IsNew _ _ _ _ _ := bk.got 7 22 rfl (by kernel_rfl)
 have i3 := dF.new_ ct
 have hne592 : bV ≠ dX := by have h1 := dF.lt; have h2 := eL; omega
 have p2 := Nat.le_trans dC.size eL
 have i4 := eI.new_ ct
 have i5 := eJ.new_ ct
 obtain ⟨fO, fP, fQ, b9, i6⟩ := s_many (P := Tryz.prog) (t := 29) (i := 0) [iv ((strV (a ++ asc (strOfNums (textI n)))).k), iv ((strV (a ++ asc (strOfNums (textI n)))).nk), iv ((strV (a ++ asc (strOfNums (textI n)))).nn), .bool ((strV (a ++ asc (strOfNums (textI n)))).neg), sv cS ((strV (a ++ asc (strOfNums (textI n)))).mag) b6, sv cT ((strV (a ++ asc (strOfNums (textI n)))).s) b7, iv ((strV (a ++ asc (strOfNums (textI n)))).ref)] Tryz.sizeOf29 rfl rfl rfl b8 lb
 have eM : Blk fO dX 29 [iv ((strV (a ++ asc (strOfNums (textI n)))).k), iv ((strV (a ++ asc (strOfNums (textI n)))).nk), iv ((strV (a ++ asc (strOfNums (textI n)))).nn), .bool ((strV (a ++ asc (strOfNums (textI n)))).neg), sv cS ((strV (a ++ asc (strOfNums (textI n)))).mag) b6, sv cT ((strV (a ++ asc (strOfNums (textI n)))).s) b7, iv ((strV (a ++ asc (strOfNums (textI n)))).ref)] := fQ
 refine st_act rfl rfl fun rx i7 => a_store' rfl fN dG fP (i7 _ _ trivial ?_)
 have i8 := i4.far b8 b9 (by first | rfl | decide | simp [notK])
 have i9 := i5.far b8 b9 (by first | rfl | decide | simp [notK])
 have ja := i1.far b8 b9 (by first | rfl | decide | simp [notK])
 have jb := i2.far b8 b9 (by first | rfl | decide | simp [notK])
 have jc := i6 _ _ _ (hne592) i3
 have dH := i0.trans b9 (fun _ h b => by subst b; omega)
 refine st_take rfl rfl (y_assign (v := iv 0) rfl fM) rfl ?_
 obtain ⟨nS, aA⟩ : ∃ a', a' = dW.put (some 23) (iv 0) := ⟨_, rfl⟩
 have eN := pz aA eK
 have jd := pd aA iZ
 have nT := pn aA nQ (by decide)
 have nU := pn aA nR (by decide)
 have ry := pn aA dG (by decide)
 have rz := pn aA fM (by decide)
 have nV := pn aA fN (by decide)
 have nW : nS.eval (.tmp 23) = iv 0 := by rw [aA]; exact put_same _ _ _ (by rw [eK]; decide)
 show stepsTo _ _ _ _ _ (dW.put (some 23) (iv 0)) _
 rw [← aA]
 refine st_nil (iU _ _ (wp_seq_k fun rA je => ?_))
 refine wp_gS (fun W => True) (fun W W' hn h => trivial) trivial [true, true, true, true, true, true, true, true, true, false, false] [7] [(9, false), (10, true)] 158
   [ve (vv (strV a) ar aj aC ak), ve (iv n), ve (.string (strOfNums (textI n))), (fun (v_ : Value) (W : World) => ∃ (bP : Option Addr) (bQ : Nat), v_ = vv (Vl.mk 5 0 0 false [] (asc (strOfNums (textI n))) 0) none 0 bP bQ ∧ SRow W .u16 bP (asc (strOfNums (textI n))) bQ), (fun (v_ : Value) (W : World) => ∃ (bR : Option Addr) (bS : Nat) (bT : Option Addr) (bU : Nat), v_ = .tuple #[vv (strV (a ++ asc (strOfNums (textI n)))) bR bS bT bU, iv 0] ∧ SRow W .u32 bR ((strV (a ++ asc (strOfNums (textI n)))).mag) bS ∧ SRow W .u16 bT ((strV (a ++ asc (strOfNums (textI n)))).s) bU), (fun (v_ : Value) (W : World) => ∃ (aX : Option Addr) (aY : Nat) (aZ : Option Addr) (a1 : Nat), v_ = .tuple #[vv (strV (a ++ asc (strOfNums (textI n)))) aX aY aZ a1, iv 0] ∧ SRow W .u32 aX ((strV (a ++ asc (strOfNums (textI n)))).mag) aY ∧ SRow W .u16 aZ ((strV (a ++ asc (strOfNums (textI n)))).s) a1),
    (VP (strV (a ++ asc (strOfNums (textI n))))), ve (iv 0), IsNew fO 29 [iv 0, iv 0, iv 0, .bool false, sv none ([]) 0, sv none ([]) 0, iv 0], vt, vt]
   [8] (newsCons (fun v w h => IsNew.old h) newsNil) eN (.eq (.eq (.eq (.cons (fun _ _ _ n ⟨_, _, e, h⟩ => ⟨_, _, e, h.new_ n⟩) (.cons (fun v W W' hn ⟨bR, bS, bT, bU, he, h0, h1⟩ => ⟨bR, bS, bT, bU, he, h0.new_ hn, h1.new_ hn⟩) (.cons (fun v W W' hn ⟨aX, aY, aZ, a1, he, h0, h1⟩ => ⟨aX, aY, aZ, a1, he, h0.new_ hn, h1.new_ hn⟩) (.cons (fun v W W' hn ⟨nX, nY, nZ, n0, he, h0, h1⟩ => ⟨nX, nY, nZ, n0, he, h0.new_ hn, h1.new_ hn⟩) (.eq (.nw (.tt (.tt (.nil)))))))))))) ?_ ?_ ?_
 refine .t (fun _ w hn k => ⟨_, v_load rfl (k.fx 9 nU) (l_agg Tryz.isAgg29 Tryz.sizeOf29 (jc.new_ hn) rfl), rfl⟩) <| .m (fun k => k.fx 3 nT) <| .o1 (ck rfl rfl rfl (fun _ w hn k => ⟨#[iv n], args1 (k.eq1 1 138 rfl), fun _ => by kernel_rfl, dec_any n _ (by omega) (by omega)⟩) fun _ => rfl) ?_
 refine .o1 (tkC rfl (noG rfl) rfl fun _ w hn k => (by
       refine ⟨#[.string (strOfNums (textI n))], _, args1 (k.eq1 2 139 rfl), fun w => by kernel_rfl, ostr_c (strOfNums (textI n)) _ (by first | omega | (show (_ : Nat) ≤ _; decide)), ?_⟩
       rintro e w' ⟨n1, n2, rfl, hmo0, hm⟩
       exact ⟨_, rfl, hm, ⟨n1, n2, rfl, hmo0⟩⟩)) ?_
 refine .o1 (tkC rfl (noG rfl) rfl fun _ w hn k => (by
       obtain ⟨n3, n4, n5, jf⟩ : (fun (v_ : Value) (W : World) => ∃ (bP : Option Addr) (bQ : Nat), v_ = vv (Vl.mk 5 0 0 false [] (asc (strOfNums (textI n))) 0) none 0 bP bQ ∧ SRow W .u16 bP (asc (strOfNums (textI n))) bQ) _ _ := k.dep 3 140 (by kernel_rfl) (by kernel_rfl)
       refine ⟨#[.string ⟨#[43]⟩, vv (strV a) ar aj aC ak, vv (Vl.mk 5 0 0 false [] (asc (strOfNums (textI n))) 0) none 0 n3 n4], _, args3 rfl (k.eq1 0 137 rfl) n5, fun w => by kernel_rfl, plusX_c a (strOfNums (textI n)) _ _ _ _ _ _ _ _ _ (i8.new_ hn) (i9.new_ hn) (SRow.nil _ _) jf hua (by first | omega | (simp only [List.length_append, List.length_nil]; omega)) (by omega) (HT.up (dH.transNew hn)), ?_⟩
       rintro e w' ⟨n6, n7, n8, n9, rfl, hmo0, hmo1, hm⟩
       exact ⟨_, rfl, hm, ⟨n6, n7, n8, n9, rfl, hmo0, hmo1⟩⟩)) ?_
 refine .o1 (tk rfl rfl fun _ w hn k => (by
       obtain ⟨oa, ob, oc, od, oe, jg, jh⟩ : (fun (v_ : Value) (W : World) => ∃ (bR : Option Addr) (bS : Nat) (bT : Option Addr) (bU : Nat), v_ = .tuple #[vv (strV (a ++ asc (strOfNums (textI n)))) bR bS bT bU, iv 0] ∧ SRow W .u32 bR ((strV (a ++ asc (strOfNums (textI n)))).mag) bS ∧ SRow W .u16 bT ((strV (a ++ asc (strOfNums (textI n)))).s) bU) _ _ := k.dep 4 141 (by kernel_rfl) (by kernel_rfl)
       exact ⟨_, v_move rfl oe, ⟨oa, ob, oc, od, rfl, jg, jh⟩⟩)) ?_
 refine .o1 (tk rfl rfl fun _ w hn k => (by
       obtain ⟨og, oh, oi, oj, ok, ji, jj⟩ : (fun (v_ : Value) (W : World) => ∃ (aX : Option Addr) (aY : Nat) (aZ : Option Addr) (a1 : Nat), v_ = .tuple #[vv (strV (a ++ asc (strOfNums (textI n)))) aX aY aZ a1, iv 0] ∧ SRow W .u32 aX ((strV (a ++ asc (strOfNums (textI n)))).mag) aY ∧ SRow W .u16 aZ ((strV (a ++ asc (strOfNums (textI n)))).s) a1) _ _ := k.dep 5 136 (by kernel_rfl) (by kernel_rfl)
       exact ⟨_, v_extract rfl ok rfl, ⟨og, oh, oi, oj, rfl, ji, jj⟩⟩)) ?_
 refine .o3 ?_
 exact .o2 (step_allocN (cs := [iv 0, iv 0, iv 0, .bool false, sv none ([]) 0, sv none ([]) 0, iv 0]) (t := 29) rfl (noG rfl) (fun _ w hn k => rfl) (fun q _ hq hb => ⟨q, rfl, hq, hb⟩)) <| .off <| .off .nil
 intro i h
 simp only [List.contains_eq_mem, List.mem_cons, List.not_mem_nil, or_false, decide_eq_true_eq] at h
 subst h
 exact eager_takeG rfl (noG rfl) fun _ w hn k => (by
     obtain ⟨rB, rC, rD, rE, ol, p3, p4⟩ : (fun (v_ : Value) (W : World) => ∃ (aX : Option Addr) (aY : Nat) (aZ : Option Addr) (a1 : Nat), v_ = .tuple #[vv (strV (a ++ asc (strOfNums (textI n)))) aX aY aZ a1, iv 0] ∧ SRow W .u32 aX ((strV (a ++ asc (strOfNums (textI n)))).mag) aY ∧ SRow W .u16 aZ ((strV (a ++ asc (strOfNums (textI n)))).s) a1) _ _ := k.dep 5 136 (by kernel_rfl) (by kernel_rfl)
     exact ⟨_, fun w hS => v_extract rfl ol rfl, rfl⟩)
 intro dY rF _ cu bl
 obtain ⟨eO, jk, jl⟩ := aft bl eN jd dH cu
 have om := bl.fx 22 nV
 have oo := bl.fx 23 nW
 obtain ⟨cU, cd, cV, ce, dI, jm, jn⟩ : (VP (strV (a ++ asc (strOfNums (textI n))))) _ _ := bl.got 6 142 rfl (by kernel_rfl)
 have dI : dY.eval (.tmp 142) = vv (strV (a ++ asc (strOfNums (textI n)))) cU cd cV ce := dI
 have fR := bl.ge 7 143 rfl
 obtain ⟨fS, fT, eP, cf⟩ : IsNew _ _ _ _ _ := bl.got 8 24 rfl (by kernel_rfl)
 have jo := eM.new_ cu
 have hne642 : dX ≠ fS := by have h1 := eM.lt; have h2 := eP; omega
 have p5 := Nat.le_trans dH.size eP
 have jp := ja.new_ cu
 have jq := jb.new_ cu
 obtain ⟨op, fU, fV, ch, jr⟩ := s_many (P := Tryz.prog) (t := 29) (i := 0) [iv ((strV (a ++ asc (strOfNums (textI n)))).k), iv ((strV (a ++ asc (strOfNums (textI n)))).nk), iv ((strV (a ++ asc (strOfNums (textI n)))).nn), .bool ((strV (a ++ asc (strOfNums (textI n)))).neg), sv cU ((strV (a ++ asc (strOfNums (textI n)))).mag) cd, sv cV ((strV (a ++ asc (strOfNums (textI n)))).s) ce, iv ((strV (a ++ asc (strOfNums (textI n)))).ref)] Tryz.sizeOf29 rfl rfl rfl cf lb
 have js : Blk op fS 29 [iv ((strV (a ++ asc (strOfNums (textI n)))).k), iv ((strV (a ++ asc (strOfNums (textI n)))).nk), iv ((strV (a ++ asc (strOfNums (textI n)))).nn), .bool ((strV (a ++ asc (strOfNums (textI n)))).neg), sv cU ((strV (a ++ asc (strOfNums (textI n)))).mag) cd, sv cV ((strV (a ++ asc (strOfNums (textI n)))).s) ce, iv ((strV (a ++ asc (strOfNums (textI n)))).ref)] := fV
 refine st_act rfl rfl fun rG jt => a_store' rfl fT dI fU (jt _ _ trivial ?_)
 have ju := jp.far cf ch (by first | rfl | decide | simp [notK])
 have jv := jq.far cf ch (by first | rfl | decide | simp [notK])
 have jw := jm.far cf ch (by first | rfl | decide | simp [notK])
 have jx := jn.far cf ch (by first | rfl | decide | simp [notK])
 have jy := jr _ _ _ (hne642) jo
 have eQ := jl.trans ch (fun _ h b => by subst b; omega)
 refine st_take rfl rfl (y_assign (v := iv 0) rfl fR) rfl ?_
 obtain ⟨oq, aB⟩ : ∃ a', a' = dY.put (some 25) (iv 0) := ⟨_, rfl⟩
 have eR := pz aB eO
 have jz := pd aB jk
 have os := pn aB om (by decide)
 have ot := pn aB oo (by decide)
 have rH := pn aB dI (by decide)
 have rI := pn aB fR (by decide)
 have ou := pn aB fT (by decide)
 have ov : oq.eval (.tmp 25) = iv 0 := by rw [aB]; exact put_same _ _ _ (by rw [eO]; decide)
 show stepsTo _ _ _ _ _ (dY.put (some 25) (iv 0)) _
 rw [← aB]
 refine st_nil (je _ _ (wp_seq_k fun rJ jA => ?_))
 refine wp_g0 (.replicate 15 true) [] 158
   [vT, vT, ve (iv 0), vT, vT, vT, ve (iv 0), vT, vT, vT, ve (vv (strV (a ++ asc (strOfNums (textI n)))) cS b6 cT b7), ve (vv (strV (a ++ asc (strOfNums (textI n)))) cU cd cV ce), vT, vT, vT] eR (.eq (.eq (.eq (.eq (.eq (.eq (.eq (.eq (.eq (.eq (.eq (.eq (.eq (.eq (.eq (.nil)))))))))))))))) ?_ ?_
 exact .o1 (ck rfl rfl rfl (fun _ w hn k => ⟨#[], rfl, fun _ => by kernel_rfl, first_c _ (HT.up (eQ.transNew hn))⟩) fun _ => rfl) <| .m (fun k => k.eq1 0 144 rfl) <| .gm (fun k => k.eq1 1 145 rfl) (fun k => k.fx 23 ot) <| .g (fun k => k.eq1 1 145 rfl) (fun _ w hn k => ⟨_, v_bin rfl (k.eq1 2 146 rfl) rfl (fun _ => rfl) (fun w => by kernel_rfl), rfl⟩) <| .t (fun _ w hn k => ⟨_, v_pickT rfl (k.eq1 1 145 rfl) (k.eq1 3 147 rfl), rfl⟩) <| .m (fun k => k.eq1 4 148 rfl) <| .gm (fun k => k.eq1 5 149 rfl) (fun k => k.fx 25 ov) <| .g (fun k => k.eq1 5 149 rfl) (fun _ w hn k => ⟨_, v_bin rfl (k.eq1 6 150 rfl) rfl (fun _ => rfl) (fun w => by kernel_rfl), rfl⟩) <| .t (fun _ w hn k => ⟨_, v_pickT rfl (k.eq1 5 149 rfl) (k.eq1 7 151 rfl), rfl⟩) <| .m (fun k => k.eq1 8 152 rfl) <| .g (fun k => k.eq1 9 153 rfl) (fun _ w hn k => ⟨_, v_load rfl (k.fx 22 os) (l_agg Tryz.isAgg29 Tryz.sizeOf29 (jy.new_ hn) rfl), rfl⟩) <| .g (fun k => k.eq1 9 153 rfl) (fun _ w hn k => ⟨_, v_load rfl (k.fx 24 ou) (l_agg Tryz.isAgg29 Tryz.sizeOf29 (js.new_ hn) rfl), rfl⟩) <| .o1 (cg rfl rfl rfl (fun _ _ k => k.eq1 9 153 rfl) rfl (fun _ w hn k => ⟨#[vv (strV (a ++ asc (strOfNums (textI n)))) cS b6 cT b7, vv (strV (a ++ asc (strOfNums (textI n)))) cU cd cV ce], args2 (k.eq1 10 154 rfl) (k.eq1 11 155 rfl), fun _ => by kernel_rfl, vsame_c (strV (a ++ asc (strOfNums (textI n)))) _ _ _ _ (strV (a ++ asc (strOfNums (textI n)))) _ _ _ _ _ (ju.new_ hn) (jv.new_ hn) (jw.new_ hn) (jx.new_ hn)⟩) fun _ => congrArg Value.bool (sameV_self _)) <| .t (fun _ w hn k => ⟨_, v_pickT rfl (k.eq1 9 153 rfl) (k.eq1 12 156 rfl), rfl⟩) <| .a (fun k => k.eq1 13 157 rfl) .nil
 refine aftI eR jz eQ fun rK rL p6 jB jC p7 jD => ?_
 have ow := jD.ge 14 8 rfl
 refine st_nil (jA _ _ ?_)
 refine wp_ret (ret_k jB (v := .bool true) (res_t rfl ow _) ?_)
 exact ⟨rfl, jC⟩
 have fJ := oF b5
 refine wp_g0 [true, true, true, true, true, true] [] 158
   [ve (iv n), vF, vF, ve (iv n), vT, vT] bi (.eq (.eq (.eq (.eq (.eq (.eq (.nil))))))) ?_ ?_
 exact .m (fun k => k.fx 3 bg) <| .t (fun _ w hn k => ⟨_, v_bin rfl (k.eq1 0 122 rfl) rfl (fun _ => rfl) (r_lssK bj), rfl⟩) <| .m (fun k => k.eq1 1 123 rfl) <| .gm (fun k => k.eq1 2 124 rfl) (fun k => k.fx 3 bg) <| .g (fun k => k.eq1 2 124 rfl) (fun _ w hn k => ⟨_, v_bin rfl (k.eq1 3 125 rfl) rfl (fun _ => rfl) (r_gtrK b5), rfl⟩) <| .t (fun _ w hn k => ⟨_, v_pickF rfl (k.eq1 2 124 rfl) (k.eq1 4 126 rfl), rfl⟩) .nil
 refine aftI bi ds dt fun rM rN eS jE eT dJ dK => ?_
 have rO := dK.fx 3 bg
 have rP := dK.fx 9 dV
 have ox := dK.ge 5 127 rfl
 have p8 := dw.new_ dJ
 have p9 := dx.new_ dJ
 have qa := dy.new_ dJ
 refine st_nil (dz _ _ ?_)
 refine wp_cond_true ox ?_
 refine wp_seq_k fun rQ jF => ?_
 refine wp_g0 [true, true] [] 158
   [vT, vT] eS (.eq (.eq (.nil))) ?_ ?_
 exact .o1 (ck rfl rfl rfl (fun _ w hn k => ⟨#[], rfl, fun _ => by kernel_rfl, first_c _ (HT.up (eT.transNew hn))⟩) fun _ => rfl) <| .a (fun k => k.eq1 0 128 rfl) .nil
 refine aftI eS jE eT fun rR rS qb jG jH qc jI => ?_
 have oy := jI.ge 1 8 rfl
 refine st_nil (jF _ _ ?_)
 refine wp_ret (ret_k jG (v := .bool true) (res_t rfl oy _) ?_)
 exact ⟨rfl, jH⟩
 have fY := oF cx
 refine wp_g0 (.replicate 13 true) [] 158
   [ve (sv Aa a ca), ve (iv (a.length : Int)), vF, vF, ve (sv Ab b cb), ve (iv (b.length : Int)), vF, vF, vF, ve (sv Ac c cc), ve (iv (c.length : Int)), vT, vT] be (.eq (.eq (.eq (.eq (.eq (.eq (.eq (.eq (.eq (.eq (.eq (.eq (.eq (.nil)))))))))))))) ?_ ?_
 exact .m (fun k => k.fx 0 co) <| .t (fun _ w hn k => ⟨_, v_lenR rfl elU (k.eq1 0 28 rfl), rfl⟩) <| .t (fun _ w hn k => ⟨_, v_bin rfl (k.eq1 1 29 rfl) rfl (fun _ => rfl) (r_gtrK bp), rfl⟩) <| .m (fun k => k.eq1 2 30 rfl) <| .gm (fun k => k.eq1 3 31 rfl) (fun k => k.fx 1 cw) <| .g (fun k => k.eq1 3 31 rfl) (fun _ w hn k => ⟨_, v_lenR rfl elU (k.eq1 4 32 rfl), rfl⟩) <| .g (fun k => k.eq1 3 31 rfl) (fun _ w hn k => ⟨_, v_bin rfl (k.eq1 5 33 rfl) rfl (fun _ => rfl) (r_gtrK cm), rfl⟩) <| .t (fun _ w hn k => ⟨_, v_pickF rfl (k.eq1 3 31 rfl) (k.eq1 6 34 rfl), rfl⟩) <| .m (fun k => k.eq1 7 35 rfl) <| .gm (fun k => k.eq1 8 36 rfl) (fun k => k.fx 2 cW) <| .g (fun k => k.eq1 8 36 rfl) (fun _ w hn k => ⟨_, v_lenR rfl elU (k.eq1 9 37 rfl), rfl⟩) <| .g (fun k => k.eq1 8 36 rfl) (fun _ w hn k => ⟨_, v_bin rfl (k.eq1 10 38 rfl) rfl (fun _ => rfl) (r_gtrK cx), rfl⟩) <| .t (fun _ w hn k => ⟨_, v_pickF rfl (k.eq1 8 36 rfl) (k.eq1 11 39 rfl), rfl⟩) .nil
 refine aftI be cX cY fun rT rU eU jJ eV qd ci => ?_
 have rV := ci.fx 0 co
 have rW := ci.fx 1 cw
 have rX := ci.fx 2 cW
 have rY := ci.fx 3 d1
 have oz := ci.ge 12 40 rfl
 refine st_nil (cZ _ _ ?_)
 refine wp_cond_true oz ?_
 refine wp_seq_k fun rZ jK => ?_
 refine wp_g0 [true, true] [] 158
   [vT, vT] eU (.eq (.eq (.nil))) ?_ ?_
 exact .o1 (ck rfl rfl rfl (fun _ w hn k => ⟨#[], rfl, fun _ => by kernel_rfl, first_c _ (HT.up (eV.transNew hn))⟩) fun _ => rfl) <| .a (fun k => k.eq1 0 41 rfl) .nil
 refine aftI eU jJ eV fun r0 r1 qe jL jM qf jN => ?_
 have oA := jN.ge 1 8 rfl
 refine st_nil (jK _ _ ?_)
 refine wp_ret (ret_k jL (v := .bool true) (res_t rfl oA _) ?_)
 exact ⟨rfl, jM⟩
 have fX := oF cm
 refine wp_g0 (.replicate 13 true) [] 158
   [ve (sv Aa a ca), ve (iv (a.length : Int)), vF, vF, ve (sv Ab b cb), ve (iv (b.length : Int)), vT, vT, vT, vU, vU, vU, vT] be (.eq (.eq (.eq (.eq (.eq (.eq (.eq (.eq (.eq (.eq (.eq (.eq (.eq (.nil)))))))))))))) ?_ ?_
 exact .m (fun k => k.fx 0 co) <| .t (fun _ w hn k => ⟨_, v_lenR rfl elU (k.eq1 0 28 rfl), rfl⟩) <| .t (fun _ w hn k => ⟨_, v_bin rfl (k.eq1 1 29 rfl) rfl (fun _ => rfl) (r_gtrK bp), rfl⟩) <| .m (fun k => k.eq1 2 30 rfl) <| .gm (fun k => k.eq1 3 31 rfl) (fun k => k.fx 1 cw) <| .g (fun k => k.eq1 3 31 rfl) (fun _ w hn k => ⟨_, v_lenR rfl elU (k.eq1 4 32 rfl), rfl⟩) <| .g (fun k => k.eq1 3 31 rfl) (fun _ w hn k => ⟨_, v_bin rfl (k.eq1 5 33 rfl) rfl (fun _ => rfl) (r_gtrK cm), rfl⟩) <| .t (fun _ w hn k => ⟨_, v_pickF rfl (k.eq1 3 31 rfl) (k.eq1 6 34 rfl), rfl⟩) <| .m (fun k => k.eq1 7 35 rfl) <| .s (fun k => k.eq1 8 36 rfl) <| .s (fun k => k.eq1 8 36 rfl) <| .s (fun k => k.eq1 8 36 rfl) <| .t (fun _ w hn k => ⟨_, v_pickT rfl (k.eq1 8 36 rfl) rfl, rfl⟩) .nil
 refine aftI be cX cY fun r2 r3 eW jO eX qg cj => ?_
 have r4 := cj.fx 0 co
 have r5 := cj.fx 1 cw
 have r6 := cj.fx 2 cW
 have r7 := cj.fx 3 d1
 have oB := cj.ge 12 40 rfl
 refine st_nil (cZ _ _ ?_)
 refine wp_cond_true oB ?_
 refine wp_seq_k fun r8 jP => ?_
 refine wp_g0 [true, true] [] 158
   [vT, vT] eW (.eq (.eq (.nil))) ?_ ?_
 exact .o1 (ck rfl rfl rfl (fun _ w hn k => ⟨#[], rfl, fun _ => by kernel_rfl, first_c _ (HT.up (eX.transNew hn))⟩) fun _ => rfl) <| .a (fun k => k.eq1 0 41 rfl) .nil
 refine aftI eW jO eX fun r9 sa qh jQ jR qi jS => ?_
 have oC := jS.ge 1 8 rfl
 refine st_nil (jP _ _ ?_)
 refine wp_ret (ret_k jQ (v := .bool true) (res_t rfl oC _) ?_)
 exact ⟨rfl, jR⟩
 have fW := oF bp
 refine wp_g0 (.replicate 13 true) [] 158
   [ve (sv Aa a ca), ve (iv (a.length : Int)), vT, vT, vU, vU, vU, vT, vT, vU, vU, vU, vT] be (.eq (.eq (.eq (.eq (.eq (.eq (.eq (.eq (.eq (.eq (.eq (.eq (.eq (.nil)))))))))))))) ?_ ?_
 exact .m (fun k => k.fx 0 co) <| .t (fun _ w hn k => ⟨_, v_lenR rfl elU (k.eq1 0 28 rfl), rfl⟩) <| .t (fun _ w hn k => ⟨_, v_bin rfl (k.eq1 1 29 rfl) rfl (fun _ => rfl) (r_gtrK bp), rfl⟩) <| .m (fun k => k.eq1 2 30 rfl) <| .s (fun k => k.eq1 3 31 rfl) <| .s (fun k => k.eq1 3 31 rfl) <| .s (fun k => k.eq1 3 31 rfl) <| .t (fun _ w hn k => ⟨_, v_pickT rfl (k.eq1 3 31 rfl) rfl, rfl⟩) <| .m (fun k => k.eq1 7 35 rfl) <| .s (fun k => k.eq1 8 36 rfl) <| .s (fun k => k.eq1 8 36 rfl) <| .s (fun k => k.eq1 8 36 rfl) <| .t (fun _ w hn k => ⟨_, v_pickT rfl (k.eq1 8 36 rfl) rfl, rfl⟩) .nil
 refine aftI be cX cY fun sb sc eY jT eZ qj cl => ?_
 have sd := cl.fx 0 co
 have se := cl.fx 1 cw
 have sf := cl.fx 2 cW
 have sg := cl.fx 3 d1
 have oD := cl.ge 12 40 rfl
 refine st_nil (cZ _ _ ?_)
 refine wp_cond_true oD ?_
 refine wp_seq_k fun sh jU => ?_
 refine wp_g0 [true, true] [] 158
   [vT, vT] eY (.eq (.eq (.nil))) ?_ ?_
 exact .o1 (ck rfl rfl rfl (fun _ w hn k => ⟨#[], rfl, fun _ => by kernel_rfl, first_c _ (HT.up (eZ.transNew hn))⟩) fun _ => rfl) <| .a (fun k => k.eq1 0 41 rfl) .nil
 refine aftI eY jT eZ fun si sj qk jV jW ql jX => ?_
 have oE := jX.ge 1 8 rfl
 refine st_nil (jU _ _ ?_)
 refine wp_ret (ret_k jV (v := .bool true) (res_t rfl oE _) ?_)
 exact ⟨rfl, jW⟩
end Go.Proofs.YtjakfchffigkkaaGreatDoor
