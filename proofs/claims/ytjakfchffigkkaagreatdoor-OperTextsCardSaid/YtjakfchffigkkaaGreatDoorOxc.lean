import Derived.Test.YtjakfchffigkkaaGreatDoorOxb
namespace Go.Proofs.YtjakfchffigkkaaGreatDoor
open Go.RowKit
set_option linter.unusedSimpArgs false
set_option linter.unusedVariables false
set_option maxHeartbeats 16000000
set_option maxRecDepth 100000
theorem numerics_c (v : Vl) (Av : Option Addr) (cv : Nat) (Bv : Option Addr) (dv : Nat) (u : Vl) (Au : Option Addr) (cu : Nat) (Bu : Option Addr) (du : Nat) (w : World) (hmv : SRow w .u32 Av v.mag cv) (hsv : SRow w .u16 Bv v.s dv) (hmu : SRow w .u32 Au u.mag cu) (hsu : SRow w .u16 Bu u.s du) (hvv : VOk v) (hvu : VOk u) : Calls Tryz.prog 74 #[vv v Av cv Bv dv, vv u Au cu Bu du] w (numerics_c_P v Av cv Bv dv u Au cu Bu du w) := by
 refine enter_abs Tryz.func74 rfl fun a0 bM gY hp => ?_
 have bM : a0.tmps.size = 41 := bM
 have bH : New w w := Upd.refl _ _
 have hp0 : a0.eval (.tmp 0) = vv v Av cv Bv dv := hp 0 _ rfl
 have hp1 : a0.eval (.tmp 1) = vv u Au cu Bu du := hp 1 _ rfl
 refine wp_seq_k fun K1 gZ => ?_
 refine wp_g [true, true, true, true, true] [] [] 41
   [IsNew w 29 [iv v.k, iv v.nk, iv v.nn, .bool v.neg, sv Av v.mag cv, sv Bv v.s dv, iv v.ref], IsNew w 29 [iv u.k, iv u.nk, iv u.nn, .bool u.neg, sv Au u.mag cu, sv Bu u.s du, iv u.ref], IsNew w 29 [iv 0, iv 0, iv 0, .bool false, sv none ([]) 0, sv none ([]) 0, iv 0], IsNew w 29 [iv 0, iv 0, iv 0, .bool false, sv none ([]) 0, sv none ([]) 0, iv 0], ve (iv 0)]
   [0, 1, 2, 3] (newsCons (fun v w h => IsNew.old h) (newsCons (fun v w h => IsNew.old h) (newsCons (fun v w h => IsNew.old h) (newsCons (fun v w h => IsNew.old h) newsNil)))) bM (.nw (.nw (.nw (.nw (.eq (.nil)))))) ?_ (fun i h => by cases h) ?_
 exact .o2 (step_allocN (cs := [iv v.k, iv v.nk, iv v.nn, .bool v.neg, sv Av v.mag cv, sv Bv v.s dv, iv v.ref]) (t := 29) rfl (noG rfl) (fun _ w hn k => v_box rfl (k.fx 0 hp0) (fun w => rfl)) (fun q _ hq hb => ⟨q, rfl, hq, hb⟩)) <| .o2 (step_allocN (cs := [iv u.k, iv u.nk, iv u.nn, .bool u.neg, sv Au u.mag cu, sv Bu u.s du, iv u.ref]) (t := 29) rfl (noG rfl) (fun _ w hn k => v_box rfl (k.fx 1 hp1) (fun w => rfl)) (fun q _ hq hb => ⟨q, rfl, hq, hb⟩)) <| .o2 (step_allocN (cs := [iv 0, iv 0, iv 0, .bool false, sv none ([]) 0, sv none ([]) 0, iv 0]) (t := 29) rfl (noG rfl) (fun _ w hn k => rfl) (fun q _ hq hb => ⟨q, rfl, hq, hb⟩)) <| .o2 (step_allocN (cs := [iv 0, iv 0, iv 0, .bool false, sv none ([]) 0, sv none ([]) 0, iv 0]) (t := 29) rfl (noG rfl) (fun _ w hn k => rfl) (fun q _ hq hb => ⟨q, rfl, hq, hb⟩)) <| .t (fun _ w hn k => ⟨_, v_assign rfl rfl, rfl⟩) .nil
 refine aftI bM gY bH fun a2 w3 fF g0 bv ja aS => ?_
 obtain ⟨q9, h8, fM, fN⟩ : IsNew _ _ _ _ _ := aS.got 0 2 rfl (by kernel_rfl)
 obtain ⟨cy, cz, fO, cA⟩ : IsNew _ _ _ _ _ := aS.got 1 3 rfl (by kernel_rfl)
 obtain ⟨aT, bN, fP, cB⟩ : IsNew _ _ _ _ _ := aS.got 2 4 rfl (by kernel_rfl)
 obtain ⟨aU, bO, fQ, cC⟩ : IsNew _ _ _ _ _ := aS.got 3 5 rfl (by kernel_rfl)
 have hne24 : q9 ≠ aT := aS.ne 0 2 2 4 h8 bN
 have hne25 : q9 ≠ aU := aS.ne 0 3 2 5 h8 bO
 have hne26 : cy ≠ aT := aS.ne 1 2 3 4 cz bN
 have hne27 : cy ≠ aU := aS.ne 1 3 3 5 cz bO
 have hne28 : aT ≠ aU := aS.ne 2 3 4 5 bN bO
 have h6 := Nat.le_trans bH.size fM
 have h7 := Nat.le_trans bH.size fO
 have h9 := Nat.le_trans bH.size fP
 have ia := Nat.le_trans bH.size fQ
 refine st_nil (gZ _ _ (wp_seq_k fun jb fR => ?_))
 refine wp_gS (fun W => True) (fun W W' hn h => trivial) trivial [true, true, true, true, true, true, false, false] [4] [(6, false), (7, true)] 41
   [ve (vv v Av cv Bv dv), (fun (v_ : Value) (W : World) => ∃ (A5 : Option Addr) (c6 : Nat) (A7 : Option Addr) (c8 : Nat), v_ = .tuple #[vv (numericV v).1 A5 c6 A7 c8, iv ((numericV v).2)] ∧ SRow W .u32 A5 ((numericV v).1.mag) c6 ∧ SRow W .u16 A7 ((numericV v).1.s) c8), (fun (v_ : Value) (W : World) => ∃ (aH : Option Addr) (aI : Nat) (aJ : Option Addr) (aK : Nat), v_ = .tuple #[vv (numericV v).1 aH aI aJ aK, iv ((numericV v).2)] ∧ SRow W .u32 aH ((numericV v).1.mag) aI ∧ SRow W .u16 aJ ((numericV v).1.s) aK), (fun (v_ : Value) (W : World) => ∃ (bi : Option Addr) (bj : Nat) (bk : Option Addr) (bl : Nat), v_ = vv (numericV v).1 bi bj bk bl ∧ SRow W .u32 bi ((numericV v).1.mag) bj ∧ SRow W .u16 bk ((numericV v).1.s) bl), ve (iv ((numericV v).2)), IsNew w3 29 [iv 0, iv 0, iv 0, .bool false, sv none ([]) 0, sv none ([]) 0, iv 0], vt, vt]
   [5] (newsCons (fun v w h => IsNew.old h) newsNil) fF (.eq (.cons (fun v W W' hn ⟨A5, c6, A7, c8, he, h0, h1⟩ => ⟨A5, c6, A7, c8, he, h0.new_ hn, h1.new_ hn⟩) (.cons (fun v W W' hn ⟨aH, aI, aJ, aK, he, h0, h1⟩ => ⟨aH, aI, aJ, aK, he, h0.new_ hn, h1.new_ hn⟩) (.cons (fun v W W' hn ⟨bi, bj, bk, bl, he, h0, h1⟩ => ⟨bi, bj, bk, bl, he, h0.new_ hn, h1.new_ hn⟩) (.eq (.nw (.tt (.tt (.nil))))))))) ?_ ?_ ?_
 refine .t (fun _ w hn k => ⟨_, v_load rfl (k.fx 2 h8) (l_agg Tryz.isAgg29 Tryz.sizeOf29 (fN.new_ hn) rfl), rfl⟩) ?_
 refine .o1 (tkC rfl (noG rfl) rfl fun _ w hn k => (by
       refine ⟨#[vv v Av cv Bv dv], _, args1 (k.eq1 0 11 rfl), fun w => by kernel_rfl, cnumeric_c v _ _ _ _ _ (hmv.new_ (bv.transNew hn)) (hsv.new_ (bv.transNew hn)) hvv, ?_⟩
       rintro e w' ⟨A1, c2, A3, c4, rfl, hmo0, hmo1, hm⟩
       exact ⟨_, rfl, hm, ⟨A1, c2, A3, c4, rfl, hmo0, hmo1⟩⟩)) ?_
 refine .o1 (tk rfl rfl fun _ w hn k => (by
       obtain ⟨A9, g1, g2, g3, g4, fS, fT⟩ : (fun (v_ : Value) (W : World) => ∃ (A5 : Option Addr) (c6 : Nat) (A7 : Option Addr) (c8 : Nat), v_ = .tuple #[vv (numericV v).1 A5 c6 A7 c8, iv ((numericV v).2)] ∧ SRow W .u32 A5 ((numericV v).1.mag) c6 ∧ SRow W .u16 A7 ((numericV v).1.s) c8) _ _ := k.dep 1 12 (by kernel_rfl) (by kernel_rfl)
       exact ⟨_, v_move rfl g4, ⟨A9, g1, g2, g3, rfl, fS, fT⟩⟩)) ?_
 refine .o1 (tk rfl rfl fun _ w hn k => (by
       obtain ⟨g5, g6, g7, g8, g9, fU, fV⟩ : (fun (v_ : Value) (W : World) => ∃ (aH : Option Addr) (aI : Nat) (aJ : Option Addr) (aK : Nat), v_ = .tuple #[vv (numericV v).1 aH aI aJ aK, iv ((numericV v).2)] ∧ SRow W .u32 aH ((numericV v).1.mag) aI ∧ SRow W .u16 aJ ((numericV v).1.s) aK) _ _ := k.dep 2 10 (by kernel_rfl) (by kernel_rfl)
       exact ⟨_, v_extract rfl g9 rfl, ⟨g5, g6, g7, g8, rfl, fU, fV⟩⟩)) ?_
 refine .o3 ?_
 exact .o2 (step_allocN (cs := [iv 0, iv 0, iv 0, .bool false, sv none ([]) 0, sv none ([]) 0, iv 0]) (t := 29) rfl (noG rfl) (fun _ w hn k => rfl) (fun q _ hq hb => ⟨q, rfl, hq, hb⟩)) <| .off <| .off .nil
 intro i h
 simp only [List.contains_eq_mem, List.mem_cons, List.not_mem_nil, or_false, decide_eq_true_eq] at h
 subst h
 exact eager_takeG rfl (noG rfl) fun _ w hn k => (by
     obtain ⟨jc, jd, je, jf, ha, ib, ic⟩ : (fun (v_ : Value) (W : World) => ∃ (aH : Option Addr) (aI : Nat) (aJ : Option Addr) (aK : Nat), v_ = .tuple #[vv (numericV v).1 aH aI aJ aK, iv ((numericV v).2)] ∧ SRow W .u32 aH ((numericV v).1.mag) aI ∧ SRow W .u16 aJ ((numericV v).1.s) aK) _ _ := k.dep 2 10 (by kernel_rfl) (by kernel_rfl)
     exact ⟨_, fun w hS => v_extract rfl ha rfl, rfl⟩)
 intro cD jg _ bw aQ
 obtain ⟨cE, fW, fX⟩ := aft aQ fF g0 bv bw
 have hc := aQ.fx 3 cz
 have hd := aQ.fx 4 bN
 have hf := aQ.fx 5 bO
 obtain ⟨ax, au, aL, av, bP, fY, fZ⟩ : (fun (v_ : Value) (W : World) => ∃ (bi : Option Addr) (bj : Nat) (bk : Option Addr) (bl : Nat), v_ = vv (numericV v).1 bi bj bk bl ∧ SRow W .u32 bi ((numericV v).1.mag) bj ∧ SRow W .u16 bk ((numericV v).1.s) bl) _ _ := aQ.got 3 13 rfl (by kernel_rfl)
 have bP : cD.eval (.tmp 13) = vv (numericV v).1 ax au aL av := bP
 have fG := aQ.ge 4 14 rfl
 obtain ⟨bm, fH, bx, bI⟩ : IsNew _ _ _ _ _ := aQ.got 5 7 rfl (by kernel_rfl)
 have f0 := cA.new_ bw
 have f1 := cB.new_ bw
 have f2 := cC.new_ bw
 have hne59 : cy ≠ bm := by have h1 := cA.lt; have h2 := bx; omega
 have hne60 : aT ≠ bm := by have h1 := cB.lt; have h2 := bx; omega
 have hne61 : aU ≠ bm := by have h1 := cC.lt; have h2 := bx; omega
 have id := Nat.le_trans bv.size bx
 obtain ⟨hg, dK, dL, bJ, bK⟩ := s_many (P := Tryz.prog) (t := 29) (i := 0) [iv ((numericV v).1.k), iv ((numericV v).1.nk), iv ((numericV v).1.nn), .bool ((numericV v).1.neg), sv ax ((numericV v).1.mag) au, sv aL ((numericV v).1.s) av, iv ((numericV v).1.ref)] Tryz.sizeOf29 rfl rfl rfl bI lb
 have cF : Blk hg bm 29 [iv ((numericV v).1.k), iv ((numericV v).1.nk), iv ((numericV v).1.nn), .bool ((numericV v).1.neg), sv ax ((numericV v).1.mag) au, sv aL ((numericV v).1.s) av, iv ((numericV v).1.ref)] := dL
 refine st_act rfl rfl fun jh f3 => a_store' rfl fH bP dK (f3 _ _ trivial ?_)
 have cG := fY.far bI bJ (by first | rfl | decide | simp [notK])
 have cH := fZ.far bI bJ (by first | rfl | decide | simp [notK])
 have cI := bK _ _ _ (hne59) f0
 have cJ := bK _ _ _ (hne60) f1
 have cK := bK _ _ _ (hne61) f2
 have cL := fX.trans bJ (fun _ h b => by subst b; omega)
 refine st_take rfl rfl (y_assign (v := iv ((numericV v).2)) rfl fG) rfl ?_
 obtain ⟨hh, aw⟩ : ∃ a', a' = cD.put (some 8) (iv ((numericV v).2)) := ⟨_, rfl⟩
 have bz := pz aw cE
 have cM := pd aw fW
 have fI := pn aw hc (by decide)
 have fJ := pn aw hd (by decide)
 have fK := pn aw hf (by decide)
 have ji := pn aw bP (by decide)
 have jj := pn aw fG (by decide)
 have fL := pn aw fH (by decide)
 have bQ : hh.eval (.tmp 8) = iv ((numericV v).2) := by rw [aw]; exact put_same _ _ _ (by rw [cE]; decide)
 show stepsTo _ _ _ _ _ (cD.put (some 8) (iv ((numericV v).2))) _
 rw [← aw]
 refine st_nil (fR _ _ (wp_seq_k fun jk f4 => ?_))
 refine wp_seq_k fun jl cN => ?_
 rcases bc (decide (((numericV v).2) = 0)) with ab | ab
 have dM := oT ab
 refine wp_g0 [true, true] [] 41
   [ve (iv ((numericV v).2)), vF] bz (.eq (.eq (.nil))) ?_ ?_
 exact .m (fun k => k.fx 8 bQ) <| .t (fun _ w hn k => ⟨_, v_bin rfl (k.eq1 0 15 rfl) rfl (fun _ => rfl) (r_neq ab), rfl⟩) .nil
 refine aftI bz cM cL fun jm hi cO f5 ba a8 a9 => ?_
 have hj := a9.fx 3 fI
 have hl := a9.fx 4 fJ
 have ho := a9.fx 5 fK
 have f6 := a9.fx 7 fL
 have f7 := a9.fx 8 bQ
 have f8 := a9.ge 1 16 rfl
 have dN := cI.new_ a8
 have bR := cJ.new_ a8
 have bS := cK.new_ a8
 have bT := cF.new_ a8
 have dO := cG.new_ a8
 have dP := cH.new_ a8
 refine st_nil (cN _ _ ?_)
 refine wp_cond_false f8 ?_
 refine wp_skip ?_
 refine f4 _ _ ?_
 refine wp_seq_k fun ie dQ => ?_
 refine wp_gS (fun W => True) (fun W W' hn h => trivial) trivial [true, true, true, true, true, true, false, false] [4] [(6, false), (7, true)] 41
   [ve (vv u Au cu Bu du), (fun (v_ : Value) (W : World) => ∃ (bn : Option Addr) (bo : Nat) (bp : Option Addr) (bq : Nat), v_ = .tuple #[vv (numericV u).1 bn bo bp bq, iv ((numericV u).2)] ∧ SRow W .u32 bn ((numericV u).1.mag) bo ∧ SRow W .u16 bp ((numericV u).1.s) bq), (fun (v_ : Value) (W : World) => ∃ (aM : Option Addr) (aN : Nat) (aO : Option Addr) (aP : Nat), v_ = .tuple #[vv (numericV u).1 aM aN aO aP, iv ((numericV u).2)] ∧ SRow W .u32 aM ((numericV u).1.mag) aN ∧ SRow W .u16 aO ((numericV u).1.s) aP), (fun (v_ : Value) (W : World) => ∃ (br : Option Addr) (bs : Nat) (bt : Option Addr) (bu : Nat), v_ = vv (numericV u).1 br bs bt bu ∧ SRow W .u32 br ((numericV u).1.mag) bs ∧ SRow W .u16 bt ((numericV u).1.s) bu), ve (iv ((numericV u).2)), IsNew hi 29 [iv 0, iv 0, iv 0, .bool false, sv none ([]) 0, sv none ([]) 0, iv 0], vt, vt]
   [5] (newsCons (fun v w h => IsNew.old h) newsNil) cO (.eq (.cons (fun v W W' hn ⟨bn, bo, bp, bq, he, h0, h1⟩ => ⟨bn, bo, bp, bq, he, h0.new_ hn, h1.new_ hn⟩) (.cons (fun v W W' hn ⟨aM, aN, aO, aP, he, h0, h1⟩ => ⟨aM, aN, aO, aP, he, h0.new_ hn, h1.new_ hn⟩) (.cons (fun v W W' hn ⟨br, bs, bt, bu, he, h0, h1⟩ => ⟨br, bs, bt, bu, he, h0.new_ hn, h1.new_ hn⟩) (.eq (.nw (.tt (.tt (.nil))))))))) ?_ ?_ ?_
 refine .t (fun _ w hn k => ⟨_, v_load rfl (k.fx 3 hj) (l_agg Tryz.isAgg29 Tryz.sizeOf29 (dN.new_ hn) rfl), rfl⟩) ?_
 refine .o1 (tkC rfl (noG rfl) rfl fun _ w hn k => (by
       refine ⟨#[vv u Au cu Bu du], _, args1 (k.eq1 0 21 rfl), fun w => by kernel_rfl, cnumeric_c u _ _ _ _ _ (hmu.new_ (ba.transNew hn)) (hsu.new_ (ba.transNew hn)) hvu, ?_⟩
       rintro e w' ⟨ax, hr, hs, ht, rfl, hmo0, hmo1, hm⟩
       exact ⟨_, rfl, hm, ⟨ax, hr, hs, ht, rfl, hmo0, hmo1⟩⟩)) ?_
 refine .o1 (tk rfl rfl fun _ w hn k => (by
       obtain ⟨hu, hv, hw, hx, hy, f9, ga⟩ : (fun (v_ : Value) (W : World) => ∃ (bn : Option Addr) (bo : Nat) (bp : Option Addr) (bq : Nat), v_ = .tuple #[vv (numericV u).1 bn bo bp bq, iv ((numericV u).2)] ∧ SRow W .u32 bn ((numericV u).1.mag) bo ∧ SRow W .u16 bp ((numericV u).1.s) bq) _ _ := k.dep 1 22 (by kernel_rfl) (by kernel_rfl)
       exact ⟨_, v_move rfl hy, ⟨hu, hv, hw, hx, rfl, f9, ga⟩⟩)) ?_
 refine .o1 (tk rfl rfl fun _ w hn k => (by
       obtain ⟨hz, hA, hC, hD, hE, gb, gc⟩ : (fun (v_ : Value) (W : World) => ∃ (aM : Option Addr) (aN : Nat) (aO : Option Addr) (aP : Nat), v_ = .tuple #[vv (numericV u).1 aM aN aO aP, iv ((numericV u).2)] ∧ SRow W .u32 aM ((numericV u).1.mag) aN ∧ SRow W .u16 aO ((numericV u).1.s) aP) _ _ := k.dep 2 20 (by kernel_rfl) (by kernel_rfl)
       exact ⟨_, v_extract rfl hE rfl, ⟨hz, hA, hC, hD, rfl, gb, gc⟩⟩)) ?_
 refine .o3 ?_
 exact .o2 (step_allocN (cs := [iv 0, iv 0, iv 0, .bool false, sv none ([]) 0, sv none ([]) 0, iv 0]) (t := 29) rfl (noG rfl) (fun _ w hn k => rfl) (fun q _ hq hb => ⟨q, rfl, hq, hb⟩)) <| .off <| .off .nil
 intro i h
 simp only [List.contains_eq_mem, List.mem_cons, List.not_mem_nil, or_false, decide_eq_true_eq] at h
 subst h
 exact eager_takeG rfl (noG rfl) fun _ w hn k => (by
     obtain ⟨jn, jo, jp, jq, hF, ig, ih⟩ : (fun (v_ : Value) (W : World) => ∃ (aM : Option Addr) (aN : Nat) (aO : Option Addr) (aP : Nat), v_ = .tuple #[vv (numericV u).1 aM aN aO aP, iv ((numericV u).2)] ∧ SRow W .u32 aM ((numericV u).1.mag) aN ∧ SRow W .u16 aO ((numericV u).1.s) aP) _ _ := k.dep 2 20 (by kernel_rfl) (by kernel_rfl)
     exact ⟨_, fun w hS => v_extract rfl hF rfl, rfl⟩)
 intro bL ii _ aC ak
 obtain ⟨bU, dR, dS⟩ := aft ak cO f5 ba aC
 have gd := ak.fx 4 hl
 have gf := ak.fx 5 ho
 have gg := ak.fx 7 f6
 have ij := ak.fx 8 f7
 obtain ⟨ai, ad, aj, ae, bA, dT, dU⟩ : (fun (v_ : Value) (W : World) => ∃ (br : Option Addr) (bs : Nat) (bt : Option Addr) (bu : Nat), v_ = vv (numericV u).1 br bs bt bu ∧ SRow W .u32 br ((numericV u).1.mag) bs ∧ SRow W .u16 bt ((numericV u).1.s) bu) _ _ := ak.got 3 23 rfl (by kernel_rfl)
 have bA : bL.eval (.tmp 23) = vv (numericV u).1 ai ad aj ae := bA
 have cP := ak.ge 4 24 rfl
 obtain ⟨aR, cQ, bb, aV⟩ : IsNew _ _ _ _ _ := ak.got 5 9 rfl (by kernel_rfl)
 have dV := bR.new_ aC
 have dW := bS.new_ aC
 have dX := bT.new_ aC
 have hne136 : aT ≠ aR := by have h1 := bR.lt; have h2 := bb; omega
 have hne137 : aU ≠ aR := by have h1 := bS.lt; have h2 := bb; omega
 have hne138 : bm ≠ aR := by have h1 := bT.lt; have h2 := bb; omega
 have hG := Nat.le_trans ba.size bb
 have dY := dO.new_ aC
 have dZ := dP.new_ aC
 obtain ⟨gh, cR, cS, aW, bB⟩ := s_many (P := Tryz.prog) (t := 29) (i := 0) [iv ((numericV u).1.k), iv ((numericV u).1.nk), iv ((numericV u).1.nn), .bool ((numericV u).1.neg), sv ai ((numericV u).1.mag) ad, sv aj ((numericV u).1.s) ae, iv ((numericV u).1.ref)] Tryz.sizeOf29 rfl rfl rfl aV lb
 have bV : Blk gh aR 29 [iv ((numericV u).1.k), iv ((numericV u).1.nk), iv ((numericV u).1.nn), .bool ((numericV u).1.neg), sv ai ((numericV u).1.mag) ad, sv aj ((numericV u).1.s) ae, iv ((numericV u).1.ref)] := cS
 refine st_act rfl rfl fun ik d0 => a_store' rfl cQ bA cR (d0 _ _ trivial ?_)
 have bW := dY.far aV aW (by first | rfl | decide | simp [notK])
 have bX := dZ.far aV aW (by first | rfl | decide | simp [notK])
 have bY := dT.far aV aW (by first | rfl | decide | simp [notK])
 have bZ := dU.far aV aW (by first | rfl | decide | simp [notK])
 have b0 := bB _ _ _ (hne136) dV
 have b1 := bB _ _ _ (hne137) dW
 have b2 := bB _ _ _ (hne138) dX
 have b3 := dS.trans aW (fun _ h b => by subst b; omega)
 refine st_take rfl rfl (y_assign (v := iv ((numericV u).2)) rfl cP) rfl ?_
 obtain ⟨gi, af⟩ : ∃ a', a' = bL.put (some 8) (iv ((numericV u).2)) := ⟨_, rfl⟩
 have bd := pz af bU
 have b4 := pd af dR
 have cT := pn af gd (by decide)
 have cU := pn af gf (by decide)
 have cV := pn af gg (by decide)
 have il := pn af bA (by decide)
 have im := pn af cP (by decide)
 have cW := pn af cQ (by decide)
 have bC : gi.eval (.tmp 8) = iv ((numericV u).2) := by rw [af]; exact put_same _ _ _ (by rw [bU]; decide)
 show stepsTo _ _ _ _ _ (bL.put (some 8) (iv ((numericV u).2))) _
 rw [← af]
 refine st_nil (dQ _ _ (wp_seq_k fun io d1 => ?_))
 refine wp_block ?_
 refine wp_seq_k fun ip b5 => ?_
 rcases bc (decide (((numericV u).2) = 0)) with aa | aa
 have cX := oT aa
 refine wp_g0 [true, true, true] [] 41
   [ve (iv ((numericV u).2)), vF, vF] bd (.eq (.eq (.eq (.nil)))) ?_ ?_
 exact .m (fun k => k.fx 8 bC) <| .t (fun _ w hn k => ⟨_, v_bin rfl (k.eq1 0 26 rfl) rfl (fun _ => rfl) (r_neq aa), rfl⟩) <| .a (fun k => k.eq1 1 27 rfl) .nil
 refine aftI bd b4 b3 fun iq ir be b6 b7 al aD => ?_
 have cY := aD.fx 4 cT
 have cZ := aD.fx 5 cU
 have bD := aD.fx 7 cV
 have bE := aD.fx 9 cW
 have it := aD.fx 8 bC
 have gj := aD.ge 2 25 rfl
 have b8 := b0.new_ al
 have b9 := b1.new_ al
 have bf := b2.new_ al
 have bg := bV.new_ al
 have ca := bW.new_ al
 have cb := bX.new_ al
 have cc := bY.new_ al
 have cd := bZ.new_ al
 refine st_nil (b5 _ _ ?_)
 refine wp_cond_false gj ?_
 refine wp_seq_k fun iu ce => ?_
 rcases bc (decide (((numericV v).1.k) = ((numericV u).1.k))) with ac | ac
 have c0 := oT ac
 refine wp_g0 [true, true, true, true, true, true] [] 41
   [ve (pv bm), ve (iv ((numericV v).1.k)), ve (pv aR), ve (iv ((numericV u).1.k)), vF, vF] be (.eq (.eq (.eq (.eq (.eq (.eq (.nil))))))) ?_ ?_
 exact .f (fun k => k.fx 7 bD) <| .t (fun _ w hn k => ⟨_, v_load rfl (k.eq1 0 32 rfl) (l_one Tryz.isAgg3 ((bf.new_ hn).cell 0)), rfl⟩) <| .f (fun k => k.fx 9 bE) <| .t (fun _ w hn k => ⟨_, v_load rfl (k.eq1 2 34 rfl) (l_one Tryz.isAgg3 ((bg.new_ hn).cell 0)), rfl⟩) <| .t (fun _ w hn k => ⟨_, v_bin rfl (k.eq1 1 33 rfl) (k.eq1 3 35 rfl) (fun _ => rfl) (r_neq ac), rfl⟩) <| .a (fun k => k.eq1 4 36 rfl) .nil
 refine aftI be b6 b7 fun iw ix cf d2 d3 am aX => ?_
 have gk := aX.fx 4 cY
 have gl := aX.fx 5 cZ
 have gm := aX.fx 7 bD
 have gn := aX.fx 9 bE
 have go := aX.ge 5 31 rfl
 have d4 := b8.new_ am
 have d5 := b9.new_ am
 have d6 := bf.new_ am
 have ch := bg.new_ am
 have d7 := ca.new_ am
 have d8 := cb.new_ am
 have d9 := cc.new_ am
 have ea := cd.new_ am
 refine st_nil (ce _ _ ?_)
 refine wp_cond_false go ?_
 refine wp_skip ?_
 refine d1 _ _ ?_
 refine wp_seq_k fun iy eb => ?_
 refine wp_gS (fun W => Blk W aR 29 [iv ((numericV u).1.k), iv ((numericV u).1.nk), iv ((numericV u).1.nn), .bool ((numericV u).1.neg), sv ai ((numericV u).1.mag) ad, sv aj ((numericV u).1.s) ae, iv ((numericV u).1.ref)] ∧ True) (fun W W' hn h => ⟨Blk.new_ h.1 hn, trivial⟩) ⟨ch, trivial⟩ [true, true, false, false, false] [1] [(2, false), (3, false), (4, true)] 41
   [ve (vv (numericV v).1 ax au aL av), ve (vv (numericV u).1 ai ad aj ae), vt, vt, vt]
   [] newsNil cf (.eq (.eq (.tt (.tt (.tt (.nil)))))) ?_ ?_ ?_
 refine .t (fun _ w hn k => ⟨_, v_load rfl (k.fx 7 gm) (l_agg Tryz.isAgg29 Tryz.sizeOf29 (d6.new_ hn) rfl), rfl⟩) ?_
 refine .o3 ?_
 exact .off <| .off <| .off .nil
 intro i h
 simp only [List.contains_eq_mem, List.mem_cons, List.not_mem_nil, or_false, decide_eq_true_eq] at h
 subst h
 exact eager_takeG rfl (noG rfl) fun _ w hn k => (by
     exact ⟨_, fun w hS => v_load rfl (k.fx 9 gn) (l_agg Tryz.isAgg29 Tryz.sizeOf29 hS.1 rfl), rfl⟩)
 intro c1 iz _ an aY
 obtain ⟨ci, ec, ed⟩ := aft aY cf d2 d3 an
 have c3 := aY.fx 4 gk
 have c5 := aY.fx 5 gl
 have c7 := aY.ge 0 39 rfl
 have c9 := aY.ge 1 40 rfl
 have aZ := d4.new_ an
 have ee := d5.new_ an
 have cj := ch.new_ an
 have ef := d7.new_ an
 have eg := d8.new_ an
 have eh := d9.new_ an
 have ei := ea.new_ an
 obtain ⟨gp, da, db, a1, bF⟩ := s_many (P := Tryz.prog) (t := 29) (i := 0) [iv ((numericV v).1.k), iv ((numericV v).1.nk), iv ((numericV v).1.nn), .bool ((numericV v).1.neg), sv ax ((numericV v).1.mag) au, sv aL ((numericV v).1.s) av, iv ((numericV v).1.ref)] Tryz.sizeOf29 rfl rfl rfl aZ lb
 have ej : Blk gp aT 29 [iv ((numericV v).1.k), iv ((numericV v).1.nk), iv ((numericV v).1.nn), .bool ((numericV v).1.neg), sv ax ((numericV v).1.mag) au, sv aL ((numericV v).1.s) av, iv ((numericV v).1.ref)] := db
 refine st_act rfl rfl fun iA ek => a_store' rfl c3 c7 da (ek _ _ ⟨(bF _ _ _ (fun h => hne136 h.symm) cj), trivial⟩ ?_)
 have el := ef.far aZ a1 (by first | rfl | decide | simp [notK])
 have em := eg.far aZ a1 (by first | rfl | decide | simp [notK])
 have en := eh.far aZ a1 (by first | rfl | decide | simp [notK])
 have eo := ei.far aZ a1 (by first | rfl | decide | simp [notK])
 have a3 := bF _ _ _ (fun h => hne28 h.symm) ee
 have cl := bF _ _ _ (fun h => hne136 h.symm) cj
 have ep := ed.trans a1 (fun _ h b => by subst b; omega)
 obtain ⟨gq, dc, dd, a4, bG⟩ := s_many (P := Tryz.prog) (t := 29) (i := 0) [iv ((numericV u).1.k), iv ((numericV u).1.nk), iv ((numericV u).1.nn), .bool ((numericV u).1.neg), sv ai ((numericV u).1.mag) ad, sv aj ((numericV u).1.s) ae, iv ((numericV u).1.ref)] Tryz.sizeOf29 rfl rfl rfl a3 lb
 have er : Blk gq aU 29 [iv ((numericV u).1.k), iv ((numericV u).1.nk), iv ((numericV u).1.nn), .bool ((numericV u).1.neg), sv ai ((numericV u).1.mag) ad, sv aj ((numericV u).1.s) ae, iv ((numericV u).1.ref)] := dd
 refine st_act rfl rfl fun iB es => a_store' rfl c5 c9 dc (es _ _ ⟨(bG _ _ _ (fun h => hne137 h.symm) cl), trivial⟩ ?_)
 have et := el.far a3 a4 (by first | rfl | decide | simp [notK])
 have eu := em.far a3 a4 (by first | rfl | decide | simp [notK])
 have ev := en.far a3 a4 (by first | rfl | decide | simp [notK])
 have ew := eo.far a3 a4 (by first | rfl | decide | simp [notK])
 have ex := bG _ _ _ (hne28) ej
 have hH := bG _ _ _ (fun h => hne137 h.symm) cl
 have ey := ep.trans a4 (fun _ h b => by subst b; omega)
 refine st_take rfl rfl (y_assign (v := iv 0) rfl rfl) rfl ?_
 obtain ⟨gr, ao⟩ : ∃ a', a' = c1.put (some 6) (iv 0) := ⟨_, rfl⟩
 have hI := pz ao ci
 have ez := pd ao ec
 have gs := pn ao c3 (by decide)
 have gt := pn ao c5 (by decide)
 have iC := pn ao c7 (by decide)
 have iD := pn ao c9 (by decide)
 have gu : gr.eval (.tmp 6) = iv 0 := by rw [ao]; exact put_same _ _ _ (by rw [ci]; decide)
 show stepsTo _ _ _ _ _ (c1.put (some 6) (iv 0)) _
 rw [← ao]
 refine st_nil (eb _ _ ?_)
 refine wp_ret (ret_k ez (v := .tuple #[vv (numericV v).1 ax au aL av, vv (numericV u).1 ai ad aj ae, iv 0]) (res_cct rfl gs gt gu (l_agg Tryz.isAgg29 Tryz.sizeOf29 ex rfl) (l_agg Tryz.isAgg29 Tryz.sizeOf29 er rfl)) ?_)
 have ay : (numericsV v u).1.mag = (numericV v).1.mag := by first | rfl | (simp only [numericsV, Vl.z, ab, aa, ac, bsm] <;> rfl) | (exfalso; omega)
 have az : (numericsV v u).1.s = (numericV v).1.s := by first | rfl | (simp only [numericsV, Vl.z, ab, aa, ac, bsm] <;> rfl) | (exfalso; omega)
 have aA : (numericsV v u).2.1.mag = (numericV u).1.mag := by first | rfl | (simp only [numericsV, Vl.z, ab, aa, ac, bsm] <;> rfl) | (exfalso; omega)
 have aB : (numericsV v u).2.1.s = (numericV u).1.s := by first | rfl | (simp only [numericsV, Vl.z, ab, aa, ac, bsm] <;> rfl) | (exfalso; omega)
 exact ⟨ax, au, aL, av, ai, ad, aj, ae, (by show Ending.returned (.tuple #[vv (numericV v).1 ax au aL av, vv (numericV u).1 ai ad aj ae, iv 0]) = Ending.returned (.tuple #[vv (numericsV v u).1 ax au aL av, vv (numericsV v u).2.1 ai ad aj ae, iv ((numericsV v u).2.2)]); (first | rfl | (simp only [numericsV, Vl.z, ab, aa, ac, ay, az, aA, aB, bsm] <;> rfl) | (exfalso; omega))), (by rw [ay]; exact et), (by rw [az]; exact eu), (by rw [aA]; exact ev), (by rw [aB]; exact ew), ey⟩
 have c0 := oF ac
 refine wp_g0 [true, true, true, true, true, true] [] 41
   [ve (pv bm), ve (iv ((numericV v).1.k)), ve (pv aR), ve (iv ((numericV u).1.k)), vT, vT] be (.eq (.eq (.eq (.eq (.eq (.eq (.nil))))))) ?_ ?_
 exact .f (fun k => k.fx 7 bD) <| .t (fun _ w hn k => ⟨_, v_load rfl (k.eq1 0 32 rfl) (l_one Tryz.isAgg3 ((bf.new_ hn).cell 0)), rfl⟩) <| .f (fun k => k.fx 9 bE) <| .t (fun _ w hn k => ⟨_, v_load rfl (k.eq1 2 34 rfl) (l_one Tryz.isAgg3 ((bg.new_ hn).cell 0)), rfl⟩) <| .t (fun _ w hn k => ⟨_, v_bin rfl (k.eq1 1 33 rfl) (k.eq1 3 35 rfl) (fun _ => rfl) (r_neq ac), rfl⟩) <| .a (fun k => k.eq1 4 36 rfl) .nil
 refine aftI be b6 b7 fun iE iF cm eA eB ap a5 => ?_
 have gv := a5.fx 4 cY
 have gw := a5.fx 5 cZ
 have iG := a5.fx 7 bD
 have iH := a5.fx 9 bE
 have gx := a5.ge 5 31 rfl
 have eC := b8.new_ ap
 have eD := b9.new_ ap
 have hJ := bf.new_ ap
 have hK := bg.new_ ap
 have hL := ca.new_ ap
 have hM := cb.new_ ap
 have hN := cc.new_ ap
 have hO := cd.new_ ap
 refine st_nil (ce _ _ ?_)
 refine wp_cond_true gx ?_
 refine wp_seq_k fun iI eE => ?_
 refine wp_g [true, true, false, false, false] [1] [(2, false), (3, false), (4, true)] 41
   [ve (vv (Vl.mk 0 0 0 false [] [] 0) none 0 none 0), ve (vv (Vl.mk 0 0 0 false [] [] 0) none 0 none 0), vt, vt, vt]
   [] newsNil cm (.eq (.eq (.tt (.tt (.tt (.nil)))))) ?_ ?_ ?_
 refine .t (fun _ w hn k => ⟨_, v_build (ps := []) rfl parts0 (by kernel_rfl), rfl⟩) ?_
 refine .o3 ?_
 exact .off <| .off <| .off .nil
 intro i h
 simp only [List.contains_eq_mem, List.mem_cons, List.not_mem_nil, or_false, decide_eq_true_eq] at h
 subst h
 exact eager_take rfl rfl fun _ w hn k => ⟨vv (Vl.mk 0 0 0 false [] [] 0) none 0 none 0, fun w => v_build (ps := []) rfl parts0 (by kernel_rfl), rfl⟩
 refine aftI cm eA eB fun de iJ cn eF eG co bh => ?_
 have df := bh.fx 4 gv
 have dg := bh.fx 5 gw
 have dh := bh.ge 0 37 rfl
 have di := bh.ge 1 38 rfl
 have eH := eC.new_ co
 have eI := eD.new_ co
 obtain ⟨gy, dj, dk, eJ, eK⟩ := s_many (P := Tryz.prog) (t := 29) (i := 0) [iv 0, iv 0, iv 0, .bool false, sv none ([]) 0, sv none ([]) 0, iv 0] Tryz.sizeOf29 rfl rfl rfl eH lb
 have eL : Blk gy aT 29 [iv 0, iv 0, iv 0, .bool false, sv none ([]) 0, sv none ([]) 0, iv 0] := dk
 refine st_act rfl rfl fun iK eM => a_store' rfl df dh dj (eM _ _ trivial ?_)
 have eN := eK _ _ _ (fun h => hne28 h.symm) eI
 have eO := eG.trans eJ (fun _ h b => by subst b; omega)
 obtain ⟨gz, dl, dm, eP, eQ⟩ := s_many (P := Tryz.prog) (t := 29) (i := 0) [iv 0, iv 0, iv 0, .bool false, sv none ([]) 0, sv none ([]) 0, iv 0] Tryz.sizeOf29 rfl rfl rfl eN lb
 have eR : Blk gz aU 29 [iv 0, iv 0, iv 0, .bool false, sv none ([]) 0, sv none ([]) 0, iv 0] := dm
 refine st_act rfl rfl fun iL eS => a_store' rfl dg di dl (eS _ _ trivial ?_)
 have eT := eQ _ _ _ (hne28) eL
 have eU := eO.trans eP (fun _ h b => by subst b; omega)
 refine st_take rfl rfl (y_assign (v := iv 1) rfl rfl) rfl ?_
 obtain ⟨gA, aq⟩ : ∃ a', a' = de.put (some 6) (iv 1) := ⟨_, rfl⟩
 have hP := pz aq cn
 have eV := pd aq eF
 have gB := pn aq df (by decide)
 have gC := pn aq dg (by decide)
 have iM := pn aq dh (by decide)
 have iN := pn aq di (by decide)
 have gD : gA.eval (.tmp 6) = iv 1 := by rw [aq]; exact put_same _ _ _ (by rw [cn]; decide)
 show stepsTo _ _ _ _ _ (de.put (some 6) (iv 1)) _
 rw [← aq]
 refine st_nil (eE _ _ ?_)
 refine wp_ret (ret_k eV (v := .tuple #[vv (Vl.mk 0 0 0 false [] [] 0) none 0 none 0, vv (Vl.mk 0 0 0 false [] [] 0) none 0 none 0, iv 1]) (res_cct rfl gB gC gD (l_agg Tryz.isAgg29 Tryz.sizeOf29 eT rfl) (l_agg Tryz.isAgg29 Tryz.sizeOf29 eR rfl)) ?_)
 have ay : (numericsV v u).1.mag = [] := by first | rfl | (simp only [numericsV, Vl.z, ab, aa, ac, bsm] <;> rfl) | (exfalso; omega)
 have az : (numericsV v u).1.s = [] := by first | rfl | (simp only [numericsV, Vl.z, ab, aa, ac, bsm] <;> rfl) | (exfalso; omega)
 have aA : (numericsV v u).2.1.mag = [] := by first | rfl | (simp only [numericsV, Vl.z, ab, aa, ac, bsm] <;> rfl) | (exfalso; omega)
 have aB : (numericsV v u).2.1.s = [] := by first | rfl | (simp only [numericsV, Vl.z, ab, aa, ac, bsm] <;> rfl) | (exfalso; omega)
 exact ⟨none, 0, none, 0, none, 0, none, 0, (by show Ending.returned (.tuple #[vv (Vl.mk 0 0 0 false [] [] 0) none 0 none 0, vv (Vl.mk 0 0 0 false [] [] 0) none 0 none 0, iv 1]) = Ending.returned (.tuple #[vv (numericsV v u).1 none 0 none 0, vv (numericsV v u).2.1 none 0 none 0, iv ((numericsV v u).2.2)]); (first | rfl | (simp only [numericsV, Vl.z, ab, aa, ac, ay, az, aA, aB, bsm] <;> rfl) | (exfalso; omega))), (by rw [ay]; exact (SRow.nil _ _)), (by rw [az]; exact (SRow.nil _ _)), (by rw [aA]; exact (SRow.nil _ _)), (by rw [aB]; exact (SRow.nil _ _)), eU⟩
 have cX := oF aa
 refine wp_g0 [true, true, true] [] 41
   [ve (iv ((numericV u).2)), vT, vT] bd (.eq (.eq (.eq (.nil)))) ?_ ?_
 exact .m (fun k => k.fx 8 bC) <| .t (fun _ w hn k => ⟨_, v_bin rfl (k.eq1 0 26 rfl) rfl (fun _ => rfl) (r_neq aa), rfl⟩) <| .a (fun k => k.eq1 1 27 rfl) .nil
 refine aftI bd b4 b3 fun iO iP cp eW eX ar aE => ?_
 have gE := aE.fx 4 cT
 have gF := aE.fx 5 cU
 have iQ := aE.fx 7 cV
 have iR := aE.fx 9 cW
 have gG := aE.fx 8 bC
 have gH := aE.ge 2 25 rfl
 have eY := b0.new_ ar
 have eZ := b1.new_ ar
 have hQ := b2.new_ ar
 have hR := bV.new_ ar
 have hT := bW.new_ ar
 have hU := bX.new_ ar
 have hV := bY.new_ ar
 have hW := bZ.new_ ar
 refine st_nil (b5 _ _ ?_)
 refine wp_cond_true gH ?_
 refine wp_seq_k fun iS e0 => ?_
 refine wp_g [true, true, true, false, false, false] [1, 2] [(3, false), (4, false), (5, true)] 41
   [ve (vv (Vl.mk 0 0 0 false [] [] 0) none 0 none 0), ve (vv (Vl.mk 0 0 0 false [] [] 0) none 0 none 0), ve (iv ((numericV u).2)), vt, vt, vt]
   [] newsNil cp (.eq (.eq (.eq (.tt (.tt (.tt (.nil))))))) ?_ ?_ ?_
 refine .t (fun _ w hn k => ⟨_, v_build (ps := []) rfl parts0 (by kernel_rfl), rfl⟩) ?_
 refine .o3 ?_
 refine .o3 ?_
 exact .off <| .off <| .off .nil
 intro i h
 simp only [List.contains_eq_mem, List.mem_cons, List.not_mem_nil, or_false, decide_eq_true_eq] at h
 rcases h with rfl | rfl
 exact eager_take rfl rfl fun _ w hn k => ⟨vv (Vl.mk 0 0 0 false [] [] 0) none 0 none 0, fun w => v_build (ps := []) rfl parts0 (by kernel_rfl), rfl⟩
 exact eager_take rfl rfl fun _ w hn k => ⟨iv ((numericV u).2), fun w => v_move rfl (k.fx 8 gG), rfl⟩
 refine aftI cp eW eX fun dn iT cq e1 e2 cr a6 => ?_
 have dp := a6.fx 4 gE
 have dq := a6.fx 5 gF
 have dr := a6.ge 0 28 rfl
 have ds := a6.ge 1 29 rfl
 have dt := a6.ge 2 30 rfl
 have e3 := eY.new_ cr
 have e4 := eZ.new_ cr
 obtain ⟨gI, dw, dx, e5, e6⟩ := s_many (P := Tryz.prog) (t := 29) (i := 0) [iv 0, iv 0, iv 0, .bool false, sv none ([]) 0, sv none ([]) 0, iv 0] Tryz.sizeOf29 rfl rfl rfl e3 lb
 have e7 : Blk gI aT 29 [iv 0, iv 0, iv 0, .bool false, sv none ([]) 0, sv none ([]) 0, iv 0] := dx
 refine st_act rfl rfl fun iU e8 => a_store' rfl dp dr dw (e8 _ _ trivial ?_)
 have e9 := e6 _ _ _ (fun h => hne28 h.symm) e4
 have fa := e2.trans e5 (fun _ h b => by subst b; omega)
 obtain ⟨gJ, dy, dz, fb, fc⟩ := s_many (P := Tryz.prog) (t := 29) (i := 0) [iv 0, iv 0, iv 0, .bool false, sv none ([]) 0, sv none ([]) 0, iv 0] Tryz.sizeOf29 rfl rfl rfl e9 lb
 have fd : Blk gJ aU 29 [iv 0, iv 0, iv 0, .bool false, sv none ([]) 0, sv none ([]) 0, iv 0] := dz
 refine st_act rfl rfl fun iV fe => a_store' rfl dq ds dy (fe _ _ trivial ?_)
 have ff := fc _ _ _ (hne28) e7
 have fg := fa.trans fb (fun _ h b => by subst b; omega)
 refine st_take rfl rfl (y_assign (v := iv ((numericV u).2)) rfl dt) rfl ?_
 obtain ⟨gK, ag⟩ : ∃ a', a' = dn.put (some 6) (iv ((numericV u).2)) := ⟨_, rfl⟩
 have hX := pz ag cq
 have fh := pd ag e1
 have gL := pn ag dp (by decide)
 have gM := pn ag dq (by decide)
 have iW := pn ag dr (by decide)
 have iX := pn ag ds (by decide)
 have iY := pn ag dt (by decide)
 have gN : gK.eval (.tmp 6) = iv ((numericV u).2) := by rw [ag]; exact put_same _ _ _ (by rw [cq]; decide)
 show stepsTo _ _ _ _ _ (dn.put (some 6) (iv ((numericV u).2))) _
 rw [← ag]
 refine st_nil (e0 _ _ ?_)
 refine wp_ret (ret_k fh (v := .tuple #[vv (Vl.mk 0 0 0 false [] [] 0) none 0 none 0, vv (Vl.mk 0 0 0 false [] [] 0) none 0 none 0, iv ((numericV u).2)]) (res_cct rfl gL gM gN (l_agg Tryz.isAgg29 Tryz.sizeOf29 ff rfl) (l_agg Tryz.isAgg29 Tryz.sizeOf29 fd rfl)) ?_)
 have ay : (numericsV v u).1.mag = [] := by first | rfl | (simp only [numericsV, Vl.z, ab, aa, bsm] <;> rfl) | (exfalso; omega)
 have az : (numericsV v u).1.s = [] := by first | rfl | (simp only [numericsV, Vl.z, ab, aa, bsm] <;> rfl) | (exfalso; omega)
 have aA : (numericsV v u).2.1.mag = [] := by first | rfl | (simp only [numericsV, Vl.z, ab, aa, bsm] <;> rfl) | (exfalso; omega)
 have aB : (numericsV v u).2.1.s = [] := by first | rfl | (simp only [numericsV, Vl.z, ab, aa, bsm] <;> rfl) | (exfalso; omega)
 exact ⟨none, 0, none, 0, none, 0, none, 0, (by show Ending.returned (.tuple #[vv (Vl.mk 0 0 0 false [] [] 0) none 0 none 0, vv (Vl.mk 0 0 0 false [] [] 0) none 0 none 0, iv ((numericV u).2)]) = Ending.returned (.tuple #[vv (numericsV v u).1 none 0 none 0, vv (numericsV v u).2.1 none 0 none 0, iv ((numericsV v u).2.2)]); (first | rfl | (simp only [numericsV, Vl.z, ab, aa, ay, az, aA, aB, bsm] <;> rfl) | (exfalso; omega))), (by rw [ay]; exact (SRow.nil _ _)), (by rw [az]; exact (SRow.nil _ _)), (by rw [aA]; exact (SRow.nil _ _)), (by rw [aB]; exact (SRow.nil _ _)), fg⟩
 have dM := oF ab
 refine wp_g0 [true, true] [] 41
   [ve (iv ((numericV v).2)), vT] bz (.eq (.eq (.nil))) ?_ ?_
 exact .m (fun k => k.fx 8 bQ) <| .t (fun _ w hn k => ⟨_, v_bin rfl (k.eq1 0 15 rfl) rfl (fun _ => rfl) (r_neq ab), rfl⟩) .nil
 refine aftI bz cM cL fun iZ i0 ct fi fj aF aG => ?_
 have i1 := aG.fx 3 fI
 have gO := aG.fx 4 fJ
 have gP := aG.fx 5 fK
 have i2 := aG.fx 7 fL
 have gQ := aG.fx 8 bQ
 have gR := aG.ge 1 16 rfl
 have hY := cI.new_ aF
 have fk := cJ.new_ aF
 have fl := cK.new_ aF
 have hZ := cF.new_ aF
 have h3 := cG.new_ aF
 have h4 := cH.new_ aF
 refine st_nil (cN _ _ ?_)
 refine wp_cond_true gR ?_
 refine wp_seq_k fun i3 fm => ?_
 refine wp_g [true, true, true, false, false, false] [1, 2] [(3, false), (4, false), (5, true)] 41
   [ve (vv (Vl.mk 0 0 0 false [] [] 0) none 0 none 0), ve (vv (Vl.mk 0 0 0 false [] [] 0) none 0 none 0), ve (iv ((numericV v).2)), vt, vt, vt]
   [] newsNil ct (.eq (.eq (.eq (.tt (.tt (.tt (.nil))))))) ?_ ?_ ?_
 refine .t (fun _ w hn k => ⟨_, v_build (ps := []) rfl parts0 (by kernel_rfl), rfl⟩) ?_
 refine .o3 ?_
 refine .o3 ?_
 exact .off <| .off <| .off .nil
 intro i h
 simp only [List.contains_eq_mem, List.mem_cons, List.not_mem_nil, or_false, decide_eq_true_eq] at h
 rcases h with rfl | rfl
 exact eager_take rfl rfl fun _ w hn k => ⟨vv (Vl.mk 0 0 0 false [] [] 0) none 0 none 0, fun w => v_build (ps := []) rfl parts0 (by kernel_rfl), rfl⟩
 exact eager_take rfl rfl fun _ w hn k => ⟨iv ((numericV v).2), fun w => v_move rfl (k.fx 8 gQ), rfl⟩
 refine aftI ct fi fj fun dA i4 cw fn fo cx a7 => ?_
 have dB := a7.fx 4 gO
 have dC := a7.fx 5 gP
 have dD := a7.ge 0 17 rfl
 have dE := a7.ge 1 18 rfl
 have dF := a7.ge 2 19 rfl
 have fp := fk.new_ cx
 have fq := fl.new_ cx
 obtain ⟨gS, dG, dH, fr, fs⟩ := s_many (P := Tryz.prog) (t := 29) (i := 0) [iv 0, iv 0, iv 0, .bool false, sv none ([]) 0, sv none ([]) 0, iv 0] Tryz.sizeOf29 rfl rfl rfl fp lb
 have ft : Blk gS aT 29 [iv 0, iv 0, iv 0, .bool false, sv none ([]) 0, sv none ([]) 0, iv 0] := dH
 refine st_act rfl rfl fun i5 fu => a_store' rfl dB dD dG (fu _ _ trivial ?_)
 have fv := fs _ _ _ (fun h => hne28 h.symm) fq
 have fw := fo.trans fr (fun _ h b => by subst b; omega)
 obtain ⟨gT, dI, dJ, fy, fz⟩ := s_many (P := Tryz.prog) (t := 29) (i := 0) [iv 0, iv 0, iv 0, .bool false, sv none ([]) 0, sv none ([]) 0, iv 0] Tryz.sizeOf29 rfl rfl rfl fv lb
 have fA : Blk gT aU 29 [iv 0, iv 0, iv 0, .bool false, sv none ([]) 0, sv none ([]) 0, iv 0] := dJ
 refine st_act rfl rfl fun i6 fB => a_store' rfl dC dE dI (fB _ _ trivial ?_)
 have fC := fz _ _ _ (hne28) ft
 have fD := fw.trans fy (fun _ h b => by subst b; omega)
 refine st_take rfl rfl (y_assign (v := iv ((numericV v).2)) rfl dF) rfl ?_
 obtain ⟨gU, ah⟩ : ∃ a', a' = dA.put (some 6) (iv ((numericV v).2)) := ⟨_, rfl⟩
 have h5 := pz ah cw
 have fE := pd ah fn
 have gV := pn ah dB (by decide)
 have gW := pn ah dC (by decide)
 have i7 := pn ah dD (by decide)
 have i8 := pn ah dE (by decide)
 have i9 := pn ah dF (by decide)
 have gX : gU.eval (.tmp 6) = iv ((numericV v).2) := by rw [ah]; exact put_same _ _ _ (by rw [cw]; decide)
 show stepsTo _ _ _ _ _ (dA.put (some 6) (iv ((numericV v).2))) _
 rw [← ah]
 refine st_nil (fm _ _ ?_)
 refine wp_ret (ret_k fE (v := .tuple #[vv (Vl.mk 0 0 0 false [] [] 0) none 0 none 0, vv (Vl.mk 0 0 0 false [] [] 0) none 0 none 0, iv ((numericV v).2)]) (res_cct rfl gV gW gX (l_agg Tryz.isAgg29 Tryz.sizeOf29 fC rfl) (l_agg Tryz.isAgg29 Tryz.sizeOf29 fA rfl)) ?_)
 have ay : (numericsV v u).1.mag = [] := by first | rfl | (simp only [numericsV, Vl.z, ab, bsm] <;> rfl) | (exfalso; omega)
 have az : (numericsV v u).1.s = [] := by first | rfl | (simp only [numericsV, Vl.z, ab, bsm] <;> rfl) | (exfalso; omega)
 have aA : (numericsV v u).2.1.mag = [] := by first | rfl | (simp only [numericsV, Vl.z, ab, bsm] <;> rfl) | (exfalso; omega)
 have aB : (numericsV v u).2.1.s = [] := by first | rfl | (simp only [numericsV, Vl.z, ab, bsm] <;> rfl) | (exfalso; omega)
 exact ⟨none, 0, none, 0, none, 0, none, 0, (by show Ending.returned (.tuple #[vv (Vl.mk 0 0 0 false [] [] 0) none 0 none 0, vv (Vl.mk 0 0 0 false [] [] 0) none 0 none 0, iv ((numericV v).2)]) = Ending.returned (.tuple #[vv (numericsV v u).1 none 0 none 0, vv (numericsV v u).2.1 none 0 none 0, iv ((numericsV v u).2.2)]); (first | rfl | (simp only [numericsV, Vl.z, ab, ay, az, aA, aB, bsm] <;> rfl) | (exfalso; omega))), (by rw [ay]; exact (SRow.nil _ _)), (by rw [az]; exact (SRow.nil _ _)), (by rw [aA]; exact (SRow.nil _ _)), (by rw [aB]; exact (SRow.nil _ _)), fD⟩
theorem big_in {w : World} {b : Bool} {A : Option Addr} {m : List Nat} {c : Nat} (hr : SRow w .u32 A m c) (hl : Limbs m) : BigAt w (.agg #[.bool b, sv A m c]) (goodI b m) := ⟨b, _, m, rfl, hr, hl, rfl⟩
theorem text_len {v : Vl} (h : VOk v) : (textV v).1.length ≤ 20000 := by
  have h1 := textM_size (cleanV v).num
  have h2 := textI_size (b := (cleanV v).neg) h.clean.limbs
  have h3 := h.clean.slen
  unfold textV
  repeat' split
  all_goals first | exact h3 | exact Nat.zero_le _ | (show (asc _).length ≤ 20000; rw [asc_len]; first | (show (_ : Nat) ≤ _; decide) | (show (_ : Nat) ≤ _; omega))
theorem bText_c (a : Bool) (Aa : Option Addr) (ma : List Nat) (ca : Nat) (w : World) (hra : SRow w .u32 Aa ma ca) (ha : Limbs ma) : Calls Tryz.prog 141 #[.agg #[.bool a, sv Aa ma ca]] w (IsRet (.string (strOfNums (textI (goodI a ma)))) w) := text_any _ _ w (big_in hra ha)
def ctext_c_P (v : Vl) (Av : Option Addr) (cv : Nat) (Bv : Option Addr) (dv : Nat) (w : World) (en : Ending) (w' : World) : Prop := ∃ (Ar0 : Option Addr) (cr0 : Nat), en = .returned (.tuple #[sv Ar0 ((textV v).1) cr0, iv ((textV v).2)]) ∧ SOwn w' w.heap.size 74 .u16 Ar0 ((textV v).1) cr0 ∧ New w w'
theorem ctext_c (v : Vl) (Av : Option Addr) (cv : Nat) (Bv : Option Addr) (dv : Nat) (w : World) (hmv : SRow w .u32 Av v.mag cv) (hsv : SRow w .u16 Bv v.s dv) (hvv : VOk v) (HT : ItoaOk w) : Calls Tryz.prog 73 #[vv v Av cv Bv dv] w (ctext_c_P v Av cv Bv dv w) := by
 refine enter_abs Tryz.func73 rfl fun a0 bh eg hp => ?_
 have bh : a0.tmps.size = 38 := bh
 have dd : New w w := Upd.refl _ _
 have hp0 : a0.eval (.tmp 0) = vv v Av cv Bv dv := hp 0 _ rfl
 have hm := hvv.clean.mlen
 have hsl := hvv.clean.slen
 have hz1 : (textM (Nm.mk (cleanV v).nk (cleanV v).nn)).size ≤ 21 := textM_size (cleanV v).num
 have hz2 := textI_size (b := (cleanV v).neg) hvv.clean.limbs
 refine wp_seq_k fun K1 eh => ?_
 refine wp_g [true, true, true] [] [] 38
   [IsNew w 29 [iv v.k, iv v.nk, iv v.nn, .bool v.neg, sv Av v.mag cv, sv Bv v.s dv, iv v.ref], ve (sv none ([]) 0), ve (iv 0)]
   [0] (newsCons (fun v w h => IsNew.old h) newsNil) bh (.nw (.eq (.eq (.nil)))) ?_ (fun i h => by cases h) ?_
 exact .o2 (step_allocN (cs := [iv v.k, iv v.nk, iv v.nn, .bool v.neg, sv Av v.mag cv, sv Bv v.s dv, iv v.ref]) (t := 29) rfl (noG rfl) (fun _ w hn k => v_box rfl (k.fx 0 hp0) (fun w => rfl)) (fun q _ hq hb => ⟨q, rfl, hq, hb⟩)) <| .t (fun _ w hn k => ⟨_, v_assign rfl rfl, rfl⟩) <| .t (fun _ w hn k => ⟨_, v_assign rfl rfl, rfl⟩) .nil
 refine aftI bh eg dd fun a2 w3 de ei aY gf ej => ?_
 obtain ⟨q9, h8, dk, bD⟩ : IsNew _ _ _ _ _ := ej.got 0 1 rfl (by kernel_rfl)
 have fJ := Nat.le_trans dd.size dk
 refine st_nil (eh _ _ (wp_seq_k fun gg dl => ?_))
 refine wp_g0 [true, true, false] [(2, false)] 38
   [ve (vv v Av cv Bv dv),
    (VP (cleanV v)), vt] de (.eq (.cons (fun v W W' hn ⟨A5, c6, A7, c8, he, h0, h1⟩ => ⟨A5, c6, A7, c8, he, h0.new_ hn, h1.new_ hn⟩) (.tt (.nil)))) ?_ ?_
 refine .t (fun _ w hn k => ⟨_, v_load rfl (k.fx 1 h8) (l_agg Tryz.isAgg29 Tryz.sizeOf29 (bD.new_ hn) rfl), rfl⟩) ?_
 refine .o1 (tkC rfl (noG rfl) rfl fun _ w hn k => (by
       refine ⟨#[vv v Av cv Bv dv], _, args1 (k.eq1 0 4 rfl), fun w => by kernel_rfl, clean_c v _ _ _ _ _ (hmv.new_ (aY.transNew hn)) (hsv.new_ (aY.transNew hn)), ?_⟩
       rintro e w' ⟨A1, c2, A3, c4, rfl, hmo0, hmo1, hm⟩
       exact ⟨_, rfl, hm, ⟨A1, c2, A3, c4, rfl, hmo0, hmo1⟩⟩)) ?_
 exact .off .nil
 refine aftI de ei aY fun ek gh bE dm dn dp bF => ?_
 have bG := bF.fx 1 h8
 obtain ⟨aW, ay, az, aA, bH, dq, dr⟩ : (VP (cleanV v)) _ _ := bF.got 1 5 rfl (by kernel_rfl)
 have bH : ek.eval (.tmp 5) = vv (cleanV v) aW ay az aA := bH
 have aZ := bD.new_ dp
 obtain ⟨el, b5, b6, a1, fK⟩ := s_many (P := Tryz.prog) (t := 29) (i := 0) [iv ((cleanV v).k), iv ((cleanV v).nk), iv ((cleanV v).nn), .bool ((cleanV v).neg), sv aW ((cleanV v).mag) ay, sv az ((cleanV v).s) aA, iv ((cleanV v).ref)] Tryz.sizeOf29 rfl rfl rfl aZ lb
 have bI : Blk el q9 29 [iv ((cleanV v).k), iv ((cleanV v).nk), iv ((cleanV v).nn), .bool ((cleanV v).neg), sv aW ((cleanV v).mag) ay, sv az ((cleanV v).s) aA, iv ((cleanV v).ref)] := b6
 refine st_act rfl rfl fun gi ds => a_store' rfl bG bH b5 (ds _ _ trivial ?_)
 have dt := dq.far aZ a1 (by first | rfl | decide | simp [notK])
 have du := dr.far aZ a1 (by first | rfl | decide | simp [notK])
 have dw := dn.trans a1 (fun _ h b => by subst b; omega)
 refine st_nil (dl _ _ (wp_seq_k fun gj dx => ?_))
 refine wp_seq_k fun gk dy => ?_
 refine wp_g0 [true, true] [] 38
   [ve (pv q9), ve (iv ((cleanV v).k))] bE (.eq (.eq (.nil))) ?_ ?_
 exact .f (fun k => k.fx 1 bG) <| .t (fun _ w hn k => ⟨_, v_load rfl (k.eq1 0 6 rfl) (l_one Tryz.isAgg3 ((bI.new_ hn).cell 0)), rfl⟩) .nil
 refine aftI bE dm dw fun gl gm bJ dz dA a3 bK => ?_
 have em := bK.fx 1 bG
 have df := bK.ge 1 7 rfl
 have dB := bI.new_ a3
 have dC := dt.new_ a3
 have dD := du.new_ a3
 refine st_nil (dy _ _ ?_)
 refine wp_block ?_
 refine wp_seq_k fun gn dE => ?_
 refine wp_g0 [true, true] [] 38
   [ve (.bool (decide (((cleanV v).k) = 0))), ve (.bool (decide (((cleanV v).k) = 0)))] bJ (.eq (.eq (.nil))) ?_ ?_
 exact .t (fun _ w hn k => ⟨_, v_bin rfl (k.fx 7 df) rfl (fun _ => rfl) (r_eql rfl), rfl⟩) <| .a (fun k => k.eq1 0 9 rfl) .nil
 refine aftI bJ dz dA fun go bi aI bL a4 a5 a6 => ?_
 have en := a6.fx 1 em
 have dg := a6.fx 7 df
 have dh := a6.ge 1 8 rfl
 have dF := dB.new_ a5
 have dG := dC.new_ a5
 have dH := dD.new_ a5
 refine st_nil (dE _ _ ?_)
 rcases bc (decide (((cleanV v).k) = 0)) with ac | ac
 have b7 := oT ac
 have dI := hB dh ac
 refine wp_cond_true dI ?_
 refine wp_seq_k fun gp dJ => ?_
 refine wp_g0 [true, true, true] [] 38
   [(OP bi.heap.size 74 .u16 (asc ⟨#[117, 110, 100, 101, 102, 105, 110, 101, 100]⟩)),
    (OP bi.heap.size 74 .u16 (asc ⟨#[117, 110, 100, 101, 102, 105, 110, 101, 100]⟩)), ve (iv 0)] aI (.cons (fun _ _ _ n ⟨_, _, e, h⟩ => ⟨_, _, e, h.new_ n⟩) (.cons (fun v W W' hn ⟨er, es, he, h0⟩ => ⟨er, es, he, h0.new_ hn⟩) (.eq (.nil)))) ?_ ?_
 refine .o1 (tkC rfl (noG rfl) rfl fun _ w hn k => (by
       refine ⟨#[.string ⟨#[117, 110, 100, 101, 102, 105, 110, 101, 100]⟩], _, args1 rfl, fun w => by kernel_rfl, ascii_c ⟨#[117, 110, 100, 101, 102, 105, 110, 101, 100]⟩ _ (by first | omega | (show (_ : Nat) ≤ _; decide)), ?_⟩
       rintro e w' ⟨et, eu, rfl, hmo0, hm⟩
       exact ⟨_, rfl, hm, ⟨et, eu, rfl, (hmo0.more hn.size)⟩⟩)) ?_
 refine .o1 (tk rfl rfl fun _ w hn k => (by
       obtain ⟨ev, ew, ex, dK⟩ : (OP bi.heap.size 74 .u16 (asc ⟨#[117, 110, 100, 101, 102, 105, 110, 101, 100]⟩)) _ _ := k.dep 0 10 (by kernel_rfl) (by kernel_rfl)
       exact ⟨_, v_assign rfl ex, ⟨ev, ew, rfl, dK⟩⟩)) ?_
 exact .t (fun _ w hn k => ⟨_, v_assign rfl rfl, rfl⟩) .nil
 refine aftI aI bL a4 fun ey gq fL dL dM fM bM => ?_
 obtain ⟨aX, aB, bN, dN⟩ : (OP bi.heap.size 74 .u16 (asc ⟨#[117, 110, 100, 101, 102, 105, 110, 101, 100]⟩)) _ _ := bM.got 1 2 rfl (by kernel_rfl)
 have bN : ey.eval (.tmp 2) = sv aX (asc ⟨#[117, 110, 100, 101, 102, 105, 110, 101, 100]⟩) aB := bN
 have ez := bM.ge 2 3 rfl
 have dO := dN.more a4.size
 refine st_nil (dJ _ _ ?_)
 refine wp_ret (ret_k dL (v := .tuple #[sv aX (asc ⟨#[117, 110, 100, 101, 102, 105, 110, 101, 100]⟩) aB, iv 0]) (res_tt rfl bN ez _) ?_)
 have ad : (textV v).1 = (asc ⟨#[117, 110, 100, 101, 102, 105, 110, 101, 100]⟩) := by first | rfl | (simp only [textV, ac, bsm] <;> rfl) | (exfalso; omega)
 exact ⟨aX, aB, (by show Ending.returned (.tuple #[sv aX (asc ⟨#[117, 110, 100, 101, 102, 105, 110, 101, 100]⟩) aB, iv 0]) = Ending.returned (.tuple #[sv aX ((textV v).1) aB, iv ((textV v).2)]); (first | rfl | (simp only [textV, ac, ad, bsm] <;> rfl) | (exfalso; omega))), (by rw [ad]; exact dO), dM⟩
 have b7 := oF ac
 have dP := hB dh ac
 refine wp_cond_false dP ?_
 refine wp_seq_k fun gr dQ => ?_
 refine wp_g0 [true, true] [] 38
   [ve (.bool (decide (((cleanV v).k) = 1))), ve (.bool (decide (((cleanV v).k) = 1)))] aI (.eq (.eq (.nil))) ?_ ?_
 exact .t (fun _ w hn k => ⟨_, v_bin rfl (k.fx 7 dg) rfl (fun _ => rfl) (r_eql rfl), rfl⟩) <| .a (fun k => k.eq1 0 12 rfl) .nil
 refine aftI aI bL a4 fun gs bj aJ bO a7 a8 a9 => ?_
 have eA := a9.fx 1 en
 have di := a9.fx 7 dg
 have dj := a9.ge 1 11 rfl
 have dR := dF.new_ a8
 have dS := dG.new_ a8
 have dT := dH.new_ a8
 refine st_nil (dQ _ _ ?_)
 rcases bc (decide (((cleanV v).k) = 1)) with aa | aa
 have bP := oT aa
 have b8 := hB dj aa
 refine wp_cond_true b8 ?_
 refine wp_seq_k fun fN b9 => ?_
 refine wp_g0 [true, true, true] [] 38
   [(OP bj.heap.size 74 .u16 (asc ⟨#[110, 117, 108, 108]⟩)),
    (OP bj.heap.size 74 .u16 (asc ⟨#[110, 117, 108, 108]⟩)), ve (iv 0)] aJ (.cons (fun _ _ _ n ⟨_, _, e, h⟩ => ⟨_, _, e, h.new_ n⟩) (.cons (fun v W W' hn ⟨eD, eE, he, h0⟩ => ⟨eD, eE, he, h0.new_ hn⟩) (.eq (.nil)))) ?_ ?_
 refine .o1 (tkC rfl (noG rfl) rfl fun _ w hn k => (by
       refine ⟨#[.string ⟨#[110, 117, 108, 108]⟩], _, args1 rfl, fun w => by kernel_rfl, ascii_c ⟨#[110, 117, 108, 108]⟩ _ (by first | omega | (show (_ : Nat) ≤ _; decide)), ?_⟩
       rintro e w' ⟨az, eF, rfl, hmo0, hm⟩
       exact ⟨_, rfl, hm, ⟨az, eF, rfl, (hmo0.more hn.size)⟩⟩)) ?_
 refine .o1 (tk rfl rfl fun _ w hn k => (by
       obtain ⟨eG, eH, eI, dU⟩ : (OP bj.heap.size 74 .u16 (asc ⟨#[110, 117, 108, 108]⟩)) _ _ := k.dep 0 13 (by kernel_rfl) (by kernel_rfl)
       exact ⟨_, v_assign rfl eI, ⟨eG, eH, rfl, dU⟩⟩)) ?_
 exact .t (fun _ w hn k => ⟨_, v_assign rfl rfl, rfl⟩) .nil
 refine aftI aJ bO a7 fun dV fO fs ca cb ft bk => ?_
 obtain ⟨aC, aj, ba, cc⟩ : (OP bj.heap.size 74 .u16 (asc ⟨#[110, 117, 108, 108]⟩)) _ _ := bk.got 1 2 rfl (by kernel_rfl)
 have ba : dV.eval (.tmp 2) = sv aC (asc ⟨#[110, 117, 108, 108]⟩) aj := ba
 have dW := bk.ge 2 3 rfl
 have cd := cc.more a7.size
 refine st_nil (b9 _ _ ?_)
 refine wp_ret (ret_k ca (v := .tuple #[sv aC (asc ⟨#[110, 117, 108, 108]⟩) aj, iv 0]) (res_tt rfl ba dW _) ?_)
 have ad : (textV v).1 = (asc ⟨#[110, 117, 108, 108]⟩) := by first | rfl | (simp only [textV, ac, aa, bsm] <;> rfl) | (exfalso; omega)
 exact ⟨aC, aj, (by show Ending.returned (.tuple #[sv aC (asc ⟨#[110, 117, 108, 108]⟩) aj, iv 0]) = Ending.returned (.tuple #[sv aC ((textV v).1) aj, iv ((textV v).2)]); (first | rfl | (simp only [textV, ac, aa, ad, bsm] <;> rfl) | (exfalso; omega))), (by rw [ad]; exact cd), cb⟩
 have bP := oF aa
 have ce := hB dj aa
 refine wp_cond_false ce ?_
 refine wp_seq_k fun fP cf => ?_
 refine wp_g0 [true, true] [] 38
   [ve (.bool (decide (((cleanV v).k) = 2))), ve (.bool (decide (((cleanV v).k) = 2)))] aJ (.eq (.eq (.nil))) ?_ ?_
 exact .t (fun _ w hn k => ⟨_, v_bin rfl (k.fx 7 di) rfl (fun _ => rfl) (r_eql rfl), rfl⟩) <| .a (fun k => k.eq1 0 15 rfl) .nil
 refine aftI aJ bO a7 fun fQ fR ap bl bm aK aL => ?_
 have bQ := aL.fx 1 eA
 have bR := aL.fx 7 di
 have bS := aL.ge 1 14 rfl
 have bn := dR.new_ aK
 have ch := dS.new_ aK
 have ci := dT.new_ aK
 refine st_nil (cf _ _ ?_)
 rcases bc (decide (((cleanV v).k) = 2)) with ab | ab
 have bT := oT ab
 have cj := hB bS ab
 refine wp_cond_true cj ?_
 refine wp_seq_k fun fS cl => ?_
 refine wp_seq_k fun fT cm => ?_
 refine wp_g0 [true, true, true] [] 38
   [ve (.pointer (some ⟨q9, 6, none⟩)), ve (iv ((cleanV v).ref)), ve (.bool (decide (((cleanV v).ref) = 1)))] ap (.eq (.eq (.eq (.nil)))) ?_ ?_
 exact .f (fun k => k.fx 1 bQ) <| .t (fun _ w hn k => ⟨_, v_load rfl (k.eq1 0 16 rfl) (l_one Tryz.isAgg3 ((bn.new_ hn).cell 6)), rfl⟩) <| .t (fun _ w hn k => ⟨_, v_bin rfl (k.eq1 1 17 rfl) rfl (fun _ => rfl) (r_eql rfl), rfl⟩) .nil
 refine aftI ap bl bm fun fU ai aq bo ar fu cn => ?_
 have bU := cn.ge 2 18 rfl
 refine st_nil (cm _ _ ?_)
 rcases bc (decide (((cleanV v).ref) = 1)) with ag | ag
 have bV := oT ag
 have co := hB bU ag
 refine wp_cond_true co ?_
 refine wp_seq_k fun fV cp => ?_
 refine wp_g0 [true, true, true] [] 38
   [(OP ai.heap.size 74 .u16 (asc ⟨#[116, 114, 117, 101]⟩)),
    (OP ai.heap.size 74 .u16 (asc ⟨#[116, 114, 117, 101]⟩)), ve (iv 0)] aq (.cons (fun _ _ _ n ⟨_, _, e, h⟩ => ⟨_, _, e, h.new_ n⟩) (.cons (fun v W W' hn ⟨eL, eM, he, h0⟩ => ⟨eL, eM, he, h0.new_ hn⟩) (.eq (.nil)))) ?_ ?_
 refine .o1 (tkC rfl (noG rfl) rfl fun _ w hn k => (by
       refine ⟨#[.string ⟨#[116, 114, 117, 101]⟩], _, args1 rfl, fun w => by kernel_rfl, ascii_c ⟨#[116, 114, 117, 101]⟩ _ (by first | omega | (show (_ : Nat) ≤ _; decide)), ?_⟩
       rintro e w' ⟨eN, eO, rfl, hmo0, hm⟩
       exact ⟨_, rfl, hm, ⟨eN, eO, rfl, (hmo0.more hn.size)⟩⟩)) ?_
 refine .o1 (tk rfl rfl fun _ w hn k => (by
       obtain ⟨eP, eQ, eR, dX⟩ : (OP ai.heap.size 74 .u16 (asc ⟨#[116, 114, 117, 101]⟩)) _ _ := k.dep 0 19 (by kernel_rfl) (by kernel_rfl)
       exact ⟨_, v_assign rfl eR, ⟨eP, eQ, rfl, dX⟩⟩)) ?_
 exact .t (fun _ w hn k => ⟨_, v_assign rfl rfl, rfl⟩) .nil
 refine aftI aq bo ar fun dY fW fv cq cr fw bp => ?_
 obtain ⟨aD, ak, bb, ct⟩ : (OP ai.heap.size 74 .u16 (asc ⟨#[116, 114, 117, 101]⟩)) _ _ := bp.got 1 2 rfl (by kernel_rfl)
 have bb : dY.eval (.tmp 2) = sv aD (asc ⟨#[116, 114, 117, 101]⟩) ak := bb
 have dZ := bp.ge 2 3 rfl
 have cu := ct.more ar.size
 refine st_nil (cp _ _ ?_)
 refine wp_ret (ret_k cq (v := .tuple #[sv aD (asc ⟨#[116, 114, 117, 101]⟩) ak, iv 0]) (res_tt rfl bb dZ _) ?_)
 have ad : (textV v).1 = (asc ⟨#[116, 114, 117, 101]⟩) := by first | rfl | (simp only [textV, ac, aa, ab, ag, bsm] <;> rfl) | (exfalso; omega)
 exact ⟨aD, ak, (by show Ending.returned (.tuple #[sv aD (asc ⟨#[116, 114, 117, 101]⟩) ak, iv 0]) = Ending.returned (.tuple #[sv aD ((textV v).1) ak, iv ((textV v).2)]); (first | rfl | (simp only [textV, ac, aa, ab, ag, ad, bsm] <;> rfl) | (exfalso; omega))), (by rw [ad]; exact cu), cr⟩
 have bV := oF ag
 have cw := hB bU ag
 refine wp_cond_false cw ?_
 refine wp_skip ?_
 refine cl _ _ ?_
 refine wp_seq_k fun fX cx => ?_
 refine wp_g0 [true, true, true] [] 38
   [(OP ai.heap.size 74 .u16 (asc ⟨#[102, 97, 108, 115, 101]⟩)),
    (OP ai.heap.size 74 .u16 (asc ⟨#[102, 97, 108, 115, 101]⟩)), ve (iv 0)] aq (.cons (fun _ _ _ n ⟨_, _, e, h⟩ => ⟨_, _, e, h.new_ n⟩) (.cons (fun v W W' hn ⟨eU, eV, he, h0⟩ => ⟨eU, eV, he, h0.new_ hn⟩) (.eq (.nil)))) ?_ ?_
 refine .o1 (tkC rfl (noG rfl) rfl fun _ w hn k => (by
       refine ⟨#[.string ⟨#[102, 97, 108, 115, 101]⟩], _, args1 rfl, fun w => by kernel_rfl, ascii_c ⟨#[102, 97, 108, 115, 101]⟩ _ (by first | omega | (show (_ : Nat) ≤ _; decide)), ?_⟩
       rintro e w' ⟨eW, eX, rfl, hmo0, hm⟩
       exact ⟨_, rfl, hm, ⟨eW, eX, rfl, (hmo0.more hn.size)⟩⟩)) ?_
 refine .o1 (tk rfl rfl fun _ w hn k => (by
       obtain ⟨eY, eZ, e0, d0⟩ : (OP ai.heap.size 74 .u16 (asc ⟨#[102, 97, 108, 115, 101]⟩)) _ _ := k.dep 0 20 (by kernel_rfl) (by kernel_rfl)
       exact ⟨_, v_assign rfl e0, ⟨eY, eZ, rfl, d0⟩⟩)) ?_
 exact .t (fun _ w hn k => ⟨_, v_assign rfl rfl, rfl⟩) .nil
 refine aftI aq bo ar fun d1 fY fy cy cz fz bq => ?_
 obtain ⟨aE, al, bd, cA⟩ : (OP ai.heap.size 74 .u16 (asc ⟨#[102, 97, 108, 115, 101]⟩)) _ _ := bq.got 1 2 rfl (by kernel_rfl)
 have bd : d1.eval (.tmp 2) = sv aE (asc ⟨#[102, 97, 108, 115, 101]⟩) al := bd
 have d2 := bq.ge 2 3 rfl
 have cB := cA.more ar.size
 refine st_nil (cx _ _ ?_)
 refine wp_ret (ret_k cy (v := .tuple #[sv aE (asc ⟨#[102, 97, 108, 115, 101]⟩) al, iv 0]) (res_tt rfl bd d2 _) ?_)
 have ad : (textV v).1 = (asc ⟨#[102, 97, 108, 115, 101]⟩) := by first | rfl | (simp only [textV, ac, aa, ab, ag, bsm] <;> rfl) | (exfalso; omega)
 exact ⟨aE, al, (by show Ending.returned (.tuple #[sv aE (asc ⟨#[102, 97, 108, 115, 101]⟩) al, iv 0]) = Ending.returned (.tuple #[sv aE ((textV v).1) al, iv ((textV v).2)]); (first | rfl | (simp only [textV, ac, aa, ab, ag, ad, bsm] <;> rfl) | (exfalso; omega))), (by rw [ad]; exact cB), cz⟩
 have bT := oF ab
 have cC := hB bS ab
 refine wp_cond_false cC ?_
 refine wp_seq_k fun fZ cD => ?_
 refine wp_g0 [true, true] [] 38
   [ve (.bool (decide (((cleanV v).k) = 3))), ve (.bool (decide (((cleanV v).k) = 3)))] ap (.eq (.eq (.nil))) ?_ ?_
 exact .t (fun _ w hn k => ⟨_, v_bin rfl (k.fx 7 bR) rfl (fun _ => rfl) (r_eql rfl), rfl⟩) <| .a (fun k => k.eq1 0 22 rfl) .nil
 refine aftI ap bl bm fun f0 aM au br av aN aO => ?_
 have bW := aO.fx 1 bQ
 have bX := aO.fx 7 bR
 have bY := aO.ge 1 21 rfl
 have bs := bn.new_ aN
 have cE := ch.new_ aN
 have cF := ci.new_ aN
 refine st_nil (cD _ _ ?_)
 rcases bc (decide (((cleanV v).k) = 3)) with ae | ae
 have bZ := oT ae
 have cG := hB bY ae
 refine wp_cond_true cG ?_
 refine wp_seq_k fun f1 cH => ?_
 refine wp_g0 [true, true, true, true, true, true] [] 38
   [ve (.pointer (some ⟨q9, 1, none⟩)), ve (nv (Nm.mk ((cleanV v).nk) ((cleanV v).nn))), ve (.string (textM (Nm.mk ((cleanV v).nk) ((cleanV v).nn)))),
    (OP aM.heap.size 74 .u16 (asc (textM (Nm.mk ((cleanV v).nk) ((cleanV v).nn))))),
    (OP aM.heap.size 74 .u16 (asc (textM (Nm.mk ((cleanV v).nk) ((cleanV v).nn))))), ve (iv 0)] au (.eq (.eq (.eq (.cons (fun _ _ _ n ⟨_, _, e, h⟩ => ⟨_, _, e, h.new_ n⟩) (.cons (fun v W W' hn ⟨e3, e4, he, h0⟩ => ⟨e3, e4, he, h0.new_ hn⟩) (.eq (.nil))))))) ?_ ?_
 refine .f (fun k => k.fx 1 bW) <| .t (fun _ w hn k => ⟨_, v_load rfl (k.eq1 0 23 rfl) (l_part Tryz.isAgg23 Tryz.sizeOf23 (bs.new_ hn) lb), rfl⟩) <| .o1 (ck rfl rfl rfl (fun _ w hn k => ⟨#[nv (Nm.mk ((cleanV v).nk) ((cleanV v).nn))], args1 (k.eq1 1 24 rfl), fun _ => by kernel_rfl, ntext_c (Nm.mk ((cleanV v).nk) ((cleanV v).nn)) _ (HT.up (av.transNew hn))⟩) fun _ => rfl) ?_
 refine .o1 (tkC rfl (noG rfl) rfl fun _ w hn k => (by
       refine ⟨#[.string (textM (Nm.mk ((cleanV v).nk) ((cleanV v).nn)))], _, args1 (k.eq1 2 25 rfl), fun w => by kernel_rfl, ascii_c (textM (Nm.mk ((cleanV v).nk) ((cleanV v).nn))) _ (by first | omega | (show (_ : Nat) ≤ _; decide)), ?_⟩
       rintro e w' ⟨e5, e6, rfl, hmo0, hm⟩
       exact ⟨_, rfl, hm, ⟨e5, e6, rfl, (hmo0.more hn.size)⟩⟩)) ?_
 refine .o1 (tk rfl rfl fun _ w hn k => (by
       obtain ⟨e7, e8, e9, d3⟩ : (OP aM.heap.size 74 .u16 (asc (textM (Nm.mk ((cleanV v).nk) ((cleanV v).nn))))) _ _ := k.dep 3 26 (by kernel_rfl) (by kernel_rfl)
       exact ⟨_, v_assign rfl e9, ⟨e7, e8, rfl, d3⟩⟩)) ?_
 exact .t (fun _ w hn k => ⟨_, v_assign rfl rfl, rfl⟩) .nil
 refine aftI au br av fun d4 f2 fA cI cJ fB bt => ?_
 obtain ⟨aF, am, be, cK⟩ : (OP aM.heap.size 74 .u16 (asc (textM (Nm.mk ((cleanV v).nk) ((cleanV v).nn))))) _ _ := bt.got 4 2 rfl (by kernel_rfl)
 have be : d4.eval (.tmp 2) = sv aF (asc (textM (Nm.mk ((cleanV v).nk) ((cleanV v).nn)))) am := be
 have d5 := bt.ge 5 3 rfl
 have cL := cK.more av.size
 refine st_nil (cH _ _ ?_)
 refine wp_ret (ret_k cI (v := .tuple #[sv aF (asc (textM (Nm.mk ((cleanV v).nk) ((cleanV v).nn)))) am, iv 0]) (res_tt rfl be d5 _) ?_)
 have ad : (textV v).1 = (asc (textM (Nm.mk ((cleanV v).nk) ((cleanV v).nn)))) := by first | rfl | (simp only [textV, ac, aa, ab, ae, bsm] <;> rfl) | (exfalso; omega)
 exact ⟨aF, am, (by show Ending.returned (.tuple #[sv aF (asc (textM (Nm.mk ((cleanV v).nk) ((cleanV v).nn)))) am, iv 0]) = Ending.returned (.tuple #[sv aF ((textV v).1) am, iv ((textV v).2)]); (first | rfl | (simp only [textV, ac, aa, ab, ae, ad, bsm] <;> rfl) | (exfalso; omega))), (by rw [ad]; exact cL), cJ⟩
 have bZ := oF ae
 have cM := hB bY ae
 refine wp_cond_false cM ?_
 refine wp_seq_k fun f3 cN => ?_
 refine wp_g0 [true, true] [] 38
   [ve (.bool (decide (((cleanV v).k) = 4))), ve (.bool (decide (((cleanV v).k) = 4)))] au (.eq (.eq (.nil))) ?_ ?_
 exact .t (fun _ w hn k => ⟨_, v_bin rfl (k.fx 7 bX) rfl (fun _ => rfl) (r_eql rfl), rfl⟩) <| .a (fun k => k.eq1 0 28 rfl) .nil
 refine aftI au br av fun f4 aP aw bu aQ aR aS => ?_
 have b0 := aS.fx 1 bW
 have d6 := aS.fx 7 bX
 have b1 := aS.ge 1 27 rfl
 have bv := bs.new_ aR
 have bw := cE.new_ aR
 have cO := cF.new_ aR
 refine st_nil (cN _ _ ?_)
 rcases bc (decide (((cleanV v).k) = 4)) with af | af
 have b2 := oT af
 have cP := hB b1 af
 refine wp_cond_true cP ?_
 refine wp_seq_k fun f5 cQ => ?_
 refine wp_g0 [true, true, true, true, true, true] [] 38
   [ve (.pointer (some ⟨q9, 3, none⟩)), ve (.agg #[.bool ((cleanV v).neg), sv aW ((cleanV v).mag) ay]), ve (.string (strOfNums (textI (goodI ((cleanV v).neg) ((cleanV v).mag))))),
    (OP aP.heap.size 74 .u16 (asc (strOfNums (textI (goodI ((cleanV v).neg) ((cleanV v).mag)))))),
    (OP aP.heap.size 74 .u16 (asc (strOfNums (textI (goodI ((cleanV v).neg) ((cleanV v).mag)))))), ve (iv 0)] aw (.eq (.eq (.eq (.cons (fun _ _ _ n ⟨_, _, e, h⟩ => ⟨_, _, e, h.new_ n⟩) (.cons (fun v W W' hn ⟨fc, fd, he, h0⟩ => ⟨fc, fd, he, h0.new_ hn⟩) (.eq (.nil))))))) ?_ ?_
 refine .f (fun k => k.fx 1 b0) <| .t (fun _ w hn k => ⟨_, v_load rfl (k.eq1 0 29 rfl) (l_part Tryz.isAgg26 Tryz.sizeOf26 (bv.new_ hn) lb), rfl⟩) <| .o1 (ck rfl rfl rfl (fun _ w hn k => ⟨#[.agg #[.bool ((cleanV v).neg), sv aW ((cleanV v).mag) ay]], args1 (k.eq1 1 30 rfl), fun _ => by kernel_rfl, bText_c ((cleanV v).neg) _ ((cleanV v).mag) _ _ (bw.new_ hn) hvv.clean.limbs⟩) fun _ => rfl) ?_
 refine .o1 (tkC rfl (noG rfl) rfl fun _ w hn k => (by
       refine ⟨#[.string (strOfNums (textI (goodI ((cleanV v).neg) ((cleanV v).mag))))], _, args1 (k.eq1 2 31 rfl), fun w => by kernel_rfl, ascii_c (strOfNums (textI (goodI ((cleanV v).neg) ((cleanV v).mag)))) _ (by first | omega | (show (_ : Nat) ≤ _; decide)), ?_⟩
       rintro e w' ⟨fe, ff, rfl, hmo0, hm⟩
       exact ⟨_, rfl, hm, ⟨fe, ff, rfl, (hmo0.more hn.size)⟩⟩)) ?_
 refine .o1 (tk rfl rfl fun _ w hn k => (by
       obtain ⟨fg, fh, fi, d7⟩ : (OP aP.heap.size 74 .u16 (asc (strOfNums (textI (goodI ((cleanV v).neg) ((cleanV v).mag)))))) _ _ := k.dep 3 32 (by kernel_rfl) (by kernel_rfl)
       exact ⟨_, v_assign rfl fi, ⟨fg, fh, rfl, d7⟩⟩)) ?_
 exact .t (fun _ w hn k => ⟨_, v_assign rfl rfl, rfl⟩) .nil
 refine aftI aw bu aQ fun d8 f6 fC cR cS fD bx => ?_
 obtain ⟨aG, an, bf, cT⟩ : (OP aP.heap.size 74 .u16 (asc (strOfNums (textI (goodI ((cleanV v).neg) ((cleanV v).mag)))))) _ _ := bx.got 4 2 rfl (by kernel_rfl)
 have bf : d8.eval (.tmp 2) = sv aG (asc (strOfNums (textI (goodI ((cleanV v).neg) ((cleanV v).mag))))) an := bf
 have d9 := bx.ge 5 3 rfl
 have cU := cT.more aQ.size
 refine st_nil (cQ _ _ ?_)
 refine wp_ret (ret_k cR (v := .tuple #[sv aG (asc (strOfNums (textI (goodI ((cleanV v).neg) ((cleanV v).mag))))) an, iv 0]) (res_tt rfl bf d9 _) ?_)
 have ad : (textV v).1 = (asc (strOfNums (textI (goodI ((cleanV v).neg) ((cleanV v).mag))))) := by first | rfl | (simp only [textV, ac, aa, ab, ae, af, bsm] <;> rfl) | (exfalso; omega)
 exact ⟨aG, an, (by show Ending.returned (.tuple #[sv aG (asc (strOfNums (textI (goodI ((cleanV v).neg) ((cleanV v).mag))))) an, iv 0]) = Ending.returned (.tuple #[sv aG ((textV v).1) an, iv ((textV v).2)]); (first | rfl | (simp only [textV, ac, aa, ab, ae, af, ad, bsm] <;> rfl) | (exfalso; omega))), (by rw [ad]; exact cU), cS⟩
 have b2 := oF af
 have cV := hB b1 af
 refine wp_cond_false cV ?_
 refine wp_seq_k fun f7 cW => ?_
 refine wp_g0 [true, true] [] 38
   [ve (.bool (decide (((cleanV v).k) = 5))), ve (.bool (decide (((cleanV v).k) = 5)))] aw (.eq (.eq (.nil))) ?_ ?_
 exact .t (fun _ w hn k => ⟨_, v_bin rfl (k.fx 7 d6) rfl (fun _ => rfl) (r_eql rfl), rfl⟩) <| .a (fun k => k.eq1 0 34 rfl) .nil
 refine aftI aw bu aQ fun f8 aT ax bz aU aV bA => ?_
 have ea := bA.fx 1 b0
 have b3 := bA.ge 1 33 rfl
 have cX := bv.new_ aV
 have fE := bw.new_ aV
 have cY := cO.new_ aV
 refine st_nil (cW _ _ ?_)
 rcases bc (decide (((cleanV v).k) = 5)) with ah | ah
 have b4 := oT ah
 have cZ := hB b3 ah
 refine wp_cond_true cZ ?_
 refine wp_seq_k fun f9 c0 => ?_
 refine wp_g0 [true, true, true, true, true] [] 38
   [ve (.pointer (some ⟨q9, 5, none⟩)), ve (sv az ((cleanV v).s) aA),
    (OP aT.heap.size 74 .u16 ((cleanV v).s)),
    (OP aT.heap.size 74 .u16 ((cleanV v).s)), ve (iv 0)] ax (.eq (.eq (.cons (fun _ _ _ n ⟨_, _, e, h⟩ => ⟨_, _, e, h.new_ n⟩) (.cons (fun v W W' hn ⟨fl, fm, he, h0⟩ => ⟨fl, fm, he, h0.new_ hn⟩) (.eq (.nil)))))) ?_ ?_
 refine .f (fun k => k.fx 1 ea) <| .t (fun _ w hn k => ⟨_, v_load rfl (k.eq1 0 35 rfl) (l_one Tryz.isAgg27 ((cX.new_ hn).cell 5)), rfl⟩) ?_
 refine .o1 (tkC rfl (noG rfl) rfl fun _ w hn k => (by
       refine ⟨#[sv az ((cleanV v).s) aA], _, args1 (k.eq1 1 36 rfl), fun w => by kernel_rfl, clone16_c _ ((cleanV v).s) _ _ (cY.new_ hn) (by first | omega | (simp only [List.length_nil, List.length_take, List.length_drop]; omega) | (simp only [List.length_cons, List.length_nil]; omega)), ?_⟩
       rintro e w' ⟨fn, fo, rfl, hmo0, hm⟩
       exact ⟨_, rfl, hm, ⟨fn, fo, rfl, (hmo0.more hn.size)⟩⟩)) ?_
 refine .o1 (tk rfl rfl fun _ w hn k => (by
       obtain ⟨fp, fq, fr, eb⟩ : (OP aT.heap.size 74 .u16 ((cleanV v).s)) _ _ := k.dep 2 37 (by kernel_rfl) (by kernel_rfl)
       exact ⟨_, v_assign rfl fr, ⟨fp, fq, rfl, eb⟩⟩)) ?_
 exact .t (fun _ w hn k => ⟨_, v_assign rfl rfl, rfl⟩) .nil
 refine aftI ax bz aU fun ec ga fF c1 c3 fG bB => ?_
 obtain ⟨aH, ao, bg, c5⟩ : (OP aT.heap.size 74 .u16 ((cleanV v).s)) _ _ := bB.got 3 2 rfl (by kernel_rfl)
 have bg : ec.eval (.tmp 2) = sv aH ((cleanV v).s) ao := bg
 have ed := bB.ge 4 3 rfl
 have c7 := c5.more aU.size
 refine st_nil (c0 _ _ ?_)
 refine wp_ret (ret_k c1 (v := .tuple #[sv aH ((cleanV v).s) ao, iv 0]) (res_tt rfl bg ed _) ?_)
 have ad : (textV v).1 = ((cleanV v).s) := by first | rfl | (simp only [textV, ac, aa, ab, ae, af, ah, bsm] <;> rfl) | (exfalso; omega)
 exact ⟨aH, ao, (by show Ending.returned (.tuple #[sv aH ((cleanV v).s) ao, iv 0]) = Ending.returned (.tuple #[sv aH ((textV v).1) ao, iv ((textV v).2)]); (first | rfl | (simp only [textV, ac, aa, ab, ae, af, ah, ad, bsm] <;> rfl) | (exfalso; omega))), (by rw [ad]; exact c7), c3⟩
 have b4 := oF ah
 have c9 := hB b3 ah
 refine wp_cond_false c9 ?_
 refine wp_skip ?_
 refine dx _ _ ?_
 refine wp_seq_k fun gb da => ?_
 refine wp_g0 [true, true] [] 38
   [ve (sv none ([]) 0), ve (iv 3)] ax (.eq (.eq (.nil))) ?_ ?_
 exact .t (fun _ w hn k => ⟨_, v_assign rfl rfl, rfl⟩) <| .t (fun _ w hn k => ⟨_, v_assign rfl rfl, rfl⟩) .nil
 refine aftI ax bz aU fun gc gd fH db dc fI bC => ?_
 have ee := bC.ge 0 2 rfl
 have ef := bC.ge 1 3 rfl
 refine st_nil (da _ _ ?_)
 refine wp_ret (ret_k db (v := .tuple #[sv none ([]) 0, iv 3]) (res_tt rfl ee ef _) ?_)
 have ad : (textV v).1 = [] := by first | rfl | (simp only [textV, ac, aa, ab, ae, af, ah, bsm] <;> rfl) | (exfalso; omega)
 exact ⟨none, 0, (by show Ending.returned (.tuple #[sv none ([]) 0, iv 3]) = Ending.returned (.tuple #[sv none ((textV v).1) 0, iv ((textV v).2)]); (first | rfl | (simp only [textV, ac, aa, ab, ae, af, ah, ad, bsm] <;> rfl) | (exfalso; omega))), (by rw [ad]; exact (SOwn.nil _ _ _ _)), dc⟩
def join_c_P (v : Vl) (Av : Option Addr) (cv : Nat) (Bv : Option Addr) (dv : Nat) (u : Vl) (Au : Option Addr) (cu : Nat) (Bu : Option Addr) (du : Nat) (w : World) (en : Ending) (w' : World) : Prop := ∃ (Ar0 : Option Addr) (cr0 : Nat) (Ar1 : Option Addr) (cr1 : Nat), en = .returned (.tuple #[vv (joinV v u).1 Ar0 cr0 Ar1 cr1, iv ((joinV v u).2)]) ∧ SRow w' .u32 Ar0 ((joinV v u).1.mag) cr0 ∧ SRow w' .u16 Ar1 ((joinV v u).1.s) cr1 ∧ New w w'
theorem join_c (v : Vl) (Av : Option Addr) (cv : Nat) (Bv : Option Addr) (dv : Nat) (u : Vl) (Au : Option Addr) (cu : Nat) (Bu : Option Addr) (du : Nat) (w : World) (hmv : SRow w .u32 Av v.mag cv) (hsv : SRow w .u16 Bv v.s dv) (hmu : SRow w .u32 Au u.mag cu) (hsu : SRow w .u16 Bu u.s du) (hvv : VOk v) (hvu : VOk u) (HT : ItoaOk w) : Calls Tryz.prog 35 #[vv v Av cv Bv dv, vv u Au cu Bu du] w (join_c_P v Av cv Bv dv u Au cu Bu du w) := by
 refine enter_abs Tryz.func35 rfl fun a0 a8 ew hp => ?_
 have a8 : a0.tmps.size = 40 := a8
 have a9 : New w w := Upd.refl _ _
 have hp0 : a0.eval (.tmp 0) = vv v Av cv Bv dv := hp 0 _ rfl
 have hp1 : a0.eval (.tmp 1) = vv u Au cu Bu du := hp 1 _ rfl
 have htl1 := text_len hvv
 have htl2 := text_len hvu
 refine wp_seq_k fun K1 ex => ?_
 refine wp_g [true, true, true, true] [] [] 40
   [IsNew w 29 [iv v.k, iv v.nk, iv v.nn, .bool v.neg, sv Av v.mag cv, sv Bv v.s dv, iv v.ref], IsNew w 29 [iv u.k, iv u.nk, iv u.nn, .bool u.neg, sv Au u.mag cu, sv Bu u.s du, iv u.ref], IsNew w 29 [iv 0, iv 0, iv 0, .bool false, sv none ([]) 0, sv none ([]) 0, iv 0], ve (iv 0)]
   [0, 1, 2] (newsCons (fun v w h => IsNew.old h) (newsCons (fun v w h => IsNew.old h) (newsCons (fun v w h => IsNew.old h) newsNil))) a8 (.nw (.nw (.nw (.eq (.nil))))) ?_ (fun i h => by cases h) ?_
 exact .o2 (step_allocN (cs := [iv v.k, iv v.nk, iv v.nn, .bool v.neg, sv Av v.mag cv, sv Bv v.s dv, iv v.ref]) (t := 29) rfl (noG rfl) (fun _ w hn k => v_box rfl (k.fx 0 hp0) (fun w => rfl)) (fun q _ hq hb => ⟨q, rfl, hq, hb⟩)) <| .o2 (step_allocN (cs := [iv u.k, iv u.nk, iv u.nn, .bool u.neg, sv Au u.mag cu, sv Bu u.s du, iv u.ref]) (t := 29) rfl (noG rfl) (fun _ w hn k => v_box rfl (k.fx 1 hp1) (fun w => rfl)) (fun q _ hq hb => ⟨q, rfl, hq, hb⟩)) <| .o2 (step_allocN (cs := [iv 0, iv 0, iv 0, .bool false, sv none ([]) 0, sv none ([]) 0, iv 0]) (t := 29) rfl (noG rfl) (fun _ w hn k => rfl) (fun q _ hq hb => ⟨q, rfl, hq, hb⟩)) <| .t (fun _ w hn k => ⟨_, v_assign rfl rfl, rfl⟩) .nil
 refine aftI a8 ew a9 fun a2 w3 dw ey aC f7 a3 => ?_
 obtain ⟨q9, h8, dD, dE⟩ : IsNew _ _ _ _ _ := a3.got 0 2 rfl (by kernel_rfl)
 obtain ⟨ez, dx, dF, dG⟩ : IsNew _ _ _ _ _ := a3.got 1 3 rfl (by kernel_rfl)
 obtain ⟨aI, bw, dH, dI⟩ : IsNew _ _ _ _ _ := a3.got 2 4 rfl (by kernel_rfl)
 have hne20 : q9 ≠ aI := a3.ne 0 2 2 4 h8 bw
 have hne21 : ez ≠ aI := a3.ne 1 2 3 4 dx bw
 have fp := Nat.le_trans a9.size dD
 have fq := Nat.le_trans a9.size dF
 have fr := Nat.le_trans a9.size dH
 refine st_nil (ex _ _ (wp_seq_k fun f8 dJ => ?_))
 refine wp_g0 [true, true, true, true, true, true, true] [] 40
   [ve (vv v Av cv Bv dv), (fun (v_ : Value) (W : World) => ∃ (A3 : Option Addr) (c4 : Nat), v_ = .tuple #[sv A3 ((textV v).1) c4, iv ((textV v).2)] ∧ SOwn W w3.heap.size 74 .u16 A3 ((textV v).1) c4), (fun (v_ : Value) (W : World) => ∃ (A9 : Option Addr) (ao : Nat), v_ = .tuple #[sv A9 ((textV v).1) ao, iv ((textV v).2)] ∧ SOwn W w3.heap.size 74 .u16 A9 ((textV v).1) ao),
    (OP w3.heap.size 74 .u16 ((textV v).1)), ve (iv ((textV v).2)),
    (OP w3.heap.size 74 .u16 ((textV v).1)), ve (iv ((textV v).2))] dw (.eq (.cons (fun _ _ _ n ⟨_, _, e, h⟩ => ⟨_, _, e, h.new_ n⟩) (.cons (fun v W W' hn ⟨A9, ao, he, h0⟩ => ⟨A9, ao, he, h0.new_ hn⟩) (.cons (fun _ _ _ n ⟨_, _, e, h⟩ => ⟨_, _, e, h.new_ n⟩) (.eq (.cons (fun _ _ _ n ⟨_, _, e, h⟩ => ⟨_, _, e, h.new_ n⟩) (.eq (.nil)))))))) ?_ ?_
 refine .t (fun _ w hn k => ⟨_, v_load rfl (k.fx 2 h8) (l_agg Tryz.isAgg29 Tryz.sizeOf29 (dE.new_ hn) rfl), rfl⟩) ?_
 refine .o1 (tkC rfl (noG rfl) rfl fun _ w hn k => (by
       refine ⟨#[vv v Av cv Bv dv], _, args1 (k.eq1 0 10 rfl), fun w => by kernel_rfl, ctext_c v _ _ _ _ _ (hmv.new_ (aC.transNew hn)) (hsv.new_ (aC.transNew hn)) hvv (HT.up (aC.transNew hn)), ?_⟩
       rintro e w' ⟨A1, c2, rfl, hmo0, hm⟩
       exact ⟨_, rfl, hm, ⟨A1, c2, rfl, (hmo0.more hn.size)⟩⟩)) ?_
 refine .o1 (tk rfl rfl fun _ w hn k => (by
       obtain ⟨A5, c6, e7, eE⟩ : (fun (v_ : Value) (W : World) => ∃ (A3 : Option Addr) (c4 : Nat), v_ = .tuple #[sv A3 ((textV v).1) c4, iv ((textV v).2)] ∧ SOwn W w3.heap.size 74 .u16 A3 ((textV v).1) c4) _ _ := k.dep 1 11 (by kernel_rfl) (by kernel_rfl)
       exact ⟨_, v_move rfl e7, ⟨A5, c6, rfl, eE⟩⟩)) ?_
 refine .o1 (tk rfl rfl fun _ w hn k => (by
       obtain ⟨eF, eG, eH, dK⟩ : (fun (v_ : Value) (W : World) => ∃ (A9 : Option Addr) (ao : Nat), v_ = .tuple #[sv A9 ((textV v).1) ao, iv ((textV v).2)] ∧ SOwn W w3.heap.size 74 .u16 A9 ((textV v).1) ao) _ _ := k.dep 2 9 (by kernel_rfl) (by kernel_rfl)
       exact ⟨_, v_extract rfl eH rfl, ⟨eF, eG, rfl, dK⟩⟩)) ?_
 refine .o1 (tk rfl rfl fun _ w hn k => (by
       obtain ⟨f9, ga, eI, fs⟩ : (fun (v_ : Value) (W : World) => ∃ (A9 : Option Addr) (ao : Nat), v_ = .tuple #[sv A9 ((textV v).1) ao, iv ((textV v).2)] ∧ SOwn W w3.heap.size 74 .u16 A9 ((textV v).1) ao) _ _ := k.dep 2 9 (by kernel_rfl) (by kernel_rfl)
       exact ⟨_, v_extract rfl eI rfl, rfl⟩)) ?_
 refine .o1 (tk rfl rfl fun _ w hn k => (by
       obtain ⟨eJ, eK, eL, dL⟩ : (OP w3.heap.size 74 .u16 ((textV v).1)) _ _ := k.dep 3 12 (by kernel_rfl) (by kernel_rfl)
       exact ⟨_, v_assign rfl eL, ⟨eJ, eK, rfl, dL⟩⟩)) ?_
 exact .a (fun k => k.eq1 4 13 rfl) .nil
 refine aftI dw ey aC fun eM gb aJ bx bz bA aK => ?_
 have dy := aK.fx 3 dx
 have dz := aK.fx 4 bw
 obtain ⟨ba, aL, bb, dM⟩ : (OP w3.heap.size 74 .u16 ((textV v).1)) _ _ := aK.got 5 6 rfl (by kernel_rfl)
 have bb : eM.eval (.tmp 6) = sv ba ((textV v).1) aL := bb
 have bd := aK.ge 6 7 rfl
 have bB := dG.new_ bA
 have bC := dI.new_ bA
 have bD := dM.more aC.size
 refine st_nil (dJ _ _ (wp_seq_k fun gc dN => ?_))
 refine wp_seq_k fun gd bE => ?_
 rcases bc (decide (((textV v).2) = 0)) with aa | aa
 have ch := oT aa
 refine wp_g0 [true, true] [] 40
   [ve (iv ((textV v).2)), vF] aJ (.eq (.eq (.nil))) ?_ ?_
 exact .m (fun k => k.fx 7 bd) <| .t (fun _ w hn k => ⟨_, v_bin rfl (k.eq1 0 14 rfl) rfl (fun _ => rfl) (r_neq aa), rfl⟩) .nil
 refine aftI aJ bx bz fun gf ar bF dO aD a4 aE => ?_
 have eN := aE.fx 3 dy
 have eO := aE.fx 4 dz
 have eP := aE.fx 6 bb
 have gg := aE.fx 7 bd
 have eQ := aE.ge 1 15 rfl
 have dP := bB.new_ a4
 have dQ := bC.new_ a4
 have dR := bD.new_ a4
 refine st_nil (bE _ _ ?_)
 refine wp_cond_false eQ ?_
 refine wp_skip ?_
 refine dN _ _ ?_
 refine wp_seq_k fun gh dS => ?_
 refine wp_g0 [true, true, true, true, true, true, true] [] 40
   [ve (vv u Au cu Bu du), (fun (v_ : Value) (W : World) => ∃ (aF : Option Addr) (aG : Nat), v_ = .tuple #[sv aF ((textV u).1) aG, iv ((textV u).2)] ∧ SOwn W ar.heap.size 74 .u16 aF ((textV u).1) aG), (fun (v_ : Value) (W : World) => ∃ (ap : Option Addr) (aq : Nat), v_ = .tuple #[sv ap ((textV u).1) aq, iv ((textV u).2)] ∧ SOwn W ar.heap.size 74 .u16 ap ((textV u).1) aq),
    (OP ar.heap.size 74 .u16 ((textV u).1)), ve (iv ((textV u).2)),
    (OP ar.heap.size 74 .u16 ((textV u).1)), ve (iv ((textV u).2))] bF (.eq (.cons (fun _ _ _ n ⟨_, _, e, h⟩ => ⟨_, _, e, h.new_ n⟩) (.cons (fun v W W' hn ⟨ap, aq, he, h0⟩ => ⟨ap, aq, he, h0.new_ hn⟩) (.cons (fun _ _ _ n ⟨_, _, e, h⟩ => ⟨_, _, e, h.new_ n⟩) (.eq (.cons (fun _ _ _ n ⟨_, _, e, h⟩ => ⟨_, _, e, h.new_ n⟩) (.eq (.nil)))))))) ?_ ?_
 refine .t (fun _ w hn k => ⟨_, v_load rfl (k.fx 3 eN) (l_agg Tryz.isAgg29 Tryz.sizeOf29 (dP.new_ hn) rfl), rfl⟩) ?_
 refine .o1 (tkC rfl (noG rfl) rfl fun _ w hn k => (by
       refine ⟨#[vv u Au cu Bu du], _, args1 (k.eq1 0 19 rfl), fun w => by kernel_rfl, ctext_c u _ _ _ _ _ (hmu.new_ (aD.transNew hn)) (hsu.new_ (aD.transNew hn)) hvu (HT.up (aD.transNew hn)), ?_⟩
       rintro e w' ⟨eV, eW, rfl, hmo0, hm⟩
       exact ⟨_, rfl, hm, ⟨eV, eW, rfl, (hmo0.more hn.size)⟩⟩)) ?_
 refine .o1 (tk rfl rfl fun _ w hn k => (by
       obtain ⟨eX, eY, eZ, dT⟩ : (fun (v_ : Value) (W : World) => ∃ (aF : Option Addr) (aG : Nat), v_ = .tuple #[sv aF ((textV u).1) aG, iv ((textV u).2)] ∧ SOwn W ar.heap.size 74 .u16 aF ((textV u).1) aG) _ _ := k.dep 1 20 (by kernel_rfl) (by kernel_rfl)
       exact ⟨_, v_move rfl eZ, ⟨eX, eY, rfl, dT⟩⟩)) ?_
 refine .o1 (tk rfl rfl fun _ w hn k => (by
       obtain ⟨e0, e1, e2, dU⟩ : (fun (v_ : Value) (W : World) => ∃ (ap : Option Addr) (aq : Nat), v_ = .tuple #[sv ap ((textV u).1) aq, iv ((textV u).2)] ∧ SOwn W ar.heap.size 74 .u16 ap ((textV u).1) aq) _ _ := k.dep 2 18 (by kernel_rfl) (by kernel_rfl)
       exact ⟨_, v_extract rfl e2 rfl, ⟨e0, e1, rfl, dU⟩⟩)) ?_
 refine .o1 (tk rfl rfl fun _ w hn k => (by
       obtain ⟨gi, gj, e3, ft⟩ : (fun (v_ : Value) (W : World) => ∃ (ap : Option Addr) (aq : Nat), v_ = .tuple #[sv ap ((textV u).1) aq, iv ((textV u).2)] ∧ SOwn W ar.heap.size 74 .u16 ap ((textV u).1) aq) _ _ := k.dep 2 18 (by kernel_rfl) (by kernel_rfl)
       exact ⟨_, v_extract rfl e3 rfl, rfl⟩)) ?_
 refine .o1 (tk rfl rfl fun _ w hn k => (by
       obtain ⟨e4, e5, e6, dV⟩ : (OP ar.heap.size 74 .u16 ((textV u).1)) _ _ := k.dep 3 21 (by kernel_rfl) (by kernel_rfl)
       exact ⟨_, v_assign rfl e6, ⟨e4, e5, rfl, dV⟩⟩)) ?_
 exact .a (fun k => k.eq1 4 22 rfl) .nil
 refine aftI bF dO aD fun e8 gk aM bG bH bI aN => ?_
 have dA := aN.fx 4 eO
 have dB := aN.fx 6 eP
 obtain ⟨be, aO, bf, dW⟩ : (OP ar.heap.size 74 .u16 ((textV u).1)) _ _ := aN.got 5 8 rfl (by kernel_rfl)
 have bf : e8.eval (.tmp 8) = sv be ((textV u).1) aO := bf
 have bg := aN.ge 6 7 rfl
 have bJ := dQ.new_ bI
 have bK := dR.new_ bI
 have bL := dW.more aD.size
 refine st_nil (dS _ _ (wp_seq_k fun gl dX => ?_))
 refine wp_block ?_
 refine wp_seq_k fun gm bM => ?_
 rcases bc (decide (((textV u).2) = 0)) with ab | ab
 have ci := oT ab
 refine wp_g0 [true, true, true] [] 40
   [ve (iv ((textV u).2)), vF, vF] aM (.eq (.eq (.eq (.nil)))) ?_ ?_
 exact .m (fun k => k.fx 7 bg) <| .t (fun _ w hn k => ⟨_, v_bin rfl (k.eq1 0 24 rfl) rfl (fun _ => rfl) (r_neq ab), rfl⟩) <| .a (fun k => k.eq1 1 25 rfl) .nil
 refine aftI aM bG bH fun gn go aP bN bO a5 aH => ?_
 have dC := aH.fx 4 dA
 have bh := aH.fx 6 dB
 have bi := aH.fx 8 bf
 have gp := aH.fx 7 bg
 have e9 := aH.ge 2 23 rfl
 have bP := bJ.new_ a5
 have bQ := bK.new_ a5
 have bR := bL.new_ a5
 refine st_nil (bM _ _ ?_)
 refine wp_cond_false e9 ?_
 refine wp_seq_k fun gq bS => ?_
 rcases bc (decide ((((((textV v).1).length) + (((textV u).1).length) : Nat) : Int) ≤ 4096)) with ae | ae
 have cj := oT ae
 refine wp_g0 [true, true, true, true, true, true, true] [] 40
   [ve (sv ba ((textV v).1) aL), ve (iv (((textV v).1).length : Int)), ve (sv be ((textV u).1) aO), ve (iv (((textV u).1).length : Int)), ve (iv (((((textV v).1).length) + (((textV u).1).length) : Nat) : Int)), vF, vF] aP (.eq (.eq (.eq (.eq (.eq (.eq (.eq (.nil)))))))) ?_ ?_
 exact .m (fun k => k.fx 6 bh) <| .t (fun _ w hn k => ⟨_, v_lenR rfl elU (k.eq1 0 29 rfl), rfl⟩) <| .m (fun k => k.fx 8 bi) <| .t (fun _ w hn k => ⟨_, v_lenR rfl elU (k.eq1 2 31 rfl), rfl⟩) <| .t (fun _ w hn k => ⟨_, v_bin rfl (k.eq1 1 30 rfl) (k.eq1 3 32 rfl) (fun _ => rfl) (n_add (by omega) (IntWalk.i64_in _ (by omega))), rfl⟩) <| .t (fun _ w hn k => ⟨_, v_bin rfl (k.eq1 4 33 rfl) rfl (fun _ => rfl) (r_gtrK ae), rfl⟩) <| .a (fun k => k.eq1 5 34 rfl) .nil
 refine aftI aP bN bO fun fu fv bj cl cm aQ ax => ?_
 have dY := ax.fx 4 dC
 have dZ := ax.fx 6 bh
 have d0 := ax.fx 8 bi
 have d1 := ax.ge 6 28 rfl
 have cn := bP.new_ aQ
 have co := bQ.new_ aQ
 have cp := bR.new_ aQ
 refine st_nil (bS _ _ ?_)
 refine wp_cond_false d1 ?_
 refine wp_skip ?_
 refine dX _ _ ?_
 refine wp_seq_k fun fw cq => ?_
 have hjl : ((textV v).1 ++ (textV u).1).length ≤ 4096 := by rw [List.length_append]; omega
 refine wp_g0 [true, true, false, false, false, false] [(2, false), (3, false), (4, false), (5, true)] 40
   [ve (sv ba ((textV v).1) aL), ve (sv be ((textV u).1) aO), vt, vt, vt, vt] bj (.eq (.eq (.tt (.tt (.tt (.tt (.nil))))))) ?_ ?_
 exact .m (fun k => k.fx 6 dZ) <| .m (fun k => k.fx 8 d0) <| .off <| .off <| .off <| .off .nil
 refine aftI bj cl cm fun bT fy bk cr bl aR aS => ?_
 have d2 := aS.fx 4 dY
 have d3 := aS.ge 0 36 rfl
 have d4 := aS.ge 1 37 rfl
 have ct := cn.new_ aR
 have aT := co.new_ aR
 have cw := cp.new_ aR
 have hw136 := bl.size
 refine st_act rfl rfl fun fz cx => a_append (k := .u16) (b := w.heap.size) rfl elU d3 aT d4 cw.row (by first | omega | (simp only [List.length_nil, List.length_cons, List.length_append, List.length_take, List.length_drop, List.length_replicate, List.length_set]; omega)) (by first | omega | (simp only [List.length_nil, List.length_cons, List.length_append, List.length_take, List.length_drop, List.length_replicate, List.length_set]; omega)) hw136 fun aU ay fA bm hg132 => cx _ _ trivial ?_
 have cy := bl.ownGrown aT hg132
 have cz := ct.ownGrown aT (by decide) hg132
 obtain ⟨a6, au⟩ : ∃ a', a' = bT.put (some 38) (sv aU ((textV v).1 ++ (textV u).1) ay) := ⟨_, rfl⟩
 have bn := pz au bk
 have cA := pd au cr
 have d5 := pn au d2 (by decide)
 have bU : a6.eval (.tmp 38) = sv aU ((textV v).1 ++ (textV u).1) ay := by rw [au]; exact put_same _ _ _ (by rw [bk]; decide)
 show stepsTo _ _ _ _ _ (bT.put (some 38) (sv aU ((textV v).1 ++ (textV u).1) ay)) _
 rw [← au]
 refine st_act rfl rfl fun fB cB => ?_
 refine a_call (args := #[sv aU ((textV v).1 ++ (textV u).1) ay]) rfl (args1 bU) (fun w => by kernel_rfl) (cstr_c _ ((textV v).1 ++ (textV u).1) _ _ bm.row (by first | omega | (simp only [List.length_nil, List.length_take, List.length_drop]; omega) | (simp only [List.length_cons, List.length_nil]; omega))) ?_
 rintro fC fD ⟨af, ac, ag, ad, rfl, cC, cD, aV⟩
 refine ⟨_, rfl, cB _ _ trivial ?_⟩
 have az := cz.new_ aV
 have cE := bm.new_ aV
 have cF := cy.transNew aV
 obtain ⟨a7, am⟩ : ∃ a', a' = a6.put (some 39) (vv (strV ((textV v).1 ++ (textV u).1)) af ac ag ad) := ⟨_, rfl⟩
 have bo := pz am bn
 have cG := pd am cA
 have bV := pn am d5 (by decide)
 have d6 := pn am bU (by decide)
 have bW : a7.eval (.tmp 39) = vv (strV ((textV v).1 ++ (textV u).1)) af ac ag ad := by rw [am]; exact put_same _ _ _ (by rw [bn]; decide)
 show stepsTo _ _ _ _ _ (a6.put (some 39) (vv (strV ((textV v).1 ++ (textV u).1)) af ac ag ad)) _
 rw [← am]
 obtain ⟨d7, bX, bY, aA, fa⟩ := s_many (P := Tryz.prog) (t := 29) (i := 0) [iv ((strV ((textV v).1 ++ (textV u).1)).k), iv ((strV ((textV v).1 ++ (textV u).1)).nk), iv ((strV ((textV v).1 ++ (textV u).1)).nn), .bool ((strV ((textV v).1 ++ (textV u).1)).neg), sv af ((strV ((textV v).1 ++ (textV u).1)).mag) ac, sv ag ((strV ((textV v).1 ++ (textV u).1)).s) ad, iv ((strV ((textV v).1 ++ (textV u).1)).ref)] Tryz.sizeOf29 rfl rfl rfl az lb
 have cH : Blk d7 aI 29 [iv ((strV ((textV v).1 ++ (textV u).1)).k), iv ((strV ((textV v).1 ++ (textV u).1)).nk), iv ((strV ((textV v).1 ++ (textV u).1)).nn), .bool ((strV ((textV v).1 ++ (textV u).1)).neg), sv af ((strV ((textV v).1 ++ (textV u).1)).mag) ac, sv ag ((strV ((textV v).1 ++ (textV u).1)).s) ad, iv ((strV ((textV v).1 ++ (textV u).1)).ref)] := bY
 refine st_act rfl rfl fun fE cI => a_store' rfl bV bW bX (cI _ _ trivial ?_)
 have fb := cE.far az aA (by decide)
 have cJ := cC.far az aA (by first | rfl | decide | simp [notK])
 have cK := cD.far az aA (by first | rfl | decide | simp [notK])
 have cL := cF.trans aA (fun _ h b => by subst b; omega)
 refine st_take rfl rfl (y_assign (v := iv 0) rfl rfl) rfl ?_
 obtain ⟨d8, ah⟩ : ∃ a', a' = a7.put (some 5) (iv 0) := ⟨_, rfl⟩
 have fc := pz ah bo
 have cM := pd ah cG
 have d9 := pn ah bV (by decide)
 have fF := pn ah d6 (by decide)
 have fG := pn ah bW (by decide)
 have ea : d8.eval (.tmp 5) = iv 0 := by rw [ah]; exact put_same _ _ _ (by rw [bo]; decide)
 show stepsTo _ _ _ _ _ (a7.put (some 5) (iv 0)) _
 rw [← ah]
 refine st_nil (cq _ _ ?_)
 refine wp_ret (ret_k cM (v := .tuple #[vv (strV ((textV v).1 ++ (textV u).1)) af ac ag ad, iv 0]) (res_ct rfl d9 ea (l_agg Tryz.isAgg29 Tryz.sizeOf29 cH rfl)) ?_)
 have ak : (joinV v u).1.mag = (strV ((textV v).1 ++ (textV u).1)).mag := by first | rfl | (simp only [joinV, Vl.z, aa, ab, ae, bsm] <;> rfl) | (exfalso; omega)
 have al : (joinV v u).1.s = (strV ((textV v).1 ++ (textV u).1)).s := by first | rfl | (simp only [joinV, Vl.z, aa, ab, ae, bsm] <;> rfl) | (exfalso; omega)
 exact ⟨af, ac, ag, ad, (by show Ending.returned (.tuple #[vv (strV ((textV v).1 ++ (textV u).1)) af ac ag ad, iv 0]) = Ending.returned (.tuple #[vv (joinV v u).1 af ac ag ad, iv ((joinV v u).2)]); (first | rfl | (simp only [joinV, Vl.z, aa, ab, ae, ak, al, bsm] <;> rfl) | (exfalso; omega))), (by rw [ak]; exact cJ), (by rw [al]; exact cK), cL⟩
 have cj := oF ae
 refine wp_g0 [true, true, true, true, true, true, true] [] 40
   [ve (sv ba ((textV v).1) aL), ve (iv (((textV v).1).length : Int)), ve (sv be ((textV u).1) aO), ve (iv (((textV u).1).length : Int)), ve (iv (((((textV v).1).length) + (((textV u).1).length) : Nat) : Int)), vT, vT] aP (.eq (.eq (.eq (.eq (.eq (.eq (.eq (.nil)))))))) ?_ ?_
 exact .m (fun k => k.fx 6 bh) <| .t (fun _ w hn k => ⟨_, v_lenR rfl elU (k.eq1 0 29 rfl), rfl⟩) <| .m (fun k => k.fx 8 bi) <| .t (fun _ w hn k => ⟨_, v_lenR rfl elU (k.eq1 2 31 rfl), rfl⟩) <| .t (fun _ w hn k => ⟨_, v_bin rfl (k.eq1 1 30 rfl) (k.eq1 3 32 rfl) (fun _ => rfl) (n_add (by omega) (IntWalk.i64_in _ (by omega))), rfl⟩) <| .t (fun _ w hn k => ⟨_, v_bin rfl (k.eq1 4 33 rfl) rfl (fun _ => rfl) (r_gtrK ae), rfl⟩) <| .a (fun k => k.eq1 5 34 rfl) .nil
 refine aftI aP bN bO fun fH fI bp cN cO aW aB => ?_
 have eb := aB.fx 4 dC
 have fJ := aB.fx 6 bh
 have fK := aB.fx 8 bi
 have ec := aB.ge 6 28 rfl
 have cP := bP.new_ aW
 have fd := bQ.new_ aW
 have fe := bR.new_ aW
 refine st_nil (bS _ _ ?_)
 refine wp_cond_true ec ?_
 refine wp_seq_k fun fL cQ => ?_
 refine wp_g0 [true, false, false] [(1, false), (2, true)] 40
   [ve (vv (Vl.mk 0 0 0 false [] [] 0) none 0 none 0), vt, vt] bp (.eq (.tt (.tt (.nil)))) ?_ ?_
 exact .t (fun _ w hn k => ⟨_, v_build (ps := []) rfl parts0 (by kernel_rfl), rfl⟩) <| .off <| .off .nil
 refine aftI bp cN cO fun bZ fM bq cR cS cT br => ?_
 have b0 := br.fx 4 eb
 have b1 := br.ge 0 35 rfl
 have cU := cP.new_ cT
 obtain ⟨ed, b2, b3, cV, ff⟩ := s_many (P := Tryz.prog) (t := 29) (i := 0) [iv 0, iv 0, iv 0, .bool false, sv none ([]) 0, sv none ([]) 0, iv 0] Tryz.sizeOf29 rfl rfl rfl cU lb
 have cW : Blk ed aI 29 [iv 0, iv 0, iv 0, .bool false, sv none ([]) 0, sv none ([]) 0, iv 0] := b3
 refine st_act rfl rfl fun fN cX => a_store' rfl b0 b1 b2 (cX _ _ trivial ?_)
 have cY := cS.trans cV (fun _ h b => by subst b; omega)
 refine st_take rfl rfl (y_assign (v := iv 3) rfl rfl) rfl ?_
 obtain ⟨ee, an⟩ : ∃ a', a' = bZ.put (some 5) (iv 3) := ⟨_, rfl⟩
 have fg := pz an bq
 have cZ := pd an cR
 have ef := pn an b0 (by decide)
 have fO := pn an b1 (by decide)
 have eg : ee.eval (.tmp 5) = iv 3 := by rw [an]; exact put_same _ _ _ (by rw [bq]; decide)
 show stepsTo _ _ _ _ _ (bZ.put (some 5) (iv 3)) _
 rw [← an]
 refine st_nil (cQ _ _ ?_)
 refine wp_ret (ret_k cZ (v := .tuple #[vv (Vl.mk 0 0 0 false [] [] 0) none 0 none 0, iv 3]) (res_ct rfl ef eg (l_agg Tryz.isAgg29 Tryz.sizeOf29 cW rfl)) ?_)
 have ak : (joinV v u).1.mag = [] := by first | rfl | (simp only [joinV, Vl.z, aa, ab, ae, bsm] <;> rfl) | (exfalso; omega)
 have al : (joinV v u).1.s = [] := by first | rfl | (simp only [joinV, Vl.z, aa, ab, ae, bsm] <;> rfl) | (exfalso; omega)
 exact ⟨none, 0, none, 0, (by show Ending.returned (.tuple #[vv (Vl.mk 0 0 0 false [] [] 0) none 0 none 0, iv 3]) = Ending.returned (.tuple #[vv (joinV v u).1 none 0 none 0, iv ((joinV v u).2)]); (first | rfl | (simp only [joinV, Vl.z, aa, ab, ae, ak, al, bsm] <;> rfl) | (exfalso; omega))), (by rw [ak]; exact (SRow.nil _ _)), (by rw [al]; exact (SRow.nil _ _)), cY⟩
 have ci := oF ab
 refine wp_g0 [true, true, true] [] 40
   [ve (iv ((textV u).2)), vT, vT] aM (.eq (.eq (.eq (.nil)))) ?_ ?_
 exact .m (fun k => k.fx 7 bg) <| .t (fun _ w hn k => ⟨_, v_bin rfl (k.eq1 0 24 rfl) rfl (fun _ => rfl) (r_neq ab), rfl⟩) <| .a (fun k => k.eq1 1 25 rfl) .nil
 refine aftI aM bG bH fun fP fQ bs c0 c1 aX av => ?_
 have eh := av.fx 4 dA
 have fR := av.fx 6 dB
 have fS := av.fx 8 bf
 have ei := av.fx 7 bg
 have ej := av.ge 2 23 rfl
 have c3 := bJ.new_ aX
 have fh := bK.new_ aX
 have fi := bL.new_ aX
 refine st_nil (bM _ _ ?_)
 refine wp_cond_true ej ?_
 refine wp_seq_k fun fT c5 => ?_
 refine wp_g [true, true, false, false] [1] [(2, false), (3, true)] 40
   [ve (vv (Vl.mk 0 0 0 false [] [] 0) none 0 none 0), ve (iv ((textV u).2)), vt, vt]
   [] newsNil bs (.eq (.eq (.tt (.tt (.nil))))) ?_ ?_ ?_
 refine .t (fun _ w hn k => ⟨_, v_build (ps := []) rfl parts0 (by kernel_rfl), rfl⟩) ?_
 refine .o3 ?_
 exact .off <| .off .nil
 intro i h
 simp only [List.contains_eq_mem, List.mem_cons, List.not_mem_nil, or_false, decide_eq_true_eq] at h
 subst h
 exact eager_take rfl rfl fun _ w hn k => ⟨iv ((textV u).2), fun w => v_move rfl (k.fx 7 ei), rfl⟩
 refine aftI bs c0 c1 fun b4 fU bt c7 c8 c9 aY => ?_
 have b5 := aY.fx 4 eh
 have b6 := aY.ge 0 26 rfl
 have b7 := aY.ge 1 27 rfl
 have da := c3.new_ c9
 obtain ⟨ek, b8, b9, db, fj⟩ := s_many (P := Tryz.prog) (t := 29) (i := 0) [iv 0, iv 0, iv 0, .bool false, sv none ([]) 0, sv none ([]) 0, iv 0] Tryz.sizeOf29 rfl rfl rfl da lb
 have dc : Blk ek aI 29 [iv 0, iv 0, iv 0, .bool false, sv none ([]) 0, sv none ([]) 0, iv 0] := b9
 refine st_act rfl rfl fun fV dd => a_store' rfl b5 b6 b8 (dd _ _ trivial ?_)
 have de := c8.trans db (fun _ h b => by subst b; omega)
 refine st_take rfl rfl (y_assign (v := iv ((textV u).2)) rfl b7) rfl ?_
 obtain ⟨el, ai⟩ : ∃ a', a' = b4.put (some 5) (iv ((textV u).2)) := ⟨_, rfl⟩
 have fk := pz ai bt
 have df := pd ai c7
 have em := pn ai b5 (by decide)
 have fW := pn ai b6 (by decide)
 have fX := pn ai b7 (by decide)
 have en : el.eval (.tmp 5) = iv ((textV u).2) := by rw [ai]; exact put_same _ _ _ (by rw [bt]; decide)
 show stepsTo _ _ _ _ _ (b4.put (some 5) (iv ((textV u).2))) _
 rw [← ai]
 refine st_nil (c5 _ _ ?_)
 refine wp_ret (ret_k df (v := .tuple #[vv (Vl.mk 0 0 0 false [] [] 0) none 0 none 0, iv ((textV u).2)]) (res_ct rfl em en (l_agg Tryz.isAgg29 Tryz.sizeOf29 dc rfl)) ?_)
 have ak : (joinV v u).1.mag = [] := by first | rfl | (simp only [joinV, Vl.z, aa, ab, bsm] <;> rfl) | (exfalso; omega)
 have al : (joinV v u).1.s = [] := by first | rfl | (simp only [joinV, Vl.z, aa, ab, bsm] <;> rfl) | (exfalso; omega)
 exact ⟨none, 0, none, 0, (by show Ending.returned (.tuple #[vv (Vl.mk 0 0 0 false [] [] 0) none 0 none 0, iv ((textV u).2)]) = Ending.returned (.tuple #[vv (joinV v u).1 none 0 none 0, iv ((joinV v u).2)]); (first | rfl | (simp only [joinV, Vl.z, aa, ab, ak, al, bsm] <;> rfl) | (exfalso; omega))), (by rw [ak]; exact (SRow.nil _ _)), (by rw [al]; exact (SRow.nil _ _)), de⟩
 have ch := oF aa
 refine wp_g0 [true, true] [] 40
   [ve (iv ((textV v).2)), vT] aJ (.eq (.eq (.nil))) ?_ ?_
 exact .m (fun k => k.fx 7 bd) <| .t (fun _ w hn k => ⟨_, v_bin rfl (k.eq1 0 14 rfl) rfl (fun _ => rfl) (r_neq aa), rfl⟩) .nil
 refine aftI aJ bx bz fun fY fZ bu dg dh aZ aw => ?_
 have f0 := aw.fx 3 dy
 have eo := aw.fx 4 dz
 have f1 := aw.fx 6 bb
 have ep := aw.fx 7 bd
 have er := aw.ge 1 15 rfl
 have fl := bB.new_ aZ
 have di := bC.new_ aZ
 have fm := bD.new_ aZ
 refine st_nil (bE _ _ ?_)
 refine wp_cond_true er ?_
 refine wp_seq_k fun f2 dj => ?_
 refine wp_g [true, true, false, false] [1] [(2, false), (3, true)] 40
   [ve (vv (Vl.mk 0 0 0 false [] [] 0) none 0 none 0), ve (iv ((textV v).2)), vt, vt]
   [] newsNil bu (.eq (.eq (.tt (.tt (.nil))))) ?_ ?_ ?_
 refine .t (fun _ w hn k => ⟨_, v_build (ps := []) rfl parts0 (by kernel_rfl), rfl⟩) ?_
 refine .o3 ?_
 exact .off <| .off .nil
 intro i h
 simp only [List.contains_eq_mem, List.mem_cons, List.not_mem_nil, or_false, decide_eq_true_eq] at h
 subst h
 exact eager_take rfl rfl fun _ w hn k => ⟨iv ((textV v).2), fun w => v_move rfl (k.fx 7 ep), rfl⟩
 refine aftI bu dg dh fun ca f3 bv dk dl dm a1 => ?_
 have cb := a1.fx 4 eo
 have cc := a1.ge 0 16 rfl
 have cd := a1.ge 1 17 rfl
 have dn := di.new_ dm
 obtain ⟨es, ce, cf, dp, fn⟩ := s_many (P := Tryz.prog) (t := 29) (i := 0) [iv 0, iv 0, iv 0, .bool false, sv none ([]) 0, sv none ([]) 0, iv 0] Tryz.sizeOf29 rfl rfl rfl dn lb
 have dq : Blk es aI 29 [iv 0, iv 0, iv 0, .bool false, sv none ([]) 0, sv none ([]) 0, iv 0] := cf
 refine st_act rfl rfl fun f4 dr => a_store' rfl cb cc ce (dr _ _ trivial ?_)
 have ds := dl.trans dp (fun _ h b => by subst b; omega)
 refine st_take rfl rfl (y_assign (v := iv ((textV v).2)) rfl cd) rfl ?_
 obtain ⟨et, aj⟩ : ∃ a', a' = ca.put (some 5) (iv ((textV v).2)) := ⟨_, rfl⟩
 have fo := pz aj bv
 have dt := pd aj dk
 have eu := pn aj cb (by decide)
 have f5 := pn aj cc (by decide)
 have f6 := pn aj cd (by decide)
 have ev : et.eval (.tmp 5) = iv ((textV v).2) := by rw [aj]; exact put_same _ _ _ (by rw [bv]; decide)
 show stepsTo _ _ _ _ _ (ca.put (some 5) (iv ((textV v).2))) _
 rw [← aj]
 refine st_nil (dj _ _ ?_)
 refine wp_ret (ret_k dt (v := .tuple #[vv (Vl.mk 0 0 0 false [] [] 0) none 0 none 0, iv ((textV v).2)]) (res_ct rfl eu ev (l_agg Tryz.isAgg29 Tryz.sizeOf29 dq rfl)) ?_)
 have ak : (joinV v u).1.mag = [] := by first | rfl | (simp only [joinV, Vl.z, aa, bsm] <;> rfl) | (exfalso; omega)
 have al : (joinV v u).1.s = [] := by first | rfl | (simp only [joinV, Vl.z, aa, bsm] <;> rfl) | (exfalso; omega)
 exact ⟨none, 0, none, 0, (by show Ending.returned (.tuple #[vv (Vl.mk 0 0 0 false [] [] 0) none 0 none 0, iv ((textV v).2)]) = Ending.returned (.tuple #[vv (joinV v u).1 none 0 none 0, iv ((joinV v u).2)]); (first | rfl | (simp only [joinV, Vl.z, aa, ak, al, bsm] <;> rfl) | (exfalso; omega))), (by rw [ak]; exact (SRow.nil _ _)), (by rw [al]; exact (SRow.nil _ _)), ds⟩
def binT_c_P  (v : Vl) (Av : Option Addr) (cv : Nat) (Bv : Option Addr) (dv : Nat) (u : Vl) (Au : Option Addr) (cu : Nat) (Bu : Option Addr) (du : Nat) (w : World) (en : Ending) (w' : World) : Prop := ∃ (Ar0 : Option Addr) (cr0 : Nat) (Ar1 : Option Addr) (cr1 : Nat), en = .returned (.tuple #[vv (joinV (cleanV v) (cleanV u)).1 Ar0 cr0 Ar1 cr1, iv ((joinV (cleanV v) (cleanV u)).2)]) ∧ SRow w' .u32 Ar0 ((joinV (cleanV v) (cleanV u)).1.mag) cr0 ∧ SRow w' .u16 Ar1 ((joinV (cleanV v) (cleanV u)).1.s) cr1 ∧ New w w'
theorem binT_c  (v : Vl) (Av : Option Addr) (cv : Nat) (Bv : Option Addr) (dv : Nat) (u : Vl) (Au : Option Addr) (cu : Nat) (Bu : Option Addr) (du : Nat) (w : World) (hmv : SRow w .u32 Av v.mag cv) (hsv : SRow w .u16 Bv v.s dv) (hmu : SRow w .u32 Au u.mag cu) (hsu : SRow w .u16 Bu u.s du) (hvv : VOk v) (hvu : VOk u) (hk5 : (cleanV v).k = 5) (HT : ItoaOk w) : Calls Tryz.prog 12 #[.string ⟨#[43]⟩, vv v Av cv Bv dv, vv u Au cu Bu du] w (binT_c_P v Av cv Bv dv u Au cu Bu du w) := by
 refine enter_abs Tryz.func12 rfl fun a0 aQ cX hp => ?_
 have aQ : a0.tmps.size = 120 := aQ
 have aR : New w w := Upd.refl _ _
 have hp0 : a0.eval (.tmp 0) = .string ⟨#[43]⟩ := hp 0 _ rfl
 have hp1 : a0.eval (.tmp 1) = vv v Av cv Bv dv := hp 1 _ rfl
 have hp2 : a0.eval (.tmp 2) = vv u Au cu Bu du := hp 2 _ rfl
 refine wp_seq_k fun K1 cY => ?_
 refine wp_g [true, true, true, true] [] [] 120
   [IsNew w 29 [iv v.k, iv v.nk, iv v.nn, .bool v.neg, sv Av v.mag cv, sv Bv v.s dv, iv v.ref], IsNew w 29 [iv u.k, iv u.nk, iv u.nn, .bool u.neg, sv Au u.mag cu, sv Bu u.s du, iv u.ref], IsNew w 29 [iv 0, iv 0, iv 0, .bool false, sv none ([]) 0, sv none ([]) 0, iv 0], ve (iv 0)]
   [0, 1, 2] (newsCons (fun v w h => IsNew.old h) (newsCons (fun v w h => IsNew.old h) (newsCons (fun v w h => IsNew.old h) newsNil))) aQ (.nw (.nw (.nw (.eq (.nil))))) ?_ (fun i h => by cases h) ?_
 exact .o2 (step_allocN (cs := [iv v.k, iv v.nk, iv v.nn, .bool v.neg, sv Av v.mag cv, sv Bv v.s dv, iv v.ref]) (t := 29) rfl (noG rfl) (fun _ w hn k => v_box rfl (k.fx 1 hp1) (fun w => rfl)) (fun q _ hq hb => ⟨q, rfl, hq, hb⟩)) <| .o2 (step_allocN (cs := [iv u.k, iv u.nk, iv u.nn, .bool u.neg, sv Au u.mag cu, sv Bu u.s du, iv u.ref]) (t := 29) rfl (noG rfl) (fun _ w hn k => v_box rfl (k.fx 2 hp2) (fun w => rfl)) (fun q _ hq hb => ⟨q, rfl, hq, hb⟩)) <| .o2 (step_allocN (cs := [iv 0, iv 0, iv 0, .bool false, sv none ([]) 0, sv none ([]) 0, iv 0]) (t := 29) rfl (noG rfl) (fun _ w hn k => rfl) (fun q _ hq hb => ⟨q, rfl, hq, hb⟩)) <| .t (fun _ w hn k => ⟨_, v_assign rfl rfl, rfl⟩) .nil
 refine aftI aQ cX aR fun a2 w3 b0 cZ an dS ao => ?_
 have h8 := ao.fx 0 hp0
 obtain ⟨aS, h9, b6, a3⟩ : IsNew _ _ _ _ _ := ao.got 0 4 rfl (by kernel_rfl)
 obtain ⟨aT, aU, b7, a4⟩ : IsNew _ _ _ _ _ := ao.got 1 5 rfl (by kernel_rfl)
 obtain ⟨a5, a6, b8, b9⟩ : IsNew _ _ _ _ _ := ao.got 2 6 rfl (by kernel_rfl)
 have hne21 : aS ≠ aT := ao.ne 0 1 4 5 h9 aU
 have hne22 : aS ≠ a5 := ao.ne 0 2 4 6 h9 a6
 have hne23 : aT ≠ a5 := ao.ne 1 2 5 6 aU a6
 have dy := Nat.le_trans aR.size b6
 have dz := Nat.le_trans aR.size b7
 have dA := Nat.le_trans aR.size b8
 refine st_nil (cY _ _ (wp_seq_k fun dT ca => ?_))
 refine wp_g0 [true, true, true, true, false, false] [(4, false), (5, false)] 120
   [ve (vv v Av cv Bv dv),
    (VP (cleanV v)), ve (vv u Au cu Bu du),
    (VP (cleanV u)), vt, vt] b0 (.eq (.cons (fun v W W' hn ⟨A5, c6, A7, c8, he, h0, h1⟩ => ⟨A5, c6, A7, c8, he, h0.new_ hn, h1.new_ hn⟩) (.eq (.cons (fun v W W' hn ⟨c0, c1, c3, c5, he, h0, h1⟩ => ⟨c0, c1, c3, c5, he, h0.new_ hn, h1.new_ hn⟩) (.tt (.tt (.nil))))))) ?_ ?_
 refine .t (fun _ w hn k => ⟨_, v_load rfl (k.fx 4 h9) (l_agg Tryz.isAgg29 Tryz.sizeOf29 (a3.new_ hn) rfl), rfl⟩) ?_
 refine .o1 (tkC rfl (noG rfl) rfl fun _ w hn k => (by
       refine ⟨#[vv v Av cv Bv dv], _, args1 (k.eq1 0 10 rfl), fun w => by kernel_rfl, clean_c v _ _ _ _ _ (hmv.new_ (an.transNew hn)) (hsv.new_ (an.transNew hn)), ?_⟩
       rintro e w' ⟨A1, c2, A3, c4, rfl, hmo0, hmo1, hm⟩
       exact ⟨_, rfl, hm, ⟨A1, c2, A3, c4, rfl, hmo0, hmo1⟩⟩)) ?_
 refine .t (fun _ w hn k => ⟨_, v_load rfl (k.fx 5 aU) (l_agg Tryz.isAgg29 Tryz.sizeOf29 (a4.new_ hn) rfl), rfl⟩) ?_
 refine .o1 (tkC rfl (noG rfl) rfl fun _ w hn k => (by
       refine ⟨#[vv u Au cu Bu du], _, args1 (k.eq1 2 12 rfl), fun w => by kernel_rfl, clean_c u _ _ _ _ _ (hmu.new_ (an.transNew hn)) (hsu.new_ (an.transNew hn)), ?_⟩
       rintro e w' ⟨A9, c7, c9, da, rfl, hmo0, hmo1, hm⟩
       exact ⟨_, rfl, hm, ⟨A9, c7, c9, da, rfl, hmo0, hmo1⟩⟩)) ?_
 exact .off <| .off .nil
 refine aftI b0 cZ an fun b1 dU a7 cb cc aO am => ?_
 have b2 := am.fx 0 h8
 have b3 := am.fx 4 h9
 have b4 := am.fx 5 aU
 have db := am.fx 6 a6
 obtain ⟨aL, ap, aM, aq, a8, cd, ce⟩ : (VP (cleanV v)) _ _ := am.got 1 11 rfl (by kernel_rfl)
 have a8 : b1.eval (.tmp 11) = vv (cleanV v) aL ap aM aq := a8
 obtain ⟨aN, ar, aG, au, a9, cf, ch⟩ : (VP (cleanV u)) _ _ := am.got 3 13 rfl (by kernel_rfl)
 have a9 : b1.eval (.tmp 13) = vv (cleanV u) aN ar aG au := a9
 have av := a3.new_ aO
 have ci := a4.new_ aO
 have cj := b9.new_ aO
 obtain ⟨dc, bk, bl, aw, ba⟩ := s_many (P := Tryz.prog) (t := 29) (i := 0) [iv ((cleanV v).k), iv ((cleanV v).nk), iv ((cleanV v).nn), .bool ((cleanV v).neg), sv aL ((cleanV v).mag) ap, sv aM ((cleanV v).s) aq, iv ((cleanV v).ref)] Tryz.sizeOf29 rfl rfl rfl av lb
 have cl : Blk dc aS 29 [iv ((cleanV v).k), iv ((cleanV v).nk), iv ((cleanV v).nn), .bool ((cleanV v).neg), sv aL ((cleanV v).mag) ap, sv aM ((cleanV v).s) aq, iv ((cleanV v).ref)] := bl
 refine st_act rfl rfl fun dV cm => a_store' rfl b3 a8 bk (cm _ _ trivial ?_)
 have cn := cd.far av aw (by first | rfl | decide | simp [notK])
 have co := ce.far av aw (by first | rfl | decide | simp [notK])
 have cp := cf.far av aw (by first | rfl | decide | simp [notK])
 have cq := ch.far av aw (by first | rfl | decide | simp [notK])
 have ax := ba _ _ _ (fun h => hne21 h.symm) ci
 have cr := ba _ _ _ (fun h => hne22 h.symm) cj
 have ct := cc.trans aw (fun _ h b => by subst b; omega)
 obtain ⟨dd, bm, bn, ay, bb⟩ := s_many (P := Tryz.prog) (t := 29) (i := 0) [iv ((cleanV u).k), iv ((cleanV u).nk), iv ((cleanV u).nn), .bool ((cleanV u).neg), sv aN ((cleanV u).mag) ar, sv aG ((cleanV u).s) au, iv ((cleanV u).ref)] Tryz.sizeOf29 rfl rfl rfl ax lb
 have cw : Blk dd aT 29 [iv ((cleanV u).k), iv ((cleanV u).nk), iv ((cleanV u).nn), .bool ((cleanV u).neg), sv aN ((cleanV u).mag) ar, sv aG ((cleanV u).s) au, iv ((cleanV u).ref)] := bn
 refine st_act rfl rfl fun dW cx => a_store' rfl b4 a9 bm (cx _ _ trivial ?_)
 have cy := cn.far ax ay (by first | rfl | decide | simp [notK])
 have cz := co.far ax ay (by first | rfl | decide | simp [notK])
 have cA := cp.far ax ay (by first | rfl | decide | simp [notK])
 have cB := cq.far ax ay (by first | rfl | decide | simp [notK])
 have cC := bb _ _ _ (hne21) cl
 have cD := bb _ _ _ (fun h => hne23 h.symm) cr
 have cE := ct.trans ay (fun _ h b => by subst b; omega)
 refine st_nil (ca _ _ (wp_seq_k fun dX dB => ?_))
 refine wp_seq_k fun dY cF => ?_
 refine wp_g0 [true] [] 120
   [ve (.string ⟨#[43]⟩)] a7 (.eq (.nil)) ?_ ?_
 exact .m (fun k => k.fx 0 b2) .nil
 refine aftI a7 cb cE fun dZ d0 bd cG bo ai az => ?_
 have de := az.fx 0 b2
 have df := az.fx 4 b3
 have dg := az.fx 5 b4
 have dh := az.fx 6 db
 have b5 := az.ge 0 14 rfl
 have cH := cC.new_ ai
 have cI := cw.new_ ai
 have bp := cD.new_ ai
 have bq := cy.new_ ai
 have br := cz.new_ ai
 have bs := cA.new_ ai
 have bt := cB.new_ ai
 refine st_nil (cF _ _ ?_)
 refine wp_block ?_
 refine wp_seq_k fun dC bu => ?_
 refine wp_g0 [true, true] [] 120
   [vT, vT] bd (.eq (.eq (.nil))) ?_ ?_
 exact .t (fun _ w hn k => ⟨_, v_bin rfl (k.fx 14 b5) rfl (fun _ => rfl) (r_eqlS (r := true) (by kernel_rfl)), rfl⟩) <| .a (fun k => k.eq1 0 16 rfl) .nil
 refine aftI bd cG bo fun dD dE aV bv bw aa ad => ?_
 have cJ := ad.fx 0 de
 have be := ad.fx 4 df
 have bf := ad.fx 5 dg
 have cK := ad.fx 6 dh
 have dF := ad.fx 14 b5
 have cL := ad.ge 1 15 rfl
 have aW := cH.new_ aa
 have aX := cI.new_ aa
 have bx := bp.new_ aa
 have bz := bq.new_ aa
 have bA := br.new_ aa
 have bB := bs.new_ aa
 have bC := bt.new_ aa
 refine st_nil (bu _ _ ?_)
 refine wp_cond_true cL ?_
 refine wp_seq_k fun dG dt => ?_
 refine wp_seq_k fun dH bD => ?_
 refine wp_g0 (.replicate 8 true) [] 120
   [ve (pv aS), ve (iv ((cleanV v).k)), ve (.bool (decide (((cleanV v).k) = 5))), ve (.bool (decide (((cleanV v).k) = 5))), ve (gq (!(decide (((cleanV v).k) = 5))) (pv aT)), ve (gq (!(decide (((cleanV v).k) = 5))) (iv ((cleanV u).k))), ve (gq (!(decide (((cleanV v).k) = 5))) (.bool (decide (((cleanV u).k) = 5)))), ve (.bool ((decide (((cleanV v).k) = 5)) || (decide (((cleanV u).k) = 5))))] aV (.eq (.eq (.eq (.eq (.eq (.eq (.eq (.eq (.nil))))))))) ?_ ?_
 exact .f (fun k => k.fx 4 be) <| .t (fun _ w hn k => ⟨_, v_load rfl (k.eq1 0 17 rfl) (l_one Tryz.isAgg3 ((aW.new_ hn).cell 0)), rfl⟩) <| .t (fun _ w hn k => ⟨_, v_bin rfl (k.eq1 1 18 rfl) rfl (fun _ => rfl) (r_eql rfl), rfl⟩) <| .m (fun k => k.eq1 2 19 rfl) <| .o1 (sc (G := (!(decide (((cleanV v).k) = 5)))) rfl rfl rfl (fun _ _ k => g0' (k.eq1 3 20 rfl)) (fun hG _ w hn k => v_field rfl (k.fx 5 bf) (fun w => rfl))) <| .o1 (sc (G := (!(decide (((cleanV v).k) = 5)))) rfl rfl rfl (fun _ _ k => g0' (k.eq1 3 20 rfl)) (fun hG _ w hn k => v_load rfl (cT hG (k.eq1 4 21 rfl)) (l_one Tryz.isAgg3 ((aX.new_ hn).cell 0)))) <| .o1 (sc (G := (!(decide (((cleanV v).k) = 5)))) rfl rfl rfl (fun _ _ k => g0' (k.eq1 3 20 rfl)) (fun hG _ w hn k => v_bin rfl (cT hG (k.eq1 5 22 rfl)) rfl (fun _ => rfl) (r_eql rfl))) <| .t (fun _ w hn k => ⟨_, v_or rfl (k.eq1 3 20 rfl) rfl (fun hg => (cT (nt hg) (k.eq1 6 23 rfl))), rfl⟩) .nil
 refine aftI aV bv bw fun dI dJ aY bE aZ ab aj => ?_
 have dK := aj.fx 0 cJ
 have cM := aj.fx 4 be
 have cN := aj.fx 5 bf
 have cO := aj.fx 6 cK
 have cP := aj.ge 7 24 rfl
 have bF := aW.new_ ab
 have bG := aX.new_ ab
 have bH := bx.new_ ab
 have bI := bz.new_ ab
 have bJ := bA.new_ ab
 have bK := bB.new_ ab
 have bL := bC.new_ ab
 refine st_nil (bD _ _ ?_)
 have bM : (((decide (((cleanV v).k) = 5)) || (decide (((cleanV u).k) = 5)))) = true := (by rw [show ((decide (((cleanV v).k) = 5))) = true from decide_eq_true (hk5)]; rfl)
 have bN := hB cP bM
 refine wp_cond_true bN ?_
 refine wp_seq_k fun dL bO => ?_
 refine wp_g0 [true, true, true, true, true, false, false] [(5, false), (6, true)] 120
   [ve (vv (cleanV v) aL ap aM aq), ve (vv (cleanV u) aN ar aG au), (fun (v_ : Value) (W : World) => ∃ (ae : Option Addr) (af : Nat) (ag : Option Addr) (ah : Nat), v_ = .tuple #[vv (joinV (cleanV v) (cleanV u)).1 ae af ag ah, iv ((joinV (cleanV v) (cleanV u)).2)] ∧ SRow W .u32 ae ((joinV (cleanV v) (cleanV u)).1.mag) af ∧ SRow W .u16 ag ((joinV (cleanV v) (cleanV u)).1.s) ah), (fun (v_ : Value) (W : World) => ∃ (aA : Option Addr) (aB : Nat) (aC : Option Addr) (aD : Nat), v_ = vv (joinV (cleanV v) (cleanV u)).1 aA aB aC aD ∧ SRow W .u32 aA ((joinV (cleanV v) (cleanV u)).1.mag) aB ∧ SRow W .u16 aC ((joinV (cleanV v) (cleanV u)).1.s) aD), ve (iv ((joinV (cleanV v) (cleanV u)).2)), vt, vt] aY (.eq (.eq (.cons (fun v W W' hn ⟨ae, af, ag, ah, he, h0, h1⟩ => ⟨ae, af, ag, ah, he, h0.new_ hn, h1.new_ hn⟩) (.cons (fun v W W' hn ⟨aA, aB, aC, aD, he, h0, h1⟩ => ⟨aA, aB, aC, aD, he, h0.new_ hn, h1.new_ hn⟩) (.eq (.tt (.tt (.nil)))))))) ?_ ?_
 refine .t (fun _ w hn k => ⟨_, v_load rfl (k.fx 4 cM) (l_agg Tryz.isAgg29 Tryz.sizeOf29 (bF.new_ hn) rfl), rfl⟩) <| .t (fun _ w hn k => ⟨_, v_load rfl (k.fx 5 cN) (l_agg Tryz.isAgg29 Tryz.sizeOf29 (bG.new_ hn) rfl), rfl⟩) ?_
 refine .o1 (tkC rfl (noG rfl) rfl fun _ w hn k => (by
       refine ⟨#[vv (cleanV v) aL ap aM aq, vv (cleanV u) aN ar aG au], _, args2 (k.eq1 0 25 rfl) (k.eq1 1 26 rfl), fun w => by kernel_rfl, join_c (cleanV v) _ _ _ _ (cleanV u) _ _ _ _ _ (bI.new_ hn) (bJ.new_ hn) (bK.new_ hn) (bL.new_ hn) hvv.clean hvu.clean (HT.up (aZ.transNew hn)), ?_⟩
       rintro e w' ⟨di, dj, dk, dl, rfl, hmo0, hmo1, hm⟩
       exact ⟨_, rfl, hm, ⟨di, dj, dk, dl, rfl, hmo0, hmo1⟩⟩)) ?_
 refine .o1 (tk rfl rfl fun _ w hn k => (by
       obtain ⟨dm, dn, dp, dq, dr, cQ, cR⟩ : (fun (v_ : Value) (W : World) => ∃ (ae : Option Addr) (af : Nat) (ag : Option Addr) (ah : Nat), v_ = .tuple #[vv (joinV (cleanV v) (cleanV u)).1 ae af ag ah, iv ((joinV (cleanV v) (cleanV u)).2)] ∧ SRow W .u32 ae ((joinV (cleanV v) (cleanV u)).1.mag) af ∧ SRow W .u16 ag ((joinV (cleanV v) (cleanV u)).1.s) ah) _ _ := k.dep 2 27 (by kernel_rfl) (by kernel_rfl)
       exact ⟨_, v_extract rfl dr rfl, ⟨dm, dn, dp, dq, rfl, cQ, cR⟩⟩)) ?_
 refine .o1 (tk rfl rfl fun _ w hn k => (by
       obtain ⟨aG, d1, d2, d3, ds, dM, dN⟩ : (fun (v_ : Value) (W : World) => ∃ (ae : Option Addr) (af : Nat) (ag : Option Addr) (ah : Nat), v_ = .tuple #[vv (joinV (cleanV v) (cleanV u)).1 ae af ag ah, iv ((joinV (cleanV v) (cleanV u)).2)] ∧ SRow W .u32 ae ((joinV (cleanV v) (cleanV u)).1.mag) af ∧ SRow W .u16 ag ((joinV (cleanV v) (cleanV u)).1.s) ah) _ _ := k.dep 2 27 (by kernel_rfl) (by kernel_rfl)
       exact ⟨_, v_extract rfl ds rfl, rfl⟩)) ?_
 exact .off <| .off .nil
 refine aftI aY bE aZ fun aP dO a1 bP bQ bR aH => ?_
 have bg := aH.fx 6 cO
 obtain ⟨aE, ak, aF, al, aI, bS, bT⟩ : (fun (v_ : Value) (W : World) => ∃ (aA : Option Addr) (aB : Nat) (aC : Option Addr) (aD : Nat), v_ = vv (joinV (cleanV v) (cleanV u)).1 aA aB aC aD ∧ SRow W .u32 aA ((joinV (cleanV v) (cleanV u)).1.mag) aB ∧ SRow W .u16 aC ((joinV (cleanV v) (cleanV u)).1.s) aD) _ _ := aH.got 3 28 rfl (by kernel_rfl)
 have aI : aP.eval (.tmp 28) = vv (joinV (cleanV v) (cleanV u)).1 aE ak aF al := aI
 have bh := aH.ge 4 29 rfl
 have aJ := bH.new_ bR
 obtain ⟨cS, bi, bj, aK, dw⟩ := s_many (P := Tryz.prog) (t := 29) (i := 0) [iv ((joinV (cleanV v) (cleanV u)).1.k), iv ((joinV (cleanV v) (cleanV u)).1.nk), iv ((joinV (cleanV v) (cleanV u)).1.nn), .bool ((joinV (cleanV v) (cleanV u)).1.neg), sv aE ((joinV (cleanV v) (cleanV u)).1.mag) ak, sv aF ((joinV (cleanV v) (cleanV u)).1.s) al, iv ((joinV (cleanV v) (cleanV u)).1.ref)] Tryz.sizeOf29 rfl rfl rfl aJ lb
 have bU : Blk cS a5 29 [iv ((joinV (cleanV v) (cleanV u)).1.k), iv ((joinV (cleanV v) (cleanV u)).1.nk), iv ((joinV (cleanV v) (cleanV u)).1.nn), .bool ((joinV (cleanV v) (cleanV u)).1.neg), sv aE ((joinV (cleanV v) (cleanV u)).1.mag) ak, sv aF ((joinV (cleanV v) (cleanV u)).1.s) al, iv ((joinV (cleanV v) (cleanV u)).1.ref)] := bj
 refine st_act rfl rfl fun dP bV => a_store' rfl bg aI bi (bV _ _ trivial ?_)
 have bW := bS.far aJ aK (by first | rfl | decide | simp [notK])
 have bX := bT.far aJ aK (by first | rfl | decide | simp [notK])
 have bY := bQ.trans aK (fun _ h b => by subst b; omega)
 refine st_take rfl rfl (y_assign (v := iv ((joinV (cleanV v) (cleanV u)).2)) rfl bh) rfl ?_
 obtain ⟨cU, ac⟩ : ∃ a', a' = aP.put (some 7) (iv ((joinV (cleanV v) (cleanV u)).2)) := ⟨_, rfl⟩
 have dx := pz ac a1
 have bZ := pd ac bP
 have cV := pn ac bg (by decide)
 have dQ := pn ac aI (by decide)
 have dR := pn ac bh (by decide)
 have cW : cU.eval (.tmp 7) = iv ((joinV (cleanV v) (cleanV u)).2) := by rw [ac]; exact put_same _ _ _ (by rw [a1]; decide)
 show stepsTo _ _ _ _ _ (aP.put (some 7) (iv ((joinV (cleanV v) (cleanV u)).2))) _
 rw [← ac]
 refine st_nil (bO _ _ ?_)
 refine wp_ret (ret_k bZ (v := .tuple #[vv (joinV (cleanV v) (cleanV u)).1 aE ak aF al, iv ((joinV (cleanV v) (cleanV u)).2)]) (res_ct rfl cV cW (l_agg Tryz.isAgg29 Tryz.sizeOf29 bU rfl)) ?_)
 exact ⟨aE, ak, aF, al, rfl, bW, bX, bY⟩
def truthR (t : Bool) : Int := if t then 1 else 0
def besideO (b : Bool) (m : List Nat) (a : Nm) : Int × Bool := if decide (a.k = 2) then (0, false) else if decide (a.k = 3) then (-1, true) else if decide (a.k = 4) then (1, true) else (cmpZ (goodI b m) a.n, true)
theorem sumsM_c  (v : Vl) (Av : Option Addr) (cv : Nat) (Bv : Option Addr) (dv : Nat) (u : Vl) (Au : Option Addr) (cu : Nat) (Bu : Option Addr) (du : Nat) (w : World) (hmv : SRow w .u32 Av v.mag cv) (hsv : SRow w .u16 Bv v.s dv) (hmu : SRow w .u32 Au u.mag cu) (hsu : SRow w .u16 Bu u.s du) (hvv : VOk v) (hvu : VOk u) (hns : (numericsV v u).2.2 ≠ 0) : Calls Tryz.prog 36 #[.string ⟨#[43]⟩, vv v Av cv Bv dv, vv u Au cu Bu du] w (IsRet (.tuple #[vv (Vl.mk 0 0 0 false [] [] 0) none 0 none 0, iv ((numericsV v u).2.2)]) w) := by
 refine enter_abs Tryz.func36 rfl fun a0 aS cF hp => ?_
 have aS : a0.tmps.size = 92 := aS
 have aT : New w w := Upd.refl _ _
 have hp0 : a0.eval (.tmp 0) = .string ⟨#[43]⟩ := hp 0 _ rfl
 have hp1 : a0.eval (.tmp 1) = vv v Av cv Bv dv := hp 1 _ rfl
 have hp2 : a0.eval (.tmp 2) = vv u Au cu Bu du := hp 2 _ rfl
 refine wp_seq_k fun K1 cG => ?_
 refine wp_g [true, true, true, true] [] [] 92
   [IsNew w 29 [iv v.k, iv v.nk, iv v.nn, .bool v.neg, sv Av v.mag cv, sv Bv v.s dv, iv v.ref], IsNew w 29 [iv u.k, iv u.nk, iv u.nn, .bool u.neg, sv Au u.mag cu, sv Bu u.s du, iv u.ref], IsNew w 29 [iv 0, iv 0, iv 0, .bool false, sv none ([]) 0, sv none ([]) 0, iv 0], ve (iv 0)]
   [0, 1, 2] (newsCons (fun v w h => IsNew.old h) (newsCons (fun v w h => IsNew.old h) (newsCons (fun v w h => IsNew.old h) newsNil))) aS (.nw (.nw (.nw (.eq (.nil))))) ?_ (fun i h => by cases h) ?_
 exact .o2 (step_allocN (cs := [iv v.k, iv v.nk, iv v.nn, .bool v.neg, sv Av v.mag cv, sv Bv v.s dv, iv v.ref]) (t := 29) rfl (noG rfl) (fun _ w hn k => v_box rfl (k.fx 1 hp1) (fun w => rfl)) (fun q _ hq hb => ⟨q, rfl, hq, hb⟩)) <| .o2 (step_allocN (cs := [iv u.k, iv u.nk, iv u.nn, .bool u.neg, sv Au u.mag cu, sv Bu u.s du, iv u.ref]) (t := 29) rfl (noG rfl) (fun _ w hn k => v_box rfl (k.fx 2 hp2) (fun w => rfl)) (fun q _ hq hb => ⟨q, rfl, hq, hb⟩)) <| .o2 (step_allocN (cs := [iv 0, iv 0, iv 0, .bool false, sv none ([]) 0, sv none ([]) 0, iv 0]) (t := 29) rfl (noG rfl) (fun _ w hn k => rfl) (fun q _ hq hb => ⟨q, rfl, hq, hb⟩)) <| .t (fun _ w hn k => ⟨_, v_assign rfl rfl, rfl⟩) .nil
 refine aftI aS cF aT fun a2 w3 bK cH an dT aJ => ?_
 have h8 := aJ.fx 0 hp0
 obtain ⟨cI, h9, bN, bO⟩ : IsNew _ _ _ _ _ := aJ.got 0 4 rfl (by kernel_rfl)
 obtain ⟨cJ, bL, bP, bQ⟩ : IsNew _ _ _ _ _ := aJ.got 1 5 rfl (by kernel_rfl)
 obtain ⟨aL, a3, bR, aN⟩ : IsNew _ _ _ _ _ := aJ.got 2 6 rfl (by kernel_rfl)
 have hne21 : cI ≠ aL := aJ.ne 0 2 4 6 h9 a3
 have hne22 : cJ ≠ aL := aJ.ne 1 2 5 6 bL a3
 have dp := Nat.le_trans aT.size bN
 have dq := Nat.le_trans aT.size bP
 have dr := Nat.le_trans aT.size bR
 refine st_nil (cG _ _ (wp_seq_k fun dU bS => ?_))
 refine wp_gS (fun W => True) (fun W W' hn h => trivial) trivial [true, true, true, true, true, true, true, true, true, false, false, false] [5, 6] [(9, false), (10, false), (11, true)] 92
   [ve (vv v Av cv Bv dv), ve (vv u Au cu Bu du), (fun (v_ : Value) (W : World) => ∃ (A9 : Option Addr) (ao : Nat) (ap : Option Addr) (aq : Nat) (ar : Option Addr) (au : Nat) (av : Option Addr) (aw : Nat), v_ = .tuple #[vv (numericsV v u).1 A9 ao ap aq, vv (numericsV v u).2.1 ar au av aw, iv ((numericsV v u).2.2)] ∧ SRow W .u32 A9 ((numericsV v u).1.mag) ao ∧ SRow W .u16 ap ((numericsV v u).1.s) aq ∧ SRow W .u32 ar ((numericsV v u).2.1.mag) au ∧ SRow W .u16 av ((numericsV v u).2.1.s) aw), (fun (v_ : Value) (W : World) => ∃ (ab : Option Addr) (ac : Nat) (ad : Option Addr) (ae : Nat) (af : Option Addr) (ag : Nat) (ah : Option Addr) (ai : Nat), v_ = .tuple #[vv (numericsV v u).1 ab ac ad ae, vv (numericsV v u).2.1 af ag ah ai, iv ((numericsV v u).2.2)] ∧ SRow W .u32 ab ((numericsV v u).1.mag) ac ∧ SRow W .u16 ad ((numericsV v u).1.s) ae ∧ SRow W .u32 af ((numericsV v u).2.1.mag) ag ∧ SRow W .u16 ah ((numericsV v u).2.1.s) ai), (fun (v_ : Value) (W : World) => ∃ (ax : Option Addr) (ay : Nat) (az : Option Addr) (aA : Nat), v_ = vv (numericsV v u).1 ax ay az aA ∧ SRow W .u32 ax ((numericsV v u).1.mag) ay ∧ SRow W .u16 az ((numericsV v u).1.s) aA), (fun (v_ : Value) (W : World) => ∃ (aB : Option Addr) (aC : Nat) (aD : Option Addr) (aE : Nat), v_ = vv (numericsV v u).2.1 aB aC aD aE ∧ SRow W .u32 aB ((numericsV v u).2.1.mag) aC ∧ SRow W .u16 aD ((numericsV v u).2.1.s) aE), ve (iv ((numericsV v u).2.2)), IsNew w3 29 [iv 0, iv 0, iv 0, .bool false, sv none ([]) 0, sv none ([]) 0, iv 0], IsNew w3 29 [iv 0, iv 0, iv 0, .bool false, sv none ([]) 0, sv none ([]) 0, iv 0], vt, vt, vt]
   [7, 8] (newsCons (fun v w h => IsNew.old h) (newsCons (fun v w h => IsNew.old h) newsNil)) bK (.eq (.eq (.cons (fun v W W' hn ⟨A9, ao, ap, aq, ar, au, av, aw, he, h0, h1, h2, h3⟩ => ⟨A9, ao, ap, aq, ar, au, av, aw, he, h0.new_ hn, h1.new_ hn, h2.new_ hn, h3.new_ hn⟩) (.cons (fun v W W' hn ⟨ab, ac, ad, ae, af, ag, ah, ai, he, h0, h1, h2, h3⟩ => ⟨ab, ac, ad, ae, af, ag, ah, ai, he, h0.new_ hn, h1.new_ hn, h2.new_ hn, h3.new_ hn⟩) (.cons (fun v W W' hn ⟨ax, ay, az, aA, he, h0, h1⟩ => ⟨ax, ay, az, aA, he, h0.new_ hn, h1.new_ hn⟩) (.cons (fun v W W' hn ⟨aB, aC, aD, aE, he, h0, h1⟩ => ⟨aB, aC, aD, aE, he, h0.new_ hn, h1.new_ hn⟩) (.eq (.nw (.nw (.tt (.tt (.tt (.nil))))))))))))) ?_ ?_ ?_
 refine .t (fun _ w hn k => ⟨_, v_load rfl (k.fx 4 h9) (l_agg Tryz.isAgg29 Tryz.sizeOf29 (bO.new_ hn) rfl), rfl⟩) <| .t (fun _ w hn k => ⟨_, v_load rfl (k.fx 5 bL) (l_agg Tryz.isAgg29 Tryz.sizeOf29 (bQ.new_ hn) rfl), rfl⟩) ?_
 refine .o1 (tkC rfl (noG rfl) rfl fun _ w hn k => (by
       refine ⟨#[vv v Av cv Bv dv, vv u Au cu Bu du], _, args2 (k.eq1 0 12 rfl) (k.eq1 1 13 rfl), fun w => by kernel_rfl, numerics_c v _ _ _ _ u _ _ _ _ _ (hmv.new_ (an.transNew hn)) (hsv.new_ (an.transNew hn)) (hmu.new_ (an.transNew hn)) (hsu.new_ (an.transNew hn)) hvv hvu, ?_⟩
       rintro e w' ⟨A1, c2, A3, c4, A5, c6, A7, c8, rfl, hmo0, hmo1, hmo2, hmo3, hm⟩
       exact ⟨_, rfl, hm, ⟨A1, c2, A3, c4, A5, c6, A7, c8, rfl, hmo0, hmo1, hmo2, hmo3⟩⟩)) ?_
 refine .o1 (tk rfl rfl fun _ w hn k => (by
       obtain ⟨cK, cL, cM, cN, cO, cP, cQ, cR, cS, bT, bU, bV, bW⟩ : (fun (v_ : Value) (W : World) => ∃ (A9 : Option Addr) (ao : Nat) (ap : Option Addr) (aq : Nat) (ar : Option Addr) (au : Nat) (av : Option Addr) (aw : Nat), v_ = .tuple #[vv (numericsV v u).1 A9 ao ap aq, vv (numericsV v u).2.1 ar au av aw, iv ((numericsV v u).2.2)] ∧ SRow W .u32 A9 ((numericsV v u).1.mag) ao ∧ SRow W .u16 ap ((numericsV v u).1.s) aq ∧ SRow W .u32 ar ((numericsV v u).2.1.mag) au ∧ SRow W .u16 av ((numericsV v u).2.1.s) aw) _ _ := k.dep 2 14 (by kernel_rfl) (by kernel_rfl)
       exact ⟨_, v_move rfl cS, ⟨cK, cL, cM, cN, cO, cP, cQ, cR, rfl, bT, bU, bV, bW⟩⟩)) ?_
 refine .o1 (tk rfl rfl fun _ w hn k => (by
       obtain ⟨cT, cU, aM, cV, dV, dW, aU, dX, cW, bX, bY, ds, dt⟩ : (fun (v_ : Value) (W : World) => ∃ (ab : Option Addr) (ac : Nat) (ad : Option Addr) (ae : Nat) (af : Option Addr) (ag : Nat) (ah : Option Addr) (ai : Nat), v_ = .tuple #[vv (numericsV v u).1 ab ac ad ae, vv (numericsV v u).2.1 af ag ah ai, iv ((numericsV v u).2.2)] ∧ SRow W .u32 ab ((numericsV v u).1.mag) ac ∧ SRow W .u16 ad ((numericsV v u).1.s) ae ∧ SRow W .u32 af ((numericsV v u).2.1.mag) ag ∧ SRow W .u16 ah ((numericsV v u).2.1.s) ai) _ _ := k.dep 3 11 (by kernel_rfl) (by kernel_rfl)
       exact ⟨_, v_extract rfl cW rfl, ⟨cT, cU, aM, cV, rfl, bX, bY⟩⟩)) ?_
 refine .o3 ?_
 refine .o3 ?_
 exact .o2 (step_allocN (cs := [iv 0, iv 0, iv 0, .bool false, sv none ([]) 0, sv none ([]) 0, iv 0]) (t := 29) rfl (noG rfl) (fun _ w hn k => rfl) (fun q _ hq hb => ⟨q, rfl, hq, hb⟩)) <| .o2 (step_allocN (cs := [iv 0, iv 0, iv 0, .bool false, sv none ([]) 0, sv none ([]) 0, iv 0]) (t := 29) rfl (noG rfl) (fun _ w hn k => rfl) (fun q _ hq hb => ⟨q, rfl, hq, hb⟩)) <| .off <| .off <| .off .nil
 intro i h
 simp only [List.contains_eq_mem, List.mem_cons, List.not_mem_nil, or_false, decide_eq_true_eq] at h
 rcases h with rfl | rfl
 exact eager_takeG rfl (noG rfl) fun _ w hn k => (by
     obtain ⟨dY, dZ, d0, d1, cX, cY, cZ, c0, c1, dw, dx, bZ, b0⟩ : (fun (v_ : Value) (W : World) => ∃ (ab : Option Addr) (ac : Nat) (ad : Option Addr) (ae : Nat) (af : Option Addr) (ag : Nat) (ah : Option Addr) (ai : Nat), v_ = .tuple #[vv (numericsV v u).1 ab ac ad ae, vv (numericsV v u).2.1 af ag ah ai, iv ((numericsV v u).2.2)] ∧ SRow W .u32 ab ((numericsV v u).1.mag) ac ∧ SRow W .u16 ad ((numericsV v u).1.s) ae ∧ SRow W .u32 af ((numericsV v u).2.1.mag) ag ∧ SRow W .u16 ah ((numericsV v u).2.1.s) ai) _ _ := k.dep 3 11 (by kernel_rfl) (by kernel_rfl)
     exact ⟨_, fun w hS => v_extract rfl c1 rfl, ⟨cX, cY, cZ, c0, rfl, bZ, b0⟩⟩)
 exact eager_takeG rfl (noG rfl) fun _ w hn k => (by
     obtain ⟨d2, d3, d4, d5, d6, d7, d8, d9, c3, dy, dz, dA, dB⟩ : (fun (v_ : Value) (W : World) => ∃ (ab : Option Addr) (ac : Nat) (ad : Option Addr) (ae : Nat) (af : Option Addr) (ag : Nat) (ah : Option Addr) (ai : Nat), v_ = .tuple #[vv (numericsV v u).1 ab ac ad ae, vv (numericsV v u).2.1 af ag ah ai, iv ((numericsV v u).2.2)] ∧ SRow W .u32 ab ((numericsV v u).1.mag) ac ∧ SRow W .u16 ad ((numericsV v u).1.s) ae ∧ SRow W .u32 af ((numericsV v u).2.1.mag) ag ∧ SRow W .u16 ah ((numericsV v u).2.1.s) ai) _ _ := k.dep 3 11 (by kernel_rfl) (by kernel_rfl)
     exact ⟨_, fun w hS => v_extract rfl c3 rfl, rfl⟩)
 intro aV ea _ a4 aj
 obtain ⟨a5, b1, b2⟩ := aft aj bK cH an a4
 have c5 := aj.fx 0 h8
 have c7 := aj.fx 6 a3
 obtain ⟨a6, aO, aM, aP, aW, b3, b4⟩ : (fun (v_ : Value) (W : World) => ∃ (ax : Option Addr) (ay : Nat) (az : Option Addr) (aA : Nat), v_ = vv (numericsV v u).1 ax ay az aA ∧ SRow W .u32 ax ((numericsV v u).1.mag) ay ∧ SRow W .u16 az ((numericsV v u).1.s) aA) _ _ := aj.got 4 15 rfl (by kernel_rfl)
 have aW : aV.eval (.tmp 15) = vv (numericsV v u).1 a6 aO aM aP := aW
 obtain ⟨aU, aQ, a7, aR, aX, b5, b6⟩ : (fun (v_ : Value) (W : World) => ∃ (aB : Option Addr) (aC : Nat) (aD : Option Addr) (aE : Nat), v_ = vv (numericsV v u).2.1 aB aC aD aE ∧ SRow W .u32 aB ((numericsV v u).2.1.mag) aC ∧ SRow W .u16 aD ((numericsV v u).2.1.s) aE) _ _ := aj.got 5 16 rfl (by kernel_rfl)
 have aX : aV.eval (.tmp 16) = vv (numericsV v u).2.1 aU aQ a7 aR := aX
 have bM := aj.ge 6 17 rfl
 obtain ⟨a8, a9, ba, aF⟩ : IsNew _ _ _ _ _ := aj.got 7 8 rfl (by kernel_rfl)
 obtain ⟨bb, bd, be, b7⟩ : IsNew _ _ _ _ _ := aj.got 8 9 rfl (by kernel_rfl)
 have b8 := aN.new_ a4
 have hne60 : a8 ≠ bb := aj.ne 7 8 8 9 a9 bd
 have hne61 : aL ≠ a8 := by have h1 := aN.lt; have h2 := ba; omega
 have hne62 : aL ≠ bb := by have h1 := aN.lt; have h2 := be; omega
 have dC := Nat.le_trans an.size ba
 have dD := Nat.le_trans an.size be
 obtain ⟨c9, bp, bq, aG, bf⟩ := s_many (P := Tryz.prog) (t := 29) (i := 0) [iv ((numericsV v u).1.k), iv ((numericsV v u).1.nk), iv ((numericsV v u).1.nn), .bool ((numericsV v u).1.neg), sv a6 ((numericsV v u).1.mag) aO, sv aM ((numericsV v u).1.s) aP, iv ((numericsV v u).1.ref)] Tryz.sizeOf29 rfl rfl rfl aF lb
 have b9 : Blk c9 a8 29 [iv ((numericsV v u).1.k), iv ((numericsV v u).1.nk), iv ((numericsV v u).1.nn), .bool ((numericsV v u).1.neg), sv a6 ((numericsV v u).1.mag) aO, sv aM ((numericsV v u).1.s) aP, iv ((numericsV v u).1.ref)] := bq
 refine st_act rfl rfl fun eb ca => a_store' rfl a9 aW bp (ca _ _ trivial ?_)
 have cb := b3.far aF aG (by first | rfl | decide | simp [notK])
 have cc := b4.far aF aG (by first | rfl | decide | simp [notK])
 have cd := b5.far aF aG (by first | rfl | decide | simp [notK])
 have ce := b6.far aF aG (by first | rfl | decide | simp [notK])
 have cf := bf _ _ _ (hne61) b8
 have aH := bf _ _ _ (fun h => hne60 h.symm) b7
 have ch := b2.trans aG (fun _ h b => by subst b; omega)
 obtain ⟨da, br, bs, aI, bg⟩ := s_many (P := Tryz.prog) (t := 29) (i := 0) [iv ((numericsV v u).2.1.k), iv ((numericsV v u).2.1.nk), iv ((numericsV v u).2.1.nn), .bool ((numericsV v u).2.1.neg), sv aU ((numericsV v u).2.1.mag) aQ, sv a7 ((numericsV v u).2.1.s) aR, iv ((numericsV v u).2.1.ref)] Tryz.sizeOf29 rfl rfl rfl aH lb
 have ci : Blk da bb 29 [iv ((numericsV v u).2.1.k), iv ((numericsV v u).2.1.nk), iv ((numericsV v u).2.1.nn), .bool ((numericsV v u).2.1.neg), sv aU ((numericsV v u).2.1.mag) aQ, sv a7 ((numericsV v u).2.1.s) aR, iv ((numericsV v u).2.1.ref)] := bs
 refine st_act rfl rfl fun ec cj => a_store' rfl bd aX br (cj _ _ trivial ?_)
 have cl := cb.far aH aI (by first | rfl | decide | simp [notK])
 have cm := cc.far aH aI (by first | rfl | decide | simp [notK])
 have cn := cd.far aH aI (by first | rfl | decide | simp [notK])
 have co := ce.far aH aI (by first | rfl | decide | simp [notK])
 have cp := bg _ _ _ (hne62) cf
 have cq := bg _ _ _ (hne60) b9
 have cr := ch.trans aI (fun _ h b => by subst b; omega)
 refine st_take rfl rfl (y_assign (v := iv ((numericsV v u).2.2)) rfl bM) rfl ?_
 obtain ⟨db, aa⟩ : ∃ a', a' = aV.put (some 10) (iv ((numericsV v u).2.2)) := ⟨_, rfl⟩
 have bh := pz aa a5
 have ct := pd aa b1
 have dc := pn aa c5 (by decide)
 have dd := pn aa c7 (by decide)
 have dE := pn aa aW (by decide)
 have dF := pn aa aX (by decide)
 have dG := pn aa bM (by decide)
 have cw := pn aa a9 (by decide)
 have cx := pn aa bd (by decide)
 have bi : db.eval (.tmp 10) = iv ((numericsV v u).2.2) := by rw [aa]; exact put_same _ _ _ (by rw [a5]; decide)
 show stepsTo _ _ _ _ _ (aV.put (some 10) (iv ((numericsV v u).2.2))) _
 rw [← aa]
 refine st_nil (bS _ _ (wp_seq_k fun dH df => ?_))
 refine wp_block ?_
 refine wp_seq_k fun dI bt => ?_
 refine wp_g0 [true, true, true] [] 92
   [ve (iv ((numericsV v u).2.2)), ve (.bool (!decide (((numericsV v u).2.2) = 0))), ve (.bool (!decide (((numericsV v u).2.2) = 0)))] bh (.eq (.eq (.eq (.nil)))) ?_ ?_
 exact .m (fun k => k.fx 10 bi) <| .t (fun _ w hn k => ⟨_, v_bin rfl (k.eq1 0 19 rfl) rfl (fun _ => rfl) (r_neq rfl), rfl⟩) <| .a (fun k => k.eq1 1 20 rfl) .nil
 refine aftI bh ct cr fun dJ dK aY bu bv ak am => ?_
 have dL := am.fx 0 dc
 have cy := am.fx 6 dd
 have dM := am.fx 8 cw
 have dN := am.fx 9 cx
 have cz := am.fx 10 bi
 have cA := am.ge 2 18 rfl
 have bw := cp.new_ ak
 have dg := cq.new_ ak
 have dh := ci.new_ ak
 have di := cl.new_ ak
 have dj := cm.new_ ak
 have dk := cn.new_ ak
 have dl := co.new_ ak
 refine st_nil (bt _ _ ?_)
 have aZ : ((!decide (((numericsV v u).2.2) = 0))) = true := (nt (decide_eq_false (hns)))
 have bx := hB cA aZ
 have bz : (decide (((numericsV v u).2.2) = 0)) = false := nF aZ
 have de := oF bz
 refine wp_cond_true bx ?_
 refine wp_seq_k fun dO bA => ?_
 refine wp_g [true, true, false, false] [1] [(2, false), (3, true)] 92
   [ve (vv (Vl.mk 0 0 0 false [] [] 0) none 0 none 0), ve (iv ((numericsV v u).2.2)), vt, vt]
   [] newsNil aY (.eq (.eq (.tt (.tt (.nil))))) ?_ ?_ ?_
 refine .t (fun _ w hn k => ⟨_, v_build (ps := []) rfl parts0 (by kernel_rfl), rfl⟩) ?_
 refine .o3 ?_
 exact .off <| .off .nil
 intro i h
 simp only [List.contains_eq_mem, List.mem_cons, List.not_mem_nil, or_false, decide_eq_true_eq] at h
 subst h
 exact eager_take rfl rfl fun _ w hn k => ⟨iv ((numericsV v u).2.2), fun w => v_move rfl (k.fx 10 cz), rfl⟩
 refine aftI aY bu bv fun bj dP a1 bB bC bD aK => ?_
 have bk := aK.fx 6 cy
 have bl := aK.ge 0 21 rfl
 have bm := aK.ge 1 22 rfl
 have bE := bw.new_ bD
 obtain ⟨cB, bn, bo, bF, dm⟩ := s_many (P := Tryz.prog) (t := 29) (i := 0) [iv 0, iv 0, iv 0, .bool false, sv none ([]) 0, sv none ([]) 0, iv 0] Tryz.sizeOf29 rfl rfl rfl bE lb
 have bG : Blk cB aL 29 [iv 0, iv 0, iv 0, .bool false, sv none ([]) 0, sv none ([]) 0, iv 0] := bo
 refine st_act rfl rfl fun dQ bH => a_store' rfl bk bl bn (bH _ _ trivial ?_)
 have bI := bC.trans bF (fun _ h b => by subst b; omega)
 refine st_take rfl rfl (y_assign (v := iv ((numericsV v u).2.2)) rfl bm) rfl ?_
 obtain ⟨cC, al⟩ : ∃ a', a' = bj.put (some 7) (iv ((numericsV v u).2.2)) := ⟨_, rfl⟩
 have dn := pz al a1
 have bJ := pd al bB
 have cD := pn al bk (by decide)
 have dR := pn al bl (by decide)
 have dS := pn al bm (by decide)
 have cE : cC.eval (.tmp 7) = iv ((numericsV v u).2.2) := by rw [al]; exact put_same _ _ _ (by rw [a1]; decide)
 show stepsTo _ _ _ _ _ (bj.put (some 7) (iv ((numericsV v u).2.2))) _
 rw [← al]
 refine st_nil (bA _ _ ?_)
 refine wp_ret (ret_k bJ (v := .tuple #[vv (Vl.mk 0 0 0 false [] [] 0) none 0 none 0, iv ((numericsV v u).2.2)]) (res_ct rfl cD cE (l_agg Tryz.isAgg29 Tryz.sizeOf29 bG rfl)) ?_)
 exact ⟨rfl, bI⟩
theorem binM_c  (v : Vl) (Av : Option Addr) (cv : Nat) (Bv : Option Addr) (dv : Nat) (u : Vl) (Au : Option Addr) (cu : Nat) (Bu : Option Addr) (du : Nat) (w : World) (hmv : SRow w .u32 Av v.mag cv) (hsv : SRow w .u16 Bv v.s dv) (hmu : SRow w .u32 Au u.mag cu) (hsu : SRow w .u16 Bu u.s du) (hvv : VOk v) (hvu : VOk u) (hk1 : (cleanV v).k ≠ 5) (hk2 : (cleanV u).k ≠ 5) (hns : (numericsV (cleanV v) (cleanV u)).2.2 ≠ 0) : Calls Tryz.prog 12 #[.string ⟨#[43]⟩, vv v Av cv Bv dv, vv u Au cu Bu du] w (IsRet (.tuple #[vv (Vl.mk 0 0 0 false [] [] 0) none 0 none 0, iv ((numericsV (cleanV v) (cleanV u)).2.2)]) w) := by
 refine enter_abs Tryz.func12 rfl fun a0 aB cI hp => ?_
 have aB : a0.tmps.size = 120 := aB
 have aC : New w w := Upd.refl _ _
 have hp0 : a0.eval (.tmp 0) = .string ⟨#[43]⟩ := hp 0 _ rfl
 have hp1 : a0.eval (.tmp 1) = vv v Av cv Bv dv := hp 1 _ rfl
 have hp2 : a0.eval (.tmp 2) = vv u Au cu Bu du := hp 2 _ rfl
 refine wp_seq_k fun K1 cJ => ?_
 refine wp_g [true, true, true, true] [] [] 120
   [IsNew w 29 [iv v.k, iv v.nk, iv v.nn, .bool v.neg, sv Av v.mag cv, sv Bv v.s dv, iv v.ref], IsNew w 29 [iv u.k, iv u.nk, iv u.nn, .bool u.neg, sv Au u.mag cu, sv Bu u.s du, iv u.ref], IsNew w 29 [iv 0, iv 0, iv 0, .bool false, sv none ([]) 0, sv none ([]) 0, iv 0], ve (iv 0)]
   [0, 1, 2] (newsCons (fun v w h => IsNew.old h) (newsCons (fun v w h => IsNew.old h) (newsCons (fun v w h => IsNew.old h) newsNil))) aB (.nw (.nw (.nw (.eq (.nil))))) ?_ (fun i h => by cases h) ?_
 exact .o2 (step_allocN (cs := [iv v.k, iv v.nk, iv v.nn, .bool v.neg, sv Av v.mag cv, sv Bv v.s dv, iv v.ref]) (t := 29) rfl (noG rfl) (fun _ w hn k => v_box rfl (k.fx 1 hp1) (fun w => rfl)) (fun q _ hq hb => ⟨q, rfl, hq, hb⟩)) <| .o2 (step_allocN (cs := [iv u.k, iv u.nk, iv u.nn, .bool u.neg, sv Au u.mag cu, sv Bu u.s du, iv u.ref]) (t := 29) rfl (noG rfl) (fun _ w hn k => v_box rfl (k.fx 2 hp2) (fun w => rfl)) (fun q _ hq hb => ⟨q, rfl, hq, hb⟩)) <| .o2 (step_allocN (cs := [iv 0, iv 0, iv 0, .bool false, sv none ([]) 0, sv none ([]) 0, iv 0]) (t := 29) rfl (noG rfl) (fun _ w hn k => rfl) (fun q _ hq hb => ⟨q, rfl, hq, hb⟩)) <| .t (fun _ w hn k => ⟨_, v_assign rfl rfl, rfl⟩) .nil
 refine aftI aB cI aC fun a2 w3 bN cK ah dq ai => ?_
 have h8 := ai.fx 0 hp0
 obtain ⟨aD, h9, bT, aL⟩ : IsNew _ _ _ _ _ := ai.got 0 4 rfl (by kernel_rfl)
 obtain ⟨aE, aF, bU, aM⟩ : IsNew _ _ _ _ _ := ai.got 1 5 rfl (by kernel_rfl)
 obtain ⟨aN, aO, bV, bW⟩ : IsNew _ _ _ _ _ := ai.got 2 6 rfl (by kernel_rfl)
 have hne21 : aD ≠ aE := ai.ne 0 1 4 5 h9 aF
 have hne22 : aD ≠ aN := ai.ne 0 2 4 6 h9 aO
 have hne23 : aE ≠ aN := ai.ne 1 2 5 6 aF aO
 have c7 := Nat.le_trans aC.size bT
 have c9 := Nat.le_trans aC.size bU
 have da := Nat.le_trans aC.size bV
 refine st_nil (cJ _ _ (wp_seq_k fun dr bX => ?_))
 refine wp_g0 [true, true, true, true, false, false] [(4, false), (5, false)] 120
   [ve (vv v Av cv Bv dv),
    (VP (cleanV v)), ve (vv u Au cu Bu du),
    (VP (cleanV u)), vt, vt] bN (.eq (.cons (fun v W W' hn ⟨A5, c6, A7, c8, he, h0, h1⟩ => ⟨A5, c6, A7, c8, he, h0.new_ hn, h1.new_ hn⟩) (.eq (.cons (fun v W W' hn ⟨cL, cM, cN, cO, he, h0, h1⟩ => ⟨cL, cM, cN, cO, he, h0.new_ hn, h1.new_ hn⟩) (.tt (.tt (.nil))))))) ?_ ?_
 refine .t (fun _ w hn k => ⟨_, v_load rfl (k.fx 4 h9) (l_agg Tryz.isAgg29 Tryz.sizeOf29 (aL.new_ hn) rfl), rfl⟩) ?_
 refine .o1 (tkC rfl (noG rfl) rfl fun _ w hn k => (by
       refine ⟨#[vv v Av cv Bv dv], _, args1 (k.eq1 0 10 rfl), fun w => by kernel_rfl, clean_c v _ _ _ _ _ (hmv.new_ (ah.transNew hn)) (hsv.new_ (ah.transNew hn)), ?_⟩
       rintro e w' ⟨A1, c2, A3, c4, rfl, hmo0, hmo1, hm⟩
       exact ⟨_, rfl, hm, ⟨A1, c2, A3, c4, rfl, hmo0, hmo1⟩⟩)) ?_
 refine .t (fun _ w hn k => ⟨_, v_load rfl (k.fx 5 aF) (l_agg Tryz.isAgg29 Tryz.sizeOf29 (aM.new_ hn) rfl), rfl⟩) ?_
 refine .o1 (tkC rfl (noG rfl) rfl fun _ w hn k => (by
       refine ⟨#[vv u Au cu Bu du], _, args1 (k.eq1 2 12 rfl), fun w => by kernel_rfl, clean_c u _ _ _ _ _ (hmu.new_ (ah.transNew hn)) (hsu.new_ (ah.transNew hn)), ?_⟩
       rintro e w' ⟨A9, cP, cQ, cR, rfl, hmo0, hmo1, hm⟩
       exact ⟨_, rfl, hm, ⟨A9, cP, cQ, cR, rfl, hmo0, hmo1⟩⟩)) ?_
 exact .off <| .off .nil
 refine aftI bN cK ah fun bO ds aP bY bZ aA ag => ?_
 have bP := ag.fx 0 h8
 have bQ := ag.fx 4 h9
 have bR := ag.fx 5 aF
 have cS := ag.fx 6 aO
 obtain ⟨aw, aj, ax, ak, aQ, b0, b1⟩ : (VP (cleanV v)) _ _ := ag.got 1 11 rfl (by kernel_rfl)
 have aQ : bO.eval (.tmp 11) = vv (cleanV v) aw aj ax ak := aQ
 obtain ⟨ay, al, az, am, aR, b2, b3⟩ : (VP (cleanV u)) _ _ := ag.got 3 13 rfl (by kernel_rfl)
 have aR : bO.eval (.tmp 13) = vv (cleanV u) ay al az am := aR
 have an := aL.new_ aA
 have b4 := aM.new_ aA
 have b5 := bW.new_ aA
 obtain ⟨cU, a5, a6, ao, aS⟩ := s_many (P := Tryz.prog) (t := 29) (i := 0) [iv ((cleanV v).k), iv ((cleanV v).nk), iv ((cleanV v).nn), .bool ((cleanV v).neg), sv aw ((cleanV v).mag) aj, sv ax ((cleanV v).s) ak, iv ((cleanV v).ref)] Tryz.sizeOf29 rfl rfl rfl an lb
 have b6 : Blk cU aD 29 [iv ((cleanV v).k), iv ((cleanV v).nk), iv ((cleanV v).nn), .bool ((cleanV v).neg), sv aw ((cleanV v).mag) aj, sv ax ((cleanV v).s) ak, iv ((cleanV v).ref)] := a6
 refine st_act rfl rfl fun dt b7 => a_store' rfl bQ aQ a5 (b7 _ _ trivial ?_)
 have b8 := b0.far an ao (by first | rfl | decide | simp [notK])
 have b9 := b1.far an ao (by first | rfl | decide | simp [notK])
 have ca := b2.far an ao (by first | rfl | decide | simp [notK])
 have cb := b3.far an ao (by first | rfl | decide | simp [notK])
 have ap := aS _ _ _ (fun h => hne21 h.symm) b4
 have cc := aS _ _ _ (fun h => hne22 h.symm) b5
 have cd := bZ.trans ao (fun _ h b => by subst b; omega)
 obtain ⟨cV, a7, a8, aq, aT⟩ := s_many (P := Tryz.prog) (t := 29) (i := 0) [iv ((cleanV u).k), iv ((cleanV u).nk), iv ((cleanV u).nn), .bool ((cleanV u).neg), sv ay ((cleanV u).mag) al, sv az ((cleanV u).s) am, iv ((cleanV u).ref)] Tryz.sizeOf29 rfl rfl rfl ap lb
 have ce : Blk cV aE 29 [iv ((cleanV u).k), iv ((cleanV u).nk), iv ((cleanV u).nn), .bool ((cleanV u).neg), sv ay ((cleanV u).mag) al, sv az ((cleanV u).s) am, iv ((cleanV u).ref)] := a8
 refine st_act rfl rfl fun dw cf => a_store' rfl bR aR a7 (cf _ _ trivial ?_)
 have ch := b8.far ap aq (by first | rfl | decide | simp [notK])
 have ci := b9.far ap aq (by first | rfl | decide | simp [notK])
 have cj := ca.far ap aq (by first | rfl | decide | simp [notK])
 have cl := cb.far ap aq (by first | rfl | decide | simp [notK])
 have cm := aT _ _ _ (hne21) b6
 have cn := aT _ _ _ (fun h => hne23 h.symm) cc
 have co := cd.trans aq (fun _ h b => by subst b; omega)
 refine st_nil (bX _ _ (wp_seq_k fun dx db => ?_))
 refine wp_seq_k fun dy cp => ?_
 refine wp_g0 [true] [] 120
   [ve (.string ⟨#[43]⟩)] aP (.eq (.nil)) ?_ ?_
 exact .m (fun k => k.fx 0 bP) .nil
 refine aftI aP bY co fun dz dA aU cq a9 ae ar => ?_
 have cW := ar.fx 0 bP
 have cX := ar.fx 4 bQ
 have cY := ar.fx 5 bR
 have cZ := ar.fx 6 cS
 have bS := ar.ge 0 14 rfl
 have cr := cm.new_ ae
 have ct := ce.new_ ae
 have ba := cn.new_ ae
 have bb := ch.new_ ae
 have bd := ci.new_ ae
 have be := cj.new_ ae
 have bf := cl.new_ ae
 refine st_nil (cp _ _ ?_)
 refine wp_block ?_
 refine wp_seq_k fun dc bg => ?_
 refine wp_g0 [true, true] [] 120
   [vT, vT] aU (.eq (.eq (.nil))) ?_ ?_
 exact .t (fun _ w hn k => ⟨_, v_bin rfl (k.fx 14 bS) rfl (fun _ => rfl) (r_eqlS (r := true) (by kernel_rfl)), rfl⟩) <| .a (fun k => k.eq1 0 16 rfl) .nil
 refine aftI aU cq a9 fun dd de aG bh bi aa ad => ?_
 have cw := ad.fx 0 cW
 have aV := ad.fx 4 cX
 have aW := ad.fx 5 cY
 have cx := ad.fx 6 cZ
 have df := ad.fx 14 bS
 have cy := ad.ge 1 15 rfl
 have aH := cr.new_ aa
 have aI := ct.new_ aa
 have bj := ba.new_ aa
 have bk := bb.new_ aa
 have bl := bd.new_ aa
 have bm := be.new_ aa
 have bn := bf.new_ aa
 refine st_nil (bg _ _ ?_)
 refine wp_cond_true cy ?_
 refine wp_seq_k fun dg bo => ?_
 refine wp_seq_k fun dh bp => ?_
 refine wp_g0 (.replicate 8 true) [] 120
   [ve (pv aD), ve (iv ((cleanV v).k)), ve (.bool (decide (((cleanV v).k) = 5))), ve (.bool (decide (((cleanV v).k) = 5))), ve (gq (!(decide (((cleanV v).k) = 5))) (pv aE)), ve (gq (!(decide (((cleanV v).k) = 5))) (iv ((cleanV u).k))), ve (gq (!(decide (((cleanV v).k) = 5))) (.bool (decide (((cleanV u).k) = 5)))), ve (.bool ((decide (((cleanV v).k) = 5)) || (decide (((cleanV u).k) = 5))))] aG (.eq (.eq (.eq (.eq (.eq (.eq (.eq (.eq (.nil))))))))) ?_ ?_
 exact .f (fun k => k.fx 4 aV) <| .t (fun _ w hn k => ⟨_, v_load rfl (k.eq1 0 17 rfl) (l_one Tryz.isAgg3 ((aH.new_ hn).cell 0)), rfl⟩) <| .t (fun _ w hn k => ⟨_, v_bin rfl (k.eq1 1 18 rfl) rfl (fun _ => rfl) (r_eql rfl), rfl⟩) <| .m (fun k => k.eq1 2 19 rfl) <| .o1 (sc (G := (!(decide (((cleanV v).k) = 5)))) rfl rfl rfl (fun _ _ k => g0' (k.eq1 3 20 rfl)) (fun hG _ w hn k => v_field rfl (k.fx 5 aW) (fun w => rfl))) <| .o1 (sc (G := (!(decide (((cleanV v).k) = 5)))) rfl rfl rfl (fun _ _ k => g0' (k.eq1 3 20 rfl)) (fun hG _ w hn k => v_load rfl (cT hG (k.eq1 4 21 rfl)) (l_one Tryz.isAgg3 ((aI.new_ hn).cell 0)))) <| .o1 (sc (G := (!(decide (((cleanV v).k) = 5)))) rfl rfl rfl (fun _ _ k => g0' (k.eq1 3 20 rfl)) (fun hG _ w hn k => v_bin rfl (cT hG (k.eq1 5 22 rfl)) rfl (fun _ => rfl) (r_eql rfl))) <| .t (fun _ w hn k => ⟨_, v_or rfl (k.eq1 3 20 rfl) rfl (fun hg => (cT (nt hg) (k.eq1 6 23 rfl))), rfl⟩) .nil
 refine aftI aG bh bi fun di dj aJ bq br ab af => ?_
 have cz := af.fx 0 cw
 have cA := af.fx 4 aV
 have cB := af.fx 5 aW
 have cC := af.fx 6 cx
 have cD := af.ge 7 24 rfl
 have bs := aH.new_ ab
 have bt := aI.new_ ab
 have bu := bj.new_ ab
 have bv := bk.new_ ab
 have bw := bl.new_ ab
 have bx := bm.new_ ab
 have bz := bn.new_ ab
 refine st_nil (bp _ _ ?_)
 have au : (((decide (((cleanV v).k) = 5)) || (decide (((cleanV u).k) = 5)))) = false := (by rw [show ((decide (((cleanV v).k) = 5))) = false from decide_eq_false (hk1), show ((decide (((cleanV u).k) = 5))) = false from decide_eq_false (hk2)]; rfl)
 have bA := hB cD au
 have bB : (decide (((cleanV v).k) = 5)) = false := ol au
 have c0 := oF bB
 have bC : (decide (((cleanV u).k) = 5)) = false := or_ au
 have c1 := oF bC
 refine wp_cond_false bA ?_
 refine wp_skip ?_
 refine bo _ _ ?_
 refine wp_seq_k fun dk bD => ?_
 refine wp_g0 [true, true, true, true, true, true, false, false] [(6, false), (7, true)] 120
   [ve (.string ⟨#[43]⟩), ve (vv (cleanV v) aw aj ax ak), ve (vv (cleanV u) ay al az am), ve (.tuple #[vv (Vl.mk 0 0 0 false [] [] 0) none 0 none 0, iv ((numericsV (cleanV v) (cleanV u)).2.2)]), ve (vv (Vl.mk 0 0 0 false [] [] 0) none 0 none 0), ve (iv ((numericsV (cleanV v) (cleanV u)).2.2)), vt, vt] aJ (.eq (.eq (.eq (.eq (.eq (.eq (.tt (.tt (.nil))))))))) ?_ ?_
 exact .m (fun k => k.fx 0 cz) <| .t (fun _ w hn k => ⟨_, v_load rfl (k.fx 4 cA) (l_agg Tryz.isAgg29 Tryz.sizeOf29 (bs.new_ hn) rfl), rfl⟩) <| .t (fun _ w hn k => ⟨_, v_load rfl (k.fx 5 cB) (l_agg Tryz.isAgg29 Tryz.sizeOf29 (bt.new_ hn) rfl), rfl⟩) <| .o1 (ck rfl rfl rfl (fun _ w hn k => ⟨#[.string ⟨#[43]⟩, vv (cleanV v) aw aj ax ak, vv (cleanV u) ay al az am], args3 (k.eq1 0 30 rfl) (k.eq1 1 31 rfl) (k.eq1 2 32 rfl), fun _ => by kernel_rfl, sumsM_c (cleanV v) _ _ _ _ (cleanV u) _ _ _ _ _ (bv.new_ hn) (bw.new_ hn) (bx.new_ hn) (bz.new_ hn) hvv.clean hvu.clean hns⟩) fun _ => rfl) <| .t (fun _ w hn k => ⟨_, v_extract rfl (k.eq1 3 33 rfl) rfl, rfl⟩) <| .t (fun _ w hn k => ⟨_, v_extract rfl (k.eq1 3 33 rfl) rfl, rfl⟩) <| .off <| .off .nil
 refine aftI aJ bq br fun aX dl aK bE bF bG av => ?_
 have aY := av.fx 6 cC
 have aZ := av.ge 4 34 rfl
 have a1 := av.ge 5 35 rfl
 have bH := bu.new_ bG
 obtain ⟨cE, a3, a4, bI, c3⟩ := s_many (P := Tryz.prog) (t := 29) (i := 0) [iv 0, iv 0, iv 0, .bool false, sv none ([]) 0, sv none ([]) 0, iv 0] Tryz.sizeOf29 rfl rfl rfl bH lb
 have bJ : Blk cE aN 29 [iv 0, iv 0, iv 0, .bool false, sv none ([]) 0, sv none ([]) 0, iv 0] := a4
 refine st_act rfl rfl fun dm bK => a_store' rfl aY aZ a3 (bK _ _ trivial ?_)
 have bL := bF.trans bI (fun _ h b => by subst b; omega)
 refine st_take rfl rfl (y_assign (v := iv ((numericsV (cleanV v) (cleanV u)).2.2)) rfl a1) rfl ?_
 obtain ⟨cF, ac⟩ : ∃ a', a' = aX.put (some 7) (iv ((numericsV (cleanV v) (cleanV u)).2.2)) := ⟨_, rfl⟩
 have c5 := pz ac aK
 have bM := pd ac bE
 have cG := pn ac aY (by decide)
 have dn := pn ac aZ (by decide)
 have dp := pn ac a1 (by decide)
 have cH : cF.eval (.tmp 7) = iv ((numericsV (cleanV v) (cleanV u)).2.2) := by rw [ac]; exact put_same _ _ _ (by rw [aK]; decide)
 show stepsTo _ _ _ _ _ (aX.put (some 7) (iv ((numericsV (cleanV v) (cleanV u)).2.2))) _
 rw [← ac]
 refine st_nil (bD _ _ ?_)
 refine wp_ret (ret_k bM (v := .tuple #[vv (Vl.mk 0 0 0 false [] [] 0) none 0 none 0, iv ((numericsV (cleanV v) (cleanV u)).2.2)]) (res_ct rfl cG cH (l_agg Tryz.isAgg29 Tryz.sizeOf29 bJ rfl)) ?_)
 exact ⟨rfl, bL⟩
theorem sumsD_c  (v : Vl) (Av : Option Addr) (cv : Nat) (Bv : Option Addr) (dv : Nat) (u : Vl) (Au : Option Addr) (cu : Nat) (Bu : Option Addr) (du : Nat) (w : World) (hmv : SRow w .u32 Av v.mag cv) (hsv : SRow w .u16 Bv v.s dv) (hmu : SRow w .u32 Au u.mag cu) (hsu : SRow w .u16 Bu u.s du) (hvv : VOk v) (hvu : VOk u) (hns : (numericsV v u).2.2 = 0) (hk : (numericsV v u).1.k = 3) (hX : (Nm.mk (numericsV v u).1.nk (numericsV v u).1.nn) = ⟨0, 1⟩) (hY : (Nm.mk (numericsV v u).2.1.nk (numericsV v u).2.1.nn) = ⟨0, 2⟩) : Calls Tryz.prog 36 #[.string ⟨#[47]⟩, vv v Av cv Bv dv, vv u Au cu Bu du] w (IsRet (.tuple #[vv (Vl.mk 0 0 0 false [] [] 0) none 0 none 0, iv 3]) w) := by
 refine enter_abs Tryz.func36 rfl fun a0 ba eC hp => ?_
 have ba : a0.tmps.size = 92 := ba
 have bb : New w w := Upd.refl _ _
 have hp0 : a0.eval (.tmp 0) = .string ⟨#[47]⟩ := hp 0 _ rfl
 have hp1 : a0.eval (.tmp 1) = vv v Av cv Bv dv := hp 1 _ rfl
 have hp2 : a0.eval (.tmp 2) = vv u Au cu Bu du := hp 2 _ rfl
 refine wp_seq_k fun K1 eD => ?_
 refine wp_g [true, true, true, true] [] [] 92
   [IsNew w 29 [iv v.k, iv v.nk, iv v.nn, .bool v.neg, sv Av v.mag cv, sv Bv v.s dv, iv v.ref], IsNew w 29 [iv u.k, iv u.nk, iv u.nn, .bool u.neg, sv Au u.mag cu, sv Bu u.s du, iv u.ref], IsNew w 29 [iv 0, iv 0, iv 0, .bool false, sv none ([]) 0, sv none ([]) 0, iv 0], ve (iv 0)]
   [0, 1, 2] (newsCons (fun v w h => IsNew.old h) (newsCons (fun v w h => IsNew.old h) (newsCons (fun v w h => IsNew.old h) newsNil))) ba (.nw (.nw (.nw (.eq (.nil))))) ?_ (fun i h => by cases h) ?_
 exact .o2 (step_allocN (cs := [iv v.k, iv v.nk, iv v.nn, .bool v.neg, sv Av v.mag cv, sv Bv v.s dv, iv v.ref]) (t := 29) rfl (noG rfl) (fun _ w hn k => v_box rfl (k.fx 1 hp1) (fun w => rfl)) (fun q _ hq hb => ⟨q, rfl, hq, hb⟩)) <| .o2 (step_allocN (cs := [iv u.k, iv u.nk, iv u.nn, .bool u.neg, sv Au u.mag cu, sv Bu u.s du, iv u.ref]) (t := 29) rfl (noG rfl) (fun _ w hn k => v_box rfl (k.fx 2 hp2) (fun w => rfl)) (fun q _ hq hb => ⟨q, rfl, hq, hb⟩)) <| .o2 (step_allocN (cs := [iv 0, iv 0, iv 0, .bool false, sv none ([]) 0, sv none ([]) 0, iv 0]) (t := 29) rfl (noG rfl) (fun _ w hn k => rfl) (fun q _ hq hb => ⟨q, rfl, hq, hb⟩)) <| .t (fun _ w hn k => ⟨_, v_assign rfl rfl, rfl⟩) .nil
 refine aftI ba eC bb fun a2 w3 di eE av f0 aV => ?_
 have h8 := aV.fx 0 hp0
 obtain ⟨eF, h9, dl, dm⟩ : IsNew _ _ _ _ _ := aV.got 0 4 rfl (by kernel_rfl)
 obtain ⟨eG, dj, dn, dp⟩ : IsNew _ _ _ _ _ := aV.got 1 5 rfl (by kernel_rfl)
 obtain ⟨a1, br, dq, a5⟩ : IsNew _ _ _ _ _ := aV.got 2 6 rfl (by kernel_rfl)
 have hne21 : eF ≠ a1 := aV.ne 0 2 4 6 h9 br
 have hne22 : eG ≠ a1 := aV.ne 1 2 5 6 dj br
 have fg := Nat.le_trans bb.size dl
 have fh := Nat.le_trans bb.size dn
 have fi := Nat.le_trans bb.size dq
 refine st_nil (eD _ _ (wp_seq_k fun f1 dr => ?_))
 refine wp_gS (fun W => True) (fun W W' hn h => trivial) trivial [true, true, true, true, true, true, true, true, true, false, false, false] [5, 6] [(9, false), (10, false), (11, true)] 92
   [ve (vv v Av cv Bv dv), ve (vv u Au cu Bu du), (fun (v_ : Value) (W : World) => ∃ (A9 : Option Addr) (aC : Nat) (aD : Option Addr) (aE : Nat) (aF : Option Addr) (aG : Nat) (aH : Option Addr) (aI : Nat), v_ = .tuple #[vv (numericsV v u).1 A9 aC aD aE, vv (numericsV v u).2.1 aF aG aH aI, iv ((numericsV v u).2.2)] ∧ SRow W .u32 A9 ((numericsV v u).1.mag) aC ∧ SRow W .u16 aD ((numericsV v u).1.s) aE ∧ SRow W .u32 aF ((numericsV v u).2.1.mag) aG ∧ SRow W .u16 aH ((numericsV v u).2.1.s) aI), (fun (v_ : Value) (W : World) => ∃ (ab : Option Addr) (ac : Nat) (ad : Option Addr) (ae : Nat) (af : Option Addr) (ag : Nat) (ah : Option Addr) (ai : Nat), v_ = .tuple #[vv (numericsV v u).1 ab ac ad ae, vv (numericsV v u).2.1 af ag ah ai, iv ((numericsV v u).2.2)] ∧ SRow W .u32 ab ((numericsV v u).1.mag) ac ∧ SRow W .u16 ad ((numericsV v u).1.s) ae ∧ SRow W .u32 af ((numericsV v u).2.1.mag) ag ∧ SRow W .u16 ah ((numericsV v u).2.1.s) ai), (fun (v_ : Value) (W : World) => ∃ (aJ : Option Addr) (aK : Nat) (aL : Option Addr) (aM : Nat), v_ = vv (numericsV v u).1 aJ aK aL aM ∧ SRow W .u32 aJ ((numericsV v u).1.mag) aK ∧ SRow W .u16 aL ((numericsV v u).1.s) aM), (fun (v_ : Value) (W : World) => ∃ (aN : Option Addr) (aO : Nat) (aP : Option Addr) (aQ : Nat), v_ = vv (numericsV v u).2.1 aN aO aP aQ ∧ SRow W .u32 aN ((numericsV v u).2.1.mag) aO ∧ SRow W .u16 aP ((numericsV v u).2.1.s) aQ), ve (iv ((numericsV v u).2.2)), IsNew w3 29 [iv 0, iv 0, iv 0, .bool false, sv none ([]) 0, sv none ([]) 0, iv 0], IsNew w3 29 [iv 0, iv 0, iv 0, .bool false, sv none ([]) 0, sv none ([]) 0, iv 0], vt, vt, vt]
   [7, 8] (newsCons (fun v w h => IsNew.old h) (newsCons (fun v w h => IsNew.old h) newsNil)) di (.eq (.eq (.cons (fun v W W' hn ⟨A9, aC, aD, aE, aF, aG, aH, aI, he, h0, h1, h2, h3⟩ => ⟨A9, aC, aD, aE, aF, aG, aH, aI, he, h0.new_ hn, h1.new_ hn, h2.new_ hn, h3.new_ hn⟩) (.cons (fun v W W' hn ⟨ab, ac, ad, ae, af, ag, ah, ai, he, h0, h1, h2, h3⟩ => ⟨ab, ac, ad, ae, af, ag, ah, ai, he, h0.new_ hn, h1.new_ hn, h2.new_ hn, h3.new_ hn⟩) (.cons (fun v W W' hn ⟨aJ, aK, aL, aM, he, h0, h1⟩ => ⟨aJ, aK, aL, aM, he, h0.new_ hn, h1.new_ hn⟩) (.cons (fun v W W' hn ⟨aN, aO, aP, aQ, he, h0, h1⟩ => ⟨aN, aO, aP, aQ, he, h0.new_ hn, h1.new_ hn⟩) (.eq (.nw (.nw (.tt (.tt (.tt (.nil))))))))))))) ?_ ?_ ?_
 refine .t (fun _ w hn k => ⟨_, v_load rfl (k.fx 4 h9) (l_agg Tryz.isAgg29 Tryz.sizeOf29 (dm.new_ hn) rfl), rfl⟩) <| .t (fun _ w hn k => ⟨_, v_load rfl (k.fx 5 dj) (l_agg Tryz.isAgg29 Tryz.sizeOf29 (dp.new_ hn) rfl), rfl⟩) ?_
 refine .o1 (tkC rfl (noG rfl) rfl fun _ w hn k => (by
       refine ⟨#[vv v Av cv Bv dv, vv u Au cu Bu du], _, args2 (k.eq1 0 12 rfl) (k.eq1 1 13 rfl), fun w => by kernel_rfl, numerics_c v _ _ _ _ u _ _ _ _ _ (hmv.new_ (av.transNew hn)) (hsv.new_ (av.transNew hn)) (hmu.new_ (av.transNew hn)) (hsu.new_ (av.transNew hn)) hvv hvu, ?_⟩
       rintro e w' ⟨A1, c2, A3, c4, A5, c6, A7, c8, rfl, hmo0, hmo1, hmo2, hmo3, hm⟩
       exact ⟨_, rfl, hm, ⟨A1, c2, A3, c4, A5, c6, A7, c8, rfl, hmo0, hmo1, hmo2, hmo3⟩⟩)) ?_
 refine .o1 (tk rfl rfl fun _ w hn k => (by
       obtain ⟨eH, eI, eJ, eK, eL, eM, eN, eO, eP, ds, dt, dw, dx⟩ : (fun (v_ : Value) (W : World) => ∃ (A9 : Option Addr) (aC : Nat) (aD : Option Addr) (aE : Nat) (aF : Option Addr) (aG : Nat) (aH : Option Addr) (aI : Nat), v_ = .tuple #[vv (numericsV v u).1 A9 aC aD aE, vv (numericsV v u).2.1 aF aG aH aI, iv ((numericsV v u).2.2)] ∧ SRow W .u32 A9 ((numericsV v u).1.mag) aC ∧ SRow W .u16 aD ((numericsV v u).1.s) aE ∧ SRow W .u32 aF ((numericsV v u).2.1.mag) aG ∧ SRow W .u16 aH ((numericsV v u).2.1.s) aI) _ _ := k.dep 2 14 (by kernel_rfl) (by kernel_rfl)
       exact ⟨_, v_move rfl eP, ⟨eH, eI, eJ, eK, eL, eM, eN, eO, rfl, ds, dt, dw, dx⟩⟩)) ?_
 refine .o1 (tk rfl rfl fun _ w hn k => (by
       obtain ⟨eQ, eR, a3, eS, f2, f3, bd, f4, eT, dy, dz, fj, fk⟩ : (fun (v_ : Value) (W : World) => ∃ (ab : Option Addr) (ac : Nat) (ad : Option Addr) (ae : Nat) (af : Option Addr) (ag : Nat) (ah : Option Addr) (ai : Nat), v_ = .tuple #[vv (numericsV v u).1 ab ac ad ae, vv (numericsV v u).2.1 af ag ah ai, iv ((numericsV v u).2.2)] ∧ SRow W .u32 ab ((numericsV v u).1.mag) ac ∧ SRow W .u16 ad ((numericsV v u).1.s) ae ∧ SRow W .u32 af ((numericsV v u).2.1.mag) ag ∧ SRow W .u16 ah ((numericsV v u).2.1.s) ai) _ _ := k.dep 3 11 (by kernel_rfl) (by kernel_rfl)
       exact ⟨_, v_extract rfl eT rfl, ⟨eQ, eR, a3, eS, rfl, dy, dz⟩⟩)) ?_
 refine .o3 ?_
 refine .o3 ?_
 exact .o2 (step_allocN (cs := [iv 0, iv 0, iv 0, .bool false, sv none ([]) 0, sv none ([]) 0, iv 0]) (t := 29) rfl (noG rfl) (fun _ w hn k => rfl) (fun q _ hq hb => ⟨q, rfl, hq, hb⟩)) <| .o2 (step_allocN (cs := [iv 0, iv 0, iv 0, .bool false, sv none ([]) 0, sv none ([]) 0, iv 0]) (t := 29) rfl (noG rfl) (fun _ w hn k => rfl) (fun q _ hq hb => ⟨q, rfl, hq, hb⟩)) <| .off <| .off <| .off .nil
 intro i h
 simp only [List.contains_eq_mem, List.mem_cons, List.not_mem_nil, or_false, decide_eq_true_eq] at h
 rcases h with rfl | rfl
 exact eager_takeG rfl (noG rfl) fun _ w hn k => (by
     obtain ⟨f5, f6, f7, f8, eU, eV, eW, eX, eY, fl, fm, dA, dB⟩ : (fun (v_ : Value) (W : World) => ∃ (ab : Option Addr) (ac : Nat) (ad : Option Addr) (ae : Nat) (af : Option Addr) (ag : Nat) (ah : Option Addr) (ai : Nat), v_ = .tuple #[vv (numericsV v u).1 ab ac ad ae, vv (numericsV v u).2.1 af ag ah ai, iv ((numericsV v u).2.2)] ∧ SRow W .u32 ab ((numericsV v u).1.mag) ac ∧ SRow W .u16 ad ((numericsV v u).1.s) ae ∧ SRow W .u32 af ((numericsV v u).2.1.mag) ag ∧ SRow W .u16 ah ((numericsV v u).2.1.s) ai) _ _ := k.dep 3 11 (by kernel_rfl) (by kernel_rfl)
     exact ⟨_, fun w hS => v_extract rfl eY rfl, ⟨eU, eV, eW, eX, rfl, dA, dB⟩⟩)
 exact eager_takeG rfl (noG rfl) fun _ w hn k => (by
     obtain ⟨f9, ga, gb, gc, gd, gf, gg, gh, eZ, fn, fo, fp, fq⟩ : (fun (v_ : Value) (W : World) => ∃ (ab : Option Addr) (ac : Nat) (ad : Option Addr) (ae : Nat) (af : Option Addr) (ag : Nat) (ah : Option Addr) (ai : Nat), v_ = .tuple #[vv (numericsV v u).1 ab ac ad ae, vv (numericsV v u).2.1 af ag ah ai, iv ((numericsV v u).2.2)] ∧ SRow W .u32 ab ((numericsV v u).1.mag) ac ∧ SRow W .u16 ad ((numericsV v u).1.s) ae ∧ SRow W .u32 af ((numericsV v u).2.1.mag) ag ∧ SRow W .u16 ah ((numericsV v u).2.1.s) ai) _ _ := k.dep 3 11 (by kernel_rfl) (by kernel_rfl)
     exact ⟨_, fun w hS => v_extract rfl eZ rfl, rfl⟩)
 intro be gi _ bs aj
 obtain ⟨bt, dC, dD⟩ := aft aj di eE av bs
 have e0 := aj.fx 0 h8
 have e1 := aj.fx 6 br
 obtain ⟨bu, a6, a3, a7, bf, dE, dF⟩ : (fun (v_ : Value) (W : World) => ∃ (aJ : Option Addr) (aK : Nat) (aL : Option Addr) (aM : Nat), v_ = vv (numericsV v u).1 aJ aK aL aM ∧ SRow W .u32 aJ ((numericsV v u).1.mag) aK ∧ SRow W .u16 aL ((numericsV v u).1.s) aM) _ _ := aj.got 4 15 rfl (by kernel_rfl)
 have bf : be.eval (.tmp 15) = vv (numericsV v u).1 bu a6 a3 a7 := bf
 obtain ⟨bd, a8, bv, a9, bg, dG, dH⟩ : (fun (v_ : Value) (W : World) => ∃ (aN : Option Addr) (aO : Nat) (aP : Option Addr) (aQ : Nat), v_ = vv (numericsV v u).2.1 aN aO aP aQ ∧ SRow W .u32 aN ((numericsV v u).2.1.mag) aO ∧ SRow W .u16 aP ((numericsV v u).2.1.s) aQ) _ _ := aj.got 5 16 rfl (by kernel_rfl)
 have bg : be.eval (.tmp 16) = vv (numericsV v u).2.1 bd a8 bv a9 := bg
 have dk := aj.ge 6 17 rfl
 obtain ⟨a4, bw, bx, aR⟩ : IsNew _ _ _ _ _ := aj.got 7 8 rfl (by kernel_rfl)
 obtain ⟨bh, bz, bA, dI⟩ : IsNew _ _ _ _ _ := aj.got 8 9 rfl (by kernel_rfl)
 have dJ := a5.new_ bs
 have hne60 : a4 ≠ bh := aj.ne 7 8 8 9 bw bz
 have hne61 : a1 ≠ a4 := by have h1 := a5.lt; have h2 := bx; omega
 have hne62 : a1 ≠ bh := by have h1 := a5.lt; have h2 := bA; omega
 have fr := Nat.le_trans av.size bx
 have fs := Nat.le_trans av.size bA
 obtain ⟨e2, bP, bQ, aS, bB⟩ := s_many (P := Tryz.prog) (t := 29) (i := 0) [iv ((numericsV v u).1.k), iv ((numericsV v u).1.nk), iv ((numericsV v u).1.nn), .bool ((numericsV v u).1.neg), sv bu ((numericsV v u).1.mag) a6, sv a3 ((numericsV v u).1.s) a7, iv ((numericsV v u).1.ref)] Tryz.sizeOf29 rfl rfl rfl aR lb
 have dK : Blk e2 a4 29 [iv ((numericsV v u).1.k), iv ((numericsV v u).1.nk), iv ((numericsV v u).1.nn), .bool ((numericsV v u).1.neg), sv bu ((numericsV v u).1.mag) a6, sv a3 ((numericsV v u).1.s) a7, iv ((numericsV v u).1.ref)] := bQ
 refine st_act rfl rfl fun gj dL => a_store' rfl bw bf bP (dL _ _ trivial ?_)
 have dM := dE.far aR aS (by first | rfl | decide | simp [notK])
 have dN := dF.far aR aS (by first | rfl | decide | simp [notK])
 have dO := dG.far aR aS (by first | rfl | decide | simp [notK])
 have dP := dH.far aR aS (by first | rfl | decide | simp [notK])
 have dQ := bB _ _ _ (hne61) dJ
 have aT := bB _ _ _ (fun h => hne60 h.symm) dI
 have dR := dD.trans aS (fun _ h b => by subst b; omega)
 obtain ⟨e3, bR, bS, aU, bC⟩ := s_many (P := Tryz.prog) (t := 29) (i := 0) [iv ((numericsV v u).2.1.k), iv ((numericsV v u).2.1.nk), iv ((numericsV v u).2.1.nn), .bool ((numericsV v u).2.1.neg), sv bd ((numericsV v u).2.1.mag) a8, sv bv ((numericsV v u).2.1.s) a9, iv ((numericsV v u).2.1.ref)] Tryz.sizeOf29 rfl rfl rfl aT lb
 have dS : Blk e3 bh 29 [iv ((numericsV v u).2.1.k), iv ((numericsV v u).2.1.nk), iv ((numericsV v u).2.1.nn), .bool ((numericsV v u).2.1.neg), sv bd ((numericsV v u).2.1.mag) a8, sv bv ((numericsV v u).2.1.s) a9, iv ((numericsV v u).2.1.ref)] := bS
 refine st_act rfl rfl fun gk dT => a_store' rfl bz bg bR (dT _ _ trivial ?_)
 have dU := dM.far aT aU (by first | rfl | decide | simp [notK])
 have dV := dN.far aT aU (by first | rfl | decide | simp [notK])
 have dW := dO.far aT aU (by first | rfl | decide | simp [notK])
 have dX := dP.far aT aU (by first | rfl | decide | simp [notK])
 have dY := bC _ _ _ (hne62) dQ
 have dZ := bC _ _ _ (hne60) dK
 have d0 := dR.trans aU (fun _ h b => by subst b; omega)
 refine st_take rfl rfl (y_assign (v := iv ((numericsV v u).2.2)) rfl dk) rfl ?_
 obtain ⟨e4, aa⟩ : ∃ a', a' = be.put (some 10) (iv ((numericsV v u).2.2)) := ⟨_, rfl⟩
 have bD := pz aa bt
 have d1 := pd aa dC
 have e5 := pn aa e0 (by decide)
 have e6 := pn aa e1 (by decide)
 have ft := pn aa bf (by decide)
 have fu := pn aa bg (by decide)
 have fv := pn aa dk (by decide)
 have d2 := pn aa bw (by decide)
 have d3 := pn aa bz (by decide)
 have bE : e4.eval (.tmp 10) = iv ((numericsV v u).2.2) := by rw [aa]; exact put_same _ _ _ (by rw [bt]; decide)
 show stepsTo _ _ _ _ _ (be.put (some 10) (iv ((numericsV v u).2.2))) _
 rw [← aa]
 refine st_nil (dr _ _ (wp_seq_k fun fw bT => ?_))
 refine wp_block ?_
 refine wp_seq_k fun fy bU => ?_
 refine wp_g0 [true, true, true] [] 92
   [ve (iv ((numericsV v u).2.2)), ve (.bool (!decide (((numericsV v u).2.2) = 0))), ve (.bool (!decide (((numericsV v u).2.2) = 0)))] bD (.eq (.eq (.eq (.nil)))) ?_ ?_
 exact .m (fun k => k.fx 10 bE) <| .t (fun _ w hn k => ⟨_, v_bin rfl (k.eq1 0 19 rfl) rfl (fun _ => rfl) (r_neq rfl), rfl⟩) <| .a (fun k => k.eq1 1 20 rfl) .nil
 refine aftI bD d1 d0 fun fz fA bi bV bW ak au => ?_
 have d4 := au.fx 0 e5
 have d5 := au.fx 6 e6
 have bF := au.fx 8 d2
 have d6 := au.fx 9 d3
 have fB := au.fx 10 bE
 have d7 := au.ge 2 18 rfl
 have bX := dY.new_ ak
 have bj := dZ.new_ ak
 have bY := dS.new_ ak
 have bZ := dU.new_ ak
 have b0 := dV.new_ ak
 have b1 := dW.new_ ak
 have b2 := dX.new_ ak
 refine st_nil (bU _ _ ?_)
 have aW : ((!decide (((numericsV v u).2.2) = 0))) = false := (nf (decide_eq_true (hns)))
 have b3 := hB d7 aW
 have aX : (decide (((numericsV v u).2.2) = 0)) = true := nT aW
 have e7 := oT aX
 refine wp_cond_false b3 ?_
 refine wp_seq_k fun fC b4 => ?_
 refine wp_g0 [true, true, true, true] [] 92
   [ve (pv a4), ve (iv ((numericsV v u).1.k)), ve (.bool (decide (((numericsV v u).1.k) = 4))), ve (.bool (decide (((numericsV v u).1.k) = 4)))] bi (.eq (.eq (.eq (.eq (.nil))))) ?_ ?_
 exact .f (fun k => k.fx 8 bF) <| .t (fun _ w hn k => ⟨_, v_load rfl (k.eq1 0 24 rfl) (l_one Tryz.isAgg3 ((bj.new_ hn).cell 0)), rfl⟩) <| .t (fun _ w hn k => ⟨_, v_bin rfl (k.eq1 1 25 rfl) rfl (fun _ => rfl) (r_eql rfl), rfl⟩) <| .a (fun k => k.eq1 2 26 rfl) .nil
 refine aftI bi bV bW fun fD fE bk b5 b6 al aw => ?_
 have d8 := aw.fx 0 d4
 have d9 := aw.fx 6 d5
 have ea := aw.fx 8 bF
 have eb := aw.fx 9 d6
 have ec := aw.ge 3 23 rfl
 have b7 := bX.new_ al
 have b8 := bj.new_ al
 have b9 := bY.new_ al
 have ca := bZ.new_ al
 have cb := b0.new_ al
 have cc := b1.new_ al
 have cd := b2.new_ al
 refine st_nil (b4 _ _ ?_)
 have aY : (decide (((numericsV v u).1.k) = 4)) = false := decide_eq_false (by omega)
 have e8 := oF aY
 have ce := hB ec aY
 refine wp_cond_false ce ?_
 refine wp_skip ?_
 refine bT _ _ ?_
 refine wp_seq_k fun fF e9 => ?_
 refine wp_seq_k fun fG cf => ?_
 refine wp_g0 [true] [] 92
   [ve (.string ⟨#[47]⟩)] bk (.eq (.nil)) ?_ ?_
 exact .m (fun k => k.fx 0 d8) .nil
 refine aftI bk b5 b6 fun fH fI bl ch ci am aA => ?_
 have ed := aA.fx 6 d9
 have ee := aA.fx 8 ea
 have ef := aA.fx 9 eb
 have bG := aA.ge 0 35 rfl
 have cj := b7.new_ am
 have cl := b8.new_ am
 have cm := b9.new_ am
 have cn := ca.new_ am
 have co := cb.new_ am
 have cp := cc.new_ am
 have cq := cd.new_ am
 refine st_nil (cf _ _ ?_)
 refine wp_block ?_
 refine wp_seq_k fun fJ cr => ?_
 refine wp_g0 [true, true] [] 92
   [vF, vF] bl (.eq (.eq (.nil))) ?_ ?_
 exact .t (fun _ w hn k => ⟨_, v_bin rfl (k.fx 35 bG) rfl (fun _ => rfl) (r_eqlS (r := false) (by kernel_rfl)), rfl⟩) <| .a (fun k => k.eq1 0 37 rfl) .nil
 refine aftI bl ch ci fun fK fL bm ct cw an ax => ?_
 have eg := ax.fx 6 ed
 have eh := ax.fx 8 ee
 have ei := ax.fx 9 ef
 have bH := ax.fx 35 bG
 have ej := ax.ge 1 36 rfl
 have cx := cj.new_ an
 have cy := cl.new_ an
 have cz := cm.new_ an
 have cA := cn.new_ an
 have cB := co.new_ an
 have cC := cp.new_ an
 have cD := cq.new_ an
 refine st_nil (cr _ _ ?_)
 refine wp_cond_false ej ?_
 refine wp_seq_k fun fM cE => ?_
 refine wp_g0 [true, true] [] 92
   [vF, vF] bm (.eq (.eq (.nil))) ?_ ?_
 exact .t (fun _ w hn k => ⟨_, v_bin rfl (k.fx 35 bH) rfl (fun _ => rfl) (r_eqlS (r := false) (by kernel_rfl)), rfl⟩) <| .a (fun k => k.eq1 0 49 rfl) .nil
 refine aftI bm ct cw fun fN fO bn cF cG ao ay => ?_
 have ek := ay.fx 6 eg
 have el := ay.fx 8 eh
 have em := ay.fx 9 ei
 have bI := ay.fx 35 bH
 have en := ay.ge 1 48 rfl
 have cH := cx.new_ ao
 have cI := cy.new_ ao
 have cJ := cz.new_ ao
 have cK := cA.new_ ao
 have cL := cB.new_ ao
 have cM := cC.new_ ao
 have cN := cD.new_ ao
 refine st_nil (cE _ _ ?_)
 refine wp_cond_false en ?_
 refine wp_seq_k fun fP cO => ?_
 refine wp_g0 [true, true] [] 92
   [vF, vF] bn (.eq (.eq (.nil))) ?_ ?_
 exact .t (fun _ w hn k => ⟨_, v_bin rfl (k.fx 35 bI) rfl (fun _ => rfl) (r_eqlS (r := false) (by kernel_rfl)), rfl⟩) <| .a (fun k => k.eq1 0 61 rfl) .nil
 refine aftI bn cF cG fun fQ fR bo cP cQ ap az => ?_
 have eo := az.fx 6 ek
 have ep := az.fx 8 el
 have er := az.fx 9 em
 have es := az.fx 35 bI
 have et := az.ge 1 60 rfl
 have cR := cH.new_ ap
 have cS := cI.new_ ap
 have cT := cJ.new_ ap
 have cU := cK.new_ ap
 have cV := cL.new_ ap
 have cW := cM.new_ ap
 have cX := cN.new_ ap
 refine st_nil (cO _ _ ?_)
 refine wp_cond_false et ?_
 refine wp_seq_k fun fS cY => ?_
 refine wp_g0 [true, true] [] 92
   [vT, vT] bo (.eq (.eq (.nil))) ?_ ?_
 exact .t (fun _ w hn k => ⟨_, v_bin rfl (k.fx 35 es) rfl (fun _ => rfl) (r_eqlS (r := true) (by kernel_rfl)), rfl⟩) <| .a (fun k => k.eq1 0 73 rfl) .nil
 refine aftI bo cP cQ fun fT fU bp cZ c0 aq aB => ?_
 have eu := aB.fx 6 eo
 have ev := aB.fx 8 ep
 have ew := aB.fx 9 er
 have ex := aB.ge 1 72 rfl
 have c1 := cR.new_ aq
 have c3 := cS.new_ aq
 have c5 := cT.new_ aq
 have fa := cU.new_ aq
 have fb := cV.new_ aq
 have fc := cW.new_ aq
 have fd := cX.new_ aq
 refine st_nil (cY _ _ ?_)
 refine wp_cond_true ex ?_
 refine wp_seq_k fun fV c7 => ?_
 refine wp_g0 [true, true, true, true, true, true, true, true, true, true, false, false] [(10, false), (11, true)] 92
   [ve (.pointer (some ⟨a4, 1, none⟩)), ve (nv (Nm.mk ((numericsV v u).1.nk) ((numericsV v u).1.nn))), ve (.pointer (some ⟨bh, 1, none⟩)), ve (nv (Nm.mk ((numericsV v u).2.1.nk) ((numericsV v u).2.1.nn))), ve (.tuple #[nv (Nm.mk 2 0), .bool false]), ve (nv (Nm.mk 2 0)), vF, ve (.tuple #[vv (Vl.mk (numberedV (Nm.mk 2 0) false).1 (numberedV (Nm.mk 2 0) false).2.1.k (numberedV (Nm.mk 2 0) false).2.1.n false [] [] 0) none 0 none 0, iv ((numberedV (Nm.mk 2 0) false).2.2)]), ve (vv (Vl.mk (numberedV (Nm.mk 2 0) false).1 (numberedV (Nm.mk 2 0) false).2.1.k (numberedV (Nm.mk 2 0) false).2.1.n false [] [] 0) none 0 none 0), ve (iv ((numberedV (Nm.mk 2 0) false).2.2)), vt, vt] bp (.eq (.eq (.eq (.eq (.eq (.eq (.eq (.eq (.eq (.eq (.tt (.tt (.nil))))))))))))) ?_ ?_
 exact .f (fun k => k.fx 8 ev) <| .t (fun _ w hn k => ⟨_, v_load rfl (k.eq1 0 74 rfl) (l_part Tryz.isAgg23 Tryz.sizeOf23 (c3.new_ hn) lb), rfl⟩) <| .f (fun k => k.fx 9 ew) <| .t (fun _ w hn k => ⟨_, v_load rfl (k.eq1 2 76 rfl) (l_part Tryz.isAgg23 Tryz.sizeOf23 (c5.new_ hn) lb), rfl⟩) <| .o1 (ck rfl rfl rfl (fun _ w hn k => ⟨#[nv (Nm.mk ((numericsV v u).1.nk) ((numericsV v u).1.nn)), nv (Nm.mk ((numericsV v u).2.1.nk) ((numericsV v u).2.1.nn))], args2 (k.eq1 1 75 rfl) (k.eq1 3 77 rfl), fun _ => by kernel_rfl, ndivS_c (Nm.mk ((numericsV v u).1.nk) ((numericsV v u).1.nn)) (Nm.mk ((numericsV v u).2.1.nk) ((numericsV v u).2.1.nn)) _ hX hY⟩) fun _ => rfl) <| .t (fun _ w hn k => ⟨_, v_extract rfl (k.eq1 4 78 rfl) rfl, rfl⟩) <| .t (fun _ w hn k => ⟨_, v_extract rfl (k.eq1 4 78 rfl) rfl, rfl⟩) <| .o1 (ck rfl rfl rfl (fun _ w hn k => ⟨#[nv (Nm.mk 2 0), .bool false], args2 (k.eq1 5 79 rfl) (k.eq1 6 80 rfl), fun _ => by kernel_rfl, numbered_c (Nm.mk 2 0) false _ ⟩) fun _ => rfl) <| .t (fun _ w hn k => ⟨_, v_extract rfl (k.eq1 7 81 rfl) rfl, rfl⟩) <| .t (fun _ w hn k => ⟨_, v_extract rfl (k.eq1 7 81 rfl) rfl, rfl⟩) <| .off <| .off .nil
 refine aftI bp cZ c0 fun bJ fW bq c9 da db aZ => ?_
 have bK := aZ.fx 6 eu
 have bL := aZ.ge 8 82 rfl
 have bM := aZ.ge 9 83 rfl
 have dc := c1.new_ db
 obtain ⟨ey, bN, bO, dd, fe⟩ := s_many (P := Tryz.prog) (t := 29) (i := 0) [iv ((numberedV (Nm.mk 2 0) false).1), iv ((numberedV (Nm.mk 2 0) false).2.1.k), iv ((numberedV (Nm.mk 2 0) false).2.1.n), .bool false, sv none ([]) 0, sv none ([]) 0, iv 0] Tryz.sizeOf29 rfl rfl rfl dc lb
 have de : Blk ey a1 29 [iv ((numberedV (Nm.mk 2 0) false).1), iv ((numberedV (Nm.mk 2 0) false).2.1.k), iv ((numberedV (Nm.mk 2 0) false).2.1.n), .bool false, sv none ([]) 0, sv none ([]) 0, iv 0] := bO
 refine st_act rfl rfl fun fX df => a_store' rfl bK bL bN (df _ _ trivial ?_)
 have dg := da.trans dd (fun _ h b => by subst b; omega)
 refine st_take rfl rfl (y_assign (v := iv ((numberedV (Nm.mk 2 0) false).2.2)) rfl bM) rfl ?_
 obtain ⟨ez, ar⟩ : ∃ a', a' = bJ.put (some 7) (iv ((numberedV (Nm.mk 2 0) false).2.2)) := ⟨_, rfl⟩
 have ff := pz ar bq
 have dh := pd ar c9
 have eA := pn ar bK (by decide)
 have fY := pn ar bL (by decide)
 have fZ := pn ar bM (by decide)
 have eB : ez.eval (.tmp 7) = iv ((numberedV (Nm.mk 2 0) false).2.2) := by rw [ar]; exact put_same _ _ _ (by rw [bq]; decide)
 show stepsTo _ _ _ _ _ (bJ.put (some 7) (iv ((numberedV (Nm.mk 2 0) false).2.2))) _
 rw [← ar]
 refine st_nil (c7 _ _ ?_)
 refine wp_ret (ret_k dh (v := .tuple #[vv (Vl.mk (numberedV (Nm.mk 2 0) false).1 (numberedV (Nm.mk 2 0) false).2.1.k (numberedV (Nm.mk 2 0) false).2.1.n false [] [] 0) none 0 none 0, iv ((numberedV (Nm.mk 2 0) false).2.2)]) (res_ct rfl eA eB (l_agg Tryz.isAgg29 Tryz.sizeOf29 de rfl)) ?_)
 refine ⟨?_, dg⟩
 show Ending.returned (.tuple #[vv (Vl.mk (numberedV (Nm.mk 2 0) false).1 (numberedV (Nm.mk 2 0) false).2.1.k (numberedV (Nm.mk 2 0) false).2.1.n false [] [] 0) none 0 none 0, iv ((numberedV (Nm.mk 2 0) false).2.2)]) = Ending.returned (.tuple #[vv (Vl.mk 0 0 0 false [] [] 0) none 0 none 0, iv 3])
 first | rfl | (simp only [aW, aX, aX, aY, bsm] <;> rfl) | (exfalso; omega)
theorem bDiv0_c (a : Bool) (Aa : Option Addr) (ma : List Nat) (ca : Nat) (b : Bool) (Ab : Option Addr) (mb : List Nat) (cb : Nat) (w : World) (hra : SRow w .u32 Aa ma ca) (hrb : SRow w .u32 Ab mb cb) (ha : Limbs ma) (hb : Limbs mb) (hsa : ma.length ≤ 1000000) (hsb : mb.length ≤ 1000000) (aQ : goodI b mb = 0) : Calls Tryz.prog 144 #[.agg #[.bool a, sv Aa ma ca], .agg #[.bool b, sv Ab mb cb]] w (IsRet (.tuple #[.agg #[.bool false, sv none ([]) 0], iv 4]) w) := by
 refine enter_abs Tryz.func144 rfl fun a0 ae aR hp => ?_
 have ae : a0.tmps.size = 28 := ae
 have af : New w w := Upd.refl _ _
 have hp0 : a0.eval (.tmp 0) = .agg #[.bool a, sv Aa ma ca] := hp 0 _ rfl
 have hp1 : a0.eval (.tmp 1) = .agg #[.bool b, sv Ab mb cb] := hp 1 _ rfl
 refine wp_seq_k fun K1 aS => ?_
 refine wp_g [true, true, true, true] [] [] 28
   [IsNew w 26 [.bool a, sv Aa ma ca], IsNew w 26 [.bool b, sv Ab mb cb], IsNew w 26 [.bool false, sv none ([]) 0], ve (iv 0)]
   [0, 1, 2] (newsCons (fun v w h => IsNew.old h) (newsCons (fun v w h => IsNew.old h) (newsCons (fun v w h => IsNew.old h) newsNil))) ae (.nw (.nw (.nw (.eq (.nil))))) ?_ (fun i h => by cases h) ?_
 exact .o2 (step_allocN (cs := [.bool a, sv Aa ma ca]) (t := 26) rfl (noG rfl) (fun _ w hn k => v_box rfl (k.fx 0 hp0) (fun w => rfl)) (fun q _ hq hb => ⟨q, rfl, hq, hb⟩)) <| .o2 (step_allocN (cs := [.bool b, sv Ab mb cb]) (t := 26) rfl (noG rfl) (fun _ w hn k => v_box rfl (k.fx 1 hp1) (fun w => rfl)) (fun q _ hq hb => ⟨q, rfl, hq, hb⟩)) <| .o2 (step_allocN (cs := [.bool false, sv none ([]) 0]) (t := 26) rfl (noG rfl) (fun _ w hn k => rfl) (fun q _ hq hb => ⟨q, rfl, hq, hb⟩)) <| .t (fun _ w hn k => ⟨_, v_assign rfl rfl, rfl⟩) .nil
 refine aftI ae aR af fun a2 w3 ap aT ag bb ac => ?_
 obtain ⟨q9, h8, aw, ax⟩ : IsNew _ _ _ _ _ := ac.got 0 2 rfl (by kernel_rfl)
 obtain ⟨aU, ah, ay, ai⟩ : IsNew _ _ _ _ _ := ac.got 1 3 rfl (by kernel_rfl)
 obtain ⟨aq, aj, az, aA⟩ : IsNew _ _ _ _ _ := ac.got 2 4 rfl (by kernel_rfl)
 have hne20 : q9 ≠ aq := ac.ne 0 2 2 4 h8 aj
 have hne21 : aU ≠ aq := ac.ne 1 2 3 4 ah aj
 have a3 := Nat.le_trans af.size aw
 have a4 := Nat.le_trans af.size ay
 have a5 := Nat.le_trans af.size az
 refine st_nil (aS _ _ (wp_seq_k fun bd a6 => ?_))
 refine wp_seq_k fun be aB => ?_
 refine wp_g0 [true, true, true, true] [] 28
   [ve (.agg #[.bool b, sv Ab mb cb]),
    (OP w3.heap.size 56 .u32 (canon (goodI b mb).natAbs)), ve (iv ((canon (goodI b mb).natAbs).length : Int)), ve (.bool (decide (((canon (goodI b mb).natAbs).length : Int) = 0)))] ap (.eq (.cons (fun _ _ _ n ⟨_, _, e, h⟩ => ⟨_, _, e, h.new_ n⟩) (.eq (.eq (.nil))))) ?_ ?_
 refine .t (fun _ w hn k => ⟨_, v_load rfl (k.fx 3 ah) (l_two Tryz.isAgg26 Tryz.sizeOf26 (ai.new_ hn)), rfl⟩) ?_
 refine .o1 (tkC rfl (noG rfl) rfl fun _ w hn k => (by
       refine ⟨#[.agg #[.bool b, sv Ab mb cb]], _, args1 (k.eq1 0 8 rfl), fun w => by kernel_rfl, bmag_c b _ mb _ _ (hrb.new_ (ag.transNew hn)) hb (by first | omega | (simp only [List.length_nil, List.length_take, List.length_drop]; omega) | (simp only [List.length_cons, List.length_nil]; omega)), ?_⟩
       rintro e w' ⟨A1, c2, rfl, hmo0, hm⟩
       exact ⟨_, rfl, hm, ⟨A1, c2, rfl, (hmo0.more hn.size)⟩⟩)) ?_
 refine .o1 (tk rfl rfl fun _ w hn k => (by
       obtain ⟨A5, c6, e7, bf⟩ : (OP w3.heap.size 56 .u32 (canon (goodI b mb).natAbs)) _ _ := k.dep 1 9 (by kernel_rfl) (by kernel_rfl)
       exact ⟨_, v_lenR rfl elW e7, rfl⟩)) ?_
 exact .t (fun _ w hn k => ⟨_, v_bin rfl (k.eq1 2 10 rfl) rfl (fun _ => rfl) (r_eql rfl), rfl⟩) .nil
 refine aftI ap aT ag fun bg bh ak aC aD ad ab => ?_
 have bi := ab.fx 2 h8
 have bj := ab.fx 3 ah
 have aV := ab.fx 4 aj
 have aW := ab.ge 3 11 rfl
 have a7 := ax.new_ ad
 have a8 := ai.new_ ad
 have aE := aA.new_ ad
 refine st_nil (aB _ _ ?_)
 have al : (decide (((canon (goodI b mb).natAbs).length : Int) = 0)) = true := decide_eq_true (by rw [aQ, Int.natAbs_zero, canon_zero]; rfl)
 have a1 := oT al
 have aF := hB aW al
 refine wp_cond_true aF ?_
 refine wp_seq_k fun bk aG => ?_
 refine wp_g0 [true, false, false] [(1, false), (2, true)] 28
   [ve (.agg #[.bool false, sv none ([]) 0]), vt, vt] ak (.eq (.tt (.tt (.nil)))) ?_ ?_
 exact .t (fun _ w hn k => ⟨_, v_build (ps := []) rfl parts0 (by kernel_rfl), rfl⟩) <| .off <| .off .nil
 refine aftI ak aC aD fun ar bl am aH aI aJ an => ?_
 have au := an.fx 4 aV
 have av := an.ge 0 12 rfl
 have aK := aE.new_ aJ
 obtain ⟨bm, -, ao, aL, aM, a9⟩ := s_two (v0 := .bool false) (v1 := sv none ([]) 0) Tryz.sizeOf26 rfl rfl rfl aK
 refine st_act rfl rfl fun bn aN => a_store' rfl au av ao (aN _ _ trivial ?_)
 have aO := aI.trans aM (fun _ h b => by subst b; omega)
 refine st_take rfl rfl (y_assign (v := iv 4) rfl rfl) rfl ?_
 obtain ⟨aX, aa⟩ : ∃ a', a' = ar.put (some 5) (iv 4) := ⟨_, rfl⟩
 have ba := pz aa am
 have aP := pd aa aH
 have aY := pn aa au (by decide)
 have bo := pn aa av (by decide)
 have aZ : aX.eval (.tmp 5) = iv 4 := by rw [aa]; exact put_same _ _ _ (by rw [am]; decide)
 show stepsTo _ _ _ _ _ (ar.put (some 5) (iv 4)) _
 rw [← aa]
 refine st_nil (aG _ _ ?_)
 refine wp_ret (ret_k aP (v := .tuple #[.agg #[.bool false, sv none ([]) 0], iv 4]) (res_ct rfl aY aZ (l_two Tryz.isAgg26 Tryz.sizeOf26 aL)) ?_)
 exact ⟨rfl, aO⟩
theorem bigsD0_c  (a : Bool) (Aa : Option Addr) (ma : List Nat) (ca : Nat) (b : Bool) (Ab : Option Addr) (mb : List Nat) (cb : Nat) (w : World) (hra : SRow w .u32 Aa ma ca) (hrb : SRow w .u32 Ab mb cb) (ha : Limbs ma) (hb : Limbs mb) (hsa : ma.length ≤ 1000000) (hsb : mb.length ≤ 1000000) (cB : goodI b mb = 0) : Calls Tryz.prog 75 #[.string ⟨#[47]⟩, .agg #[.bool a, sv Aa ma ca], .agg #[.bool b, sv Ab mb cb]] w (IsRet (.tuple #[vv (Vl.mk 0 0 0 false [] [] 0) none 0 none 0, iv 2]) w) := by
 refine enter_abs Tryz.func75 rfl fun a0 ay cC hp => ?_
 have ay : a0.tmps.size = 60 := ay
 have az : New w w := Upd.refl _ _
 have hp0 : a0.eval (.tmp 0) = .string ⟨#[47]⟩ := hp 0 _ rfl
 have hp1 : a0.eval (.tmp 1) = .agg #[.bool a, sv Aa ma ca] := hp 1 _ rfl
 have hp2 : a0.eval (.tmp 2) = .agg #[.bool b, sv Ab mb cb] := hp 2 _ rfl
 refine wp_seq_k fun K1 cD => ?_
 refine wp_g [true, true, true, true] [] [] 60
   [IsNew w 26 [.bool a, sv Aa ma ca], IsNew w 26 [.bool b, sv Ab mb cb], IsNew w 29 [iv 0, iv 0, iv 0, .bool false, sv none ([]) 0, sv none ([]) 0, iv 0], ve (iv 0)]
   [0, 1, 2] (newsCons (fun v w h => IsNew.old h) (newsCons (fun v w h => IsNew.old h) (newsCons (fun v w h => IsNew.old h) newsNil))) ay (.nw (.nw (.nw (.eq (.nil))))) ?_ (fun i h => by cases h) ?_
 exact .o2 (step_allocN (cs := [.bool a, sv Aa ma ca]) (t := 26) rfl (noG rfl) (fun _ w hn k => v_box rfl (k.fx 1 hp1) (fun w => rfl)) (fun q _ hq hb => ⟨q, rfl, hq, hb⟩)) <| .o2 (step_allocN (cs := [.bool b, sv Ab mb cb]) (t := 26) rfl (noG rfl) (fun _ w hn k => v_box rfl (k.fx 2 hp2) (fun w => rfl)) (fun q _ hq hb => ⟨q, rfl, hq, hb⟩)) <| .o2 (step_allocN (cs := [iv 0, iv 0, iv 0, .bool false, sv none ([]) 0, sv none ([]) 0, iv 0]) (t := 29) rfl (noG rfl) (fun _ w hn k => rfl) (fun q _ hq hb => ⟨q, rfl, hq, hb⟩)) <| .t (fun _ w hn k => ⟨_, v_assign rfl rfl, rfl⟩) .nil
 refine aftI ay cC az fun a2 w3 bz cE bI ds ak => ?_
 have h8 := ak.fx 0 hp0
 obtain ⟨bA, h9, bJ, bK⟩ : IsNew _ _ _ _ _ := ak.got 0 4 rfl (by kernel_rfl)
 obtain ⟨bB, bC, bL, bM⟩ : IsNew _ _ _ _ _ := ak.got 1 5 rfl (by kernel_rfl)
 obtain ⟨aA, aH, bN, bO⟩ : IsNew _ _ _ _ _ := ak.got 2 6 rfl (by kernel_rfl)
 have hne21 : bA ≠ aA := ak.ne 0 2 4 6 h9 aH
 have hne22 : bB ≠ aA := ak.ne 1 2 5 6 bC aH
 have c5 := Nat.le_trans az.size bJ
 have c6 := Nat.le_trans az.size bL
 have c7 := Nat.le_trans az.size bN
 refine st_nil (cD _ _ (wp_seq_k fun dt bP => ?_))
 refine wp_seq_k fun du bQ => ?_
 refine wp_g0 [true] [] 60
   [ve (.string ⟨#[47]⟩)] bz (.eq (.nil)) ?_ ?_
 exact .m (fun k => k.fx 0 h8) .nil
 refine aftI bz cE bI fun dv dw aI bR bS ao ai => ?_
 have cF := ai.fx 0 h8
 have cG := ai.fx 4 h9
 have cH := ai.fx 5 bC
 have cI := ai.fx 6 aH
 have bD := ai.ge 0 10 rfl
 have bT := bK.new_ ao
 have bU := bM.new_ ao
 have bV := bO.new_ ao
 refine st_nil (bQ _ _ ?_)
 refine wp_block ?_
 refine wp_seq_k fun dx bW => ?_
 refine wp_g0 [true, true] [] 60
   [vF, vF] aI (.eq (.eq (.nil))) ?_ ?_
 exact .t (fun _ w hn k => ⟨_, v_bin rfl (k.fx 10 bD) rfl (fun _ => rfl) (r_eqlS (r := false) (by kernel_rfl)), rfl⟩) <| .a (fun k => k.eq1 0 12 rfl) .nil
 refine aftI aI bR bS fun dy dz aJ bX bY ap ae => ?_
 have cJ := ae.fx 0 cF
 have cK := ae.fx 4 cG
 have cL := ae.fx 5 cH
 have cM := ae.fx 6 cI
 have bE := ae.fx 10 bD
 have cN := ae.ge 1 11 rfl
 have bZ := bT.new_ ap
 have b0 := bU.new_ ap
 have b1 := bV.new_ ap
 refine st_nil (bW _ _ ?_)
 refine wp_cond_false cN ?_
 refine wp_seq_k fun dA b2 => ?_
 refine wp_g0 [true, true] [] 60
   [vF, vF] aJ (.eq (.eq (.nil))) ?_ ?_
 exact .t (fun _ w hn k => ⟨_, v_bin rfl (k.fx 10 bE) rfl (fun _ => rfl) (r_eqlS (r := false) (by kernel_rfl)), rfl⟩) <| .a (fun k => k.eq1 0 22 rfl) .nil
 refine aftI aJ bX bY fun dB dC aK b3 b4 aq af => ?_
 have cO := af.fx 0 cJ
 have cP := af.fx 4 cK
 have cQ := af.fx 5 cL
 have cR := af.fx 6 cM
 have cS := af.fx 10 bE
 have cT := af.ge 1 21 rfl
 have b5 := bZ.new_ aq
 have b6 := b0.new_ aq
 have b7 := b1.new_ aq
 refine st_nil (b2 _ _ ?_)
 refine wp_cond_false cT ?_
 refine wp_seq_k fun dD b8 => ?_
 refine wp_g0 [true, true] [] 60
   [vF, vF] aK (.eq (.eq (.nil))) ?_ ?_
 exact .t (fun _ w hn k => ⟨_, v_bin rfl (k.fx 10 cS) rfl (fun _ => rfl) (r_eqlS (r := false) (by kernel_rfl)), rfl⟩) <| .a (fun k => k.eq1 0 32 rfl) .nil
 refine aftI aK b3 b4 fun dE cU aL b9 al ar aj => ?_
 have cV := aj.fx 0 cO
 have bF := aj.fx 4 cP
 have bG := aj.fx 5 cQ
 have cW := aj.fx 6 cR
 have cX := aj.ge 1 31 rfl
 have au := b5.new_ ar
 have av := b6.new_ ar
 have aM := b7.new_ ar
 refine st_nil (b8 _ _ ?_)
 refine wp_cond_false cX ?_
 refine wp_skip ?_
 refine bP _ _ ?_
 refine wp_seq_k fun dF cc => ?_
 refine wp_g [true, true, true, true, true, true, true, false, false] [5] [(7, false), (8, true)] 60
   [ve (.agg #[.bool a, sv Aa ma ca]), ve (.agg #[.bool b, sv Ab mb cb]), ve (.tuple #[.agg #[.bool false, sv none ([]) 0], iv 4]), ve (.tuple #[.agg #[.bool false, sv none ([]) 0], iv 4]), ve (.agg #[.bool false, sv none ([]) 0]), ve (iv 4), IsNew cU 26 [.bool false, sv none ([]) 0], vt, vt]
   [6] (newsCons (fun v w h => IsNew.old h) newsNil) aL (.eq (.eq (.eq (.eq (.eq (.eq (.nw (.tt (.tt (.nil)))))))))) ?_ ?_ ?_
 refine .t (fun _ w hn k => ⟨_, v_load rfl (k.fx 4 bF) (l_two Tryz.isAgg26 Tryz.sizeOf26 (au.new_ hn)), rfl⟩) <| .t (fun _ w hn k => ⟨_, v_load rfl (k.fx 5 bG) (l_two Tryz.isAgg26 Tryz.sizeOf26 (av.new_ hn)), rfl⟩) <| .o1 (ck rfl rfl rfl (fun _ w hn k => ⟨#[.agg #[.bool a, sv Aa ma ca], .agg #[.bool b, sv Ab mb cb]], args2 (k.eq1 0 42 rfl) (k.eq1 1 43 rfl), fun _ => by kernel_rfl, bDiv0_c a _ ma _ b _ mb _ _ (hra.new_ (al.transNew hn)) (hrb.new_ (al.transNew hn)) ha hb (by first | omega | (simp only [List.length_nil, List.length_take, List.length_drop]; omega) | (simp only [List.length_cons, List.length_nil]; omega)) (by first | omega | (simp only [List.length_nil, List.length_take, List.length_drop]; omega) | (simp only [List.length_cons, List.length_nil]; omega)) cB⟩) fun _ => rfl) <| .m (fun k => k.eq1 2 44 rfl) <| .t (fun _ w hn k => ⟨_, v_extract rfl (k.eq1 3 41 rfl) rfl, rfl⟩) ?_
 refine .o3 ?_
 exact .o2 (step_allocN (cs := [.bool false, sv none ([]) 0]) (t := 26) rfl (noG rfl) (fun _ w hn k => rfl) (fun q _ hq hb => ⟨q, rfl, hq, hb⟩)) <| .off <| .off .nil
 intro i h
 simp only [List.contains_eq_mem, List.mem_cons, List.not_mem_nil, or_false, decide_eq_true_eq] at h
 subst h
 exact eager_take rfl rfl fun _ w hn k => ⟨iv 4, fun w => v_extract rfl (k.eq1 3 41 rfl) rfl, rfl⟩
 refine aftI aL b9 al fun bH dG aN aX aY aw ad => ?_
 have cd := ad.fx 0 cV
 have ce := ad.fx 4 bF
 have cf := ad.fx 5 bG
 have ch := ad.fx 6 cW
 have aO := ad.ge 4 45 rfl
 have aP := ad.ge 5 46 rfl
 obtain ⟨ax, aQ, ag, aZ⟩ : IsNew _ _ _ _ _ := ad.got 6 8 rfl (by kernel_rfl)
 have a1 := au.new_ aw
 have a3 := av.new_ aw
 have a4 := aM.new_ aw
 have hne114 : bA ≠ ax := by have h1 := au.lt; have h2 := ag; omega
 have hne115 : bB ≠ ax := by have h1 := av.lt; have h2 := ag; omega
 have hne116 : aA ≠ ax := by have h1 := aM.lt; have h2 := ag; omega
 have cY := Nat.le_trans al.size ag
 obtain ⟨c8, -, aR, a5, a6, am⟩ := s_two (v0 := .bool false) (v1 := sv none ([]) 0) Tryz.sizeOf26 rfl rfl rfl aZ
 refine st_act rfl rfl fun c9 a7 => a_store' rfl aQ aO aR (a7 _ _ trivial ?_)
 have a8 := am _ _ _ (hne114) a1
 have a9 := am _ _ _ (hne115) a3
 have ba := am _ _ _ (hne116) a4
 have bb := aY.trans a6 (fun _ h b => by subst b; omega)
 refine st_take rfl rfl (y_assign (v := iv 4) rfl aP) rfl ?_
 obtain ⟨ci, aa⟩ : ∃ a', a' = bH.put (some 9) (iv 4) := ⟨_, rfl⟩
 have aB := pz aa aN
 have bd := pd aa aX
 have cj := pn aa cd (by decide)
 have cl := pn aa ce (by decide)
 have cm := pn aa cf (by decide)
 have cn := pn aa ch (by decide)
 have da := pn aa aO (by decide)
 have db := pn aa aP (by decide)
 have co := pn aa aQ (by decide)
 have cp : ci.eval (.tmp 9) = iv 4 := by rw [aa]; exact put_same _ _ _ (by rw [aN]; decide)
 show stepsTo _ _ _ _ _ (bH.put (some 9) (iv 4)) _
 rw [← aa]
 refine st_nil (cc _ _ (wp_seq_k fun dc be => ?_))
 refine wp_seq_k fun dd bf => ?_
 refine wp_g0 [true, true] [] 60
   [ve (.string ⟨#[47]⟩), vF] aB (.eq (.eq (.nil))) ?_ ?_
 exact .m (fun k => k.fx 0 cj) <| .t (fun _ w hn k => ⟨_, v_bin rfl (k.eq1 0 47 rfl) rfl (fun _ => rfl) (r_eqlS (r := false) (by kernel_rfl)), rfl⟩) .nil
 refine aftI aB bd bb fun de df aC bg bh ah ab => ?_
 have dg := ab.fx 4 cl
 have dh := ab.fx 5 cm
 have cq := ab.fx 6 cn
 have cr := ab.fx 8 co
 have ct := ab.fx 9 cp
 have cu := ab.ge 1 48 rfl
 have cZ := a8.new_ ah
 have c0 := a9.new_ ah
 have bi := ba.new_ ah
 have bj := a5.new_ ah
 refine st_nil (bf _ _ ?_)
 refine wp_cond_false cu ?_
 refine wp_skip ?_
 refine be _ _ ?_
 refine wp_seq_k fun di c1 => ?_
 refine wp_seq_k fun dj bk => ?_
 refine wp_g0 [true, true] [] 60
   [ve (iv 4), vT] aC (.eq (.eq (.nil))) ?_ ?_
 exact .m (fun k => k.fx 9 ct) <| .t (fun _ w hn k => ⟨_, v_bin rfl (k.eq1 0 55 rfl) rfl (fun _ => rfl) (fun w => by kernel_rfl), rfl⟩) .nil
 refine aftI aC bg bh fun dk dl aD bl bm aE an => ?_
 have cv := an.fx 6 cq
 have dm := an.fx 8 cr
 have cw := an.ge 1 56 rfl
 have bn := bi.new_ aE
 have c2 := bj.new_ aE
 refine st_nil (bk _ _ ?_)
 refine wp_cond_true cw ?_
 refine wp_seq_k fun dn bo => ?_
 refine wp_g0 [true, false, false] [(1, false), (2, true)] 60
   [ve (vv (Vl.mk 0 0 0 false [] [] 0) none 0 none 0), vt, vt] aD (.eq (.tt (.tt (.nil)))) ?_ ?_
 exact .t (fun _ w hn k => ⟨_, v_build (ps := []) rfl parts0 (by kernel_rfl), rfl⟩) <| .off <| .off .nil
 refine aftI aD bl bm fun aS dp aF bp bq br aG => ?_
 have aT := aG.fx 6 cv
 have aU := aG.ge 0 57 rfl
 have bs := bn.new_ br
 obtain ⟨cx, aV, aW, bt, c3⟩ := s_many (P := Tryz.prog) (t := 29) (i := 0) [iv 0, iv 0, iv 0, .bool false, sv none ([]) 0, sv none ([]) 0, iv 0] Tryz.sizeOf29 rfl rfl rfl bs lb
 have bu : Blk cx aA 29 [iv 0, iv 0, iv 0, .bool false, sv none ([]) 0, sv none ([]) 0, iv 0] := aW
 refine st_act rfl rfl fun dq bv => a_store' rfl aT aU aV (bv _ _ trivial ?_)
 have bw := bq.trans bt (fun _ h b => by subst b; omega)
 refine st_take rfl rfl (y_assign (v := iv 2) rfl rfl) rfl ?_
 obtain ⟨cy, ac⟩ : ∃ a', a' = aS.put (some 7) (iv 2) := ⟨_, rfl⟩
 have c4 := pz ac aF
 have bx := pd ac bp
 have cz := pn ac aT (by decide)
 have dr := pn ac aU (by decide)
 have cA : cy.eval (.tmp 7) = iv 2 := by rw [ac]; exact put_same _ _ _ (by rw [aF]; decide)
 show stepsTo _ _ _ _ _ (aS.put (some 7) (iv 2)) _
 rw [← ac]
 refine st_nil (bo _ _ ?_)
 refine wp_ret (ret_k bx (v := .tuple #[vv (Vl.mk 0 0 0 false [] [] 0) none 0 none 0, iv 2]) (res_ct rfl cz cA (l_agg Tryz.isAgg29 Tryz.sizeOf29 bu rfl)) ?_)
 exact ⟨rfl, bw⟩
theorem sumsB_c  (v : Vl) (Av : Option Addr) (cv : Nat) (Bv : Option Addr) (dv : Nat) (u : Vl) (Au : Option Addr) (cu : Nat) (Bu : Option Addr) (du : Nat) (w : World) (hmv : SRow w .u32 Av v.mag cv) (hsv : SRow w .u16 Bv v.s dv) (hmu : SRow w .u32 Au u.mag cu) (hsu : SRow w .u16 Bu u.s du) (hvv : VOk v) (hvu : VOk u) (hns : (numericsV v u).2.2 = 0) (hk : (numericsV v u).1.k = 4) (c9 : goodI (numericsV v u).2.1.neg (numericsV v u).2.1.mag = 0) : Calls Tryz.prog 36 #[.string ⟨#[47]⟩, vv v Av cv Bv dv, vv u Au cu Bu du] w (IsRet (.tuple #[vv (Vl.mk 0 0 0 false [] [] 0) none 0 none 0, iv 2]) w) := by
 refine enter_abs Tryz.func36 rfl fun a0 aX da hp => ?_
 have aX : a0.tmps.size = 92 := aX
 have aY : New w w := Upd.refl _ _
 have hp0 : a0.eval (.tmp 0) = .string ⟨#[47]⟩ := hp 0 _ rfl
 have hp1 : a0.eval (.tmp 1) = vv v Av cv Bv dv := hp 1 _ rfl
 have hp2 : a0.eval (.tmp 2) = vv u Au cu Bu du := hp 2 _ rfl
 have ei := (VOk.numerics1 hvv hvu).mlen
 have ej := (VOk.numerics2 hvv hvu).mlen
 refine wp_seq_k fun K1 db => ?_
 refine wp_g [true, true, true, true] [] [] 92
   [IsNew w 29 [iv v.k, iv v.nk, iv v.nn, .bool v.neg, sv Av v.mag cv, sv Bv v.s dv, iv v.ref], IsNew w 29 [iv u.k, iv u.nk, iv u.nn, .bool u.neg, sv Au u.mag cu, sv Bu u.s du, iv u.ref], IsNew w 29 [iv 0, iv 0, iv 0, .bool false, sv none ([]) 0, sv none ([]) 0, iv 0], ve (iv 0)]
   [0, 1, 2] (newsCons (fun v w h => IsNew.old h) (newsCons (fun v w h => IsNew.old h) (newsCons (fun v w h => IsNew.old h) newsNil))) aX (.nw (.nw (.nw (.eq (.nil))))) ?_ (fun i h => by cases h) ?_
 exact .o2 (step_allocN (cs := [iv v.k, iv v.nk, iv v.nn, .bool v.neg, sv Av v.mag cv, sv Bv v.s dv, iv v.ref]) (t := 29) rfl (noG rfl) (fun _ w hn k => v_box rfl (k.fx 1 hp1) (fun w => rfl)) (fun q _ hq hb => ⟨q, rfl, hq, hb⟩)) <| .o2 (step_allocN (cs := [iv u.k, iv u.nk, iv u.nn, .bool u.neg, sv Au u.mag cu, sv Bu u.s du, iv u.ref]) (t := 29) rfl (noG rfl) (fun _ w hn k => v_box rfl (k.fx 2 hp2) (fun w => rfl)) (fun q _ hq hb => ⟨q, rfl, hq, hb⟩)) <| .o2 (step_allocN (cs := [iv 0, iv 0, iv 0, .bool false, sv none ([]) 0, sv none ([]) 0, iv 0]) (t := 29) rfl (noG rfl) (fun _ w hn k => rfl) (fun q _ hq hb => ⟨q, rfl, hq, hb⟩)) <| .t (fun _ w hn k => ⟨_, v_assign rfl rfl, rfl⟩) .nil
 refine aftI aX da aY fun a2 w3 b4 dc ao ek aN => ?_
 have h8 := aN.fx 0 hp0
 obtain ⟨dd, h9, b7, b8⟩ : IsNew _ _ _ _ _ := aN.got 0 4 rfl (by kernel_rfl)
 obtain ⟨de, b5, b9, ca⟩ : IsNew _ _ _ _ _ := aN.got 1 5 rfl (by kernel_rfl)
 obtain ⟨aQ, bb, cb, aU⟩ : IsNew _ _ _ _ _ := aN.got 2 6 rfl (by kernel_rfl)
 have hne21 : dd ≠ aQ := aN.ne 0 2 4 6 h9 bb
 have hne22 : de ≠ aQ := aN.ne 1 2 5 6 b5 bb
 have dP := Nat.le_trans aY.size b7
 have dQ := Nat.le_trans aY.size b9
 have dR := Nat.le_trans aY.size cb
 refine st_nil (db _ _ (wp_seq_k fun el cc => ?_))
 refine wp_gS (fun W => True) (fun W W' hn h => trivial) trivial [true, true, true, true, true, true, true, true, true, false, false, false] [5, 6] [(9, false), (10, false), (11, true)] 92
   [ve (vv v Av cv Bv dv), ve (vv u Au cu Bu du), (fun (v_ : Value) (W : World) => ∃ (A9 : Option Addr) (aq : Nat) (ar : Option Addr) (au : Nat) (av : Option Addr) (aw : Nat) (ax : Option Addr) (ay : Nat), v_ = .tuple #[vv (numericsV v u).1 A9 aq ar au, vv (numericsV v u).2.1 av aw ax ay, iv ((numericsV v u).2.2)] ∧ SRow W .u32 A9 ((numericsV v u).1.mag) aq ∧ SRow W .u16 ar ((numericsV v u).1.s) au ∧ SRow W .u32 av ((numericsV v u).2.1.mag) aw ∧ SRow W .u16 ax ((numericsV v u).2.1.s) ay), (fun (v_ : Value) (W : World) => ∃ (ab : Option Addr) (ac : Nat) (ad : Option Addr) (ae : Nat) (af : Option Addr) (ag : Nat) (ah : Option Addr) (ai : Nat), v_ = .tuple #[vv (numericsV v u).1 ab ac ad ae, vv (numericsV v u).2.1 af ag ah ai, iv ((numericsV v u).2.2)] ∧ SRow W .u32 ab ((numericsV v u).1.mag) ac ∧ SRow W .u16 ad ((numericsV v u).1.s) ae ∧ SRow W .u32 af ((numericsV v u).2.1.mag) ag ∧ SRow W .u16 ah ((numericsV v u).2.1.s) ai), (fun (v_ : Value) (W : World) => ∃ (az : Option Addr) (aA : Nat) (aB : Option Addr) (aC : Nat), v_ = vv (numericsV v u).1 az aA aB aC ∧ SRow W .u32 az ((numericsV v u).1.mag) aA ∧ SRow W .u16 aB ((numericsV v u).1.s) aC), (fun (v_ : Value) (W : World) => ∃ (aD : Option Addr) (aE : Nat) (aF : Option Addr) (aG : Nat), v_ = vv (numericsV v u).2.1 aD aE aF aG ∧ SRow W .u32 aD ((numericsV v u).2.1.mag) aE ∧ SRow W .u16 aF ((numericsV v u).2.1.s) aG), ve (iv ((numericsV v u).2.2)), IsNew w3 29 [iv 0, iv 0, iv 0, .bool false, sv none ([]) 0, sv none ([]) 0, iv 0], IsNew w3 29 [iv 0, iv 0, iv 0, .bool false, sv none ([]) 0, sv none ([]) 0, iv 0], vt, vt, vt]
   [7, 8] (newsCons (fun v w h => IsNew.old h) (newsCons (fun v w h => IsNew.old h) newsNil)) b4 (.eq (.eq (.cons (fun v W W' hn ⟨A9, aq, ar, au, av, aw, ax, ay, he, h0, h1, h2, h3⟩ => ⟨A9, aq, ar, au, av, aw, ax, ay, he, h0.new_ hn, h1.new_ hn, h2.new_ hn, h3.new_ hn⟩) (.cons (fun v W W' hn ⟨ab, ac, ad, ae, af, ag, ah, ai, he, h0, h1, h2, h3⟩ => ⟨ab, ac, ad, ae, af, ag, ah, ai, he, h0.new_ hn, h1.new_ hn, h2.new_ hn, h3.new_ hn⟩) (.cons (fun v W W' hn ⟨az, aA, aB, aC, he, h0, h1⟩ => ⟨az, aA, aB, aC, he, h0.new_ hn, h1.new_ hn⟩) (.cons (fun v W W' hn ⟨aD, aE, aF, aG, he, h0, h1⟩ => ⟨aD, aE, aF, aG, he, h0.new_ hn, h1.new_ hn⟩) (.eq (.nw (.nw (.tt (.tt (.tt (.nil))))))))))))) ?_ ?_ ?_
 refine .t (fun _ w hn k => ⟨_, v_load rfl (k.fx 4 h9) (l_agg Tryz.isAgg29 Tryz.sizeOf29 (b8.new_ hn) rfl), rfl⟩) <| .t (fun _ w hn k => ⟨_, v_load rfl (k.fx 5 b5) (l_agg Tryz.isAgg29 Tryz.sizeOf29 (ca.new_ hn) rfl), rfl⟩) ?_
 refine .o1 (tkC rfl (noG rfl) rfl fun _ w hn k => (by
       refine ⟨#[vv v Av cv Bv dv, vv u Au cu Bu du], _, args2 (k.eq1 0 12 rfl) (k.eq1 1 13 rfl), fun w => by kernel_rfl, numerics_c v _ _ _ _ u _ _ _ _ _ (hmv.new_ (ao.transNew hn)) (hsv.new_ (ao.transNew hn)) (hmu.new_ (ao.transNew hn)) (hsu.new_ (ao.transNew hn)) hvv hvu, ?_⟩
       rintro e w' ⟨A1, c2, A3, c4, A5, c6, A7, c8, rfl, hmo0, hmo1, hmo2, hmo3, hm⟩
       exact ⟨_, rfl, hm, ⟨A1, c2, A3, c4, A5, c6, A7, c8, rfl, hmo0, hmo1, hmo2, hmo3⟩⟩)) ?_
 refine .o1 (tk rfl rfl fun _ w hn k => (by
       obtain ⟨df, dg, dh, di, dj, dk, dl, dm, dn, cd, ce, cf, ch⟩ : (fun (v_ : Value) (W : World) => ∃ (A9 : Option Addr) (aq : Nat) (ar : Option Addr) (au : Nat) (av : Option Addr) (aw : Nat) (ax : Option Addr) (ay : Nat), v_ = .tuple #[vv (numericsV v u).1 A9 aq ar au, vv (numericsV v u).2.1 av aw ax ay, iv ((numericsV v u).2.2)] ∧ SRow W .u32 A9 ((numericsV v u).1.mag) aq ∧ SRow W .u16 ar ((numericsV v u).1.s) au ∧ SRow W .u32 av ((numericsV v u).2.1.mag) aw ∧ SRow W .u16 ax ((numericsV v u).2.1.s) ay) _ _ := k.dep 2 14 (by kernel_rfl) (by kernel_rfl)
       exact ⟨_, v_move rfl dn, ⟨df, dg, dh, di, dj, dk, dl, dm, rfl, cd, ce, cf, ch⟩⟩)) ?_
 refine .o1 (tk rfl rfl fun _ w hn k => (by
       obtain ⟨dp, dq, aR, dr, em, en, aO, eo, ds, ci, cj, dS, dT⟩ : (fun (v_ : Value) (W : World) => ∃ (ab : Option Addr) (ac : Nat) (ad : Option Addr) (ae : Nat) (af : Option Addr) (ag : Nat) (ah : Option Addr) (ai : Nat), v_ = .tuple #[vv (numericsV v u).1 ab ac ad ae, vv (numericsV v u).2.1 af ag ah ai, iv ((numericsV v u).2.2)] ∧ SRow W .u32 ab ((numericsV v u).1.mag) ac ∧ SRow W .u16 ad ((numericsV v u).1.s) ae ∧ SRow W .u32 af ((numericsV v u).2.1.mag) ag ∧ SRow W .u16 ah ((numericsV v u).2.1.s) ai) _ _ := k.dep 3 11 (by kernel_rfl) (by kernel_rfl)
       exact ⟨_, v_extract rfl ds rfl, ⟨dp, dq, aR, dr, rfl, ci, cj⟩⟩)) ?_
 refine .o3 ?_
 refine .o3 ?_
 exact .o2 (step_allocN (cs := [iv 0, iv 0, iv 0, .bool false, sv none ([]) 0, sv none ([]) 0, iv 0]) (t := 29) rfl (noG rfl) (fun _ w hn k => rfl) (fun q _ hq hb => ⟨q, rfl, hq, hb⟩)) <| .o2 (step_allocN (cs := [iv 0, iv 0, iv 0, .bool false, sv none ([]) 0, sv none ([]) 0, iv 0]) (t := 29) rfl (noG rfl) (fun _ w hn k => rfl) (fun q _ hq hb => ⟨q, rfl, hq, hb⟩)) <| .off <| .off <| .off .nil
 intro i h
 simp only [List.contains_eq_mem, List.mem_cons, List.not_mem_nil, or_false, decide_eq_true_eq] at h
 rcases h with rfl | rfl
 exact eager_takeG rfl (noG rfl) fun _ w hn k => (by
     obtain ⟨ep, er, es, et, dt, dw, dx, dy, dz, dU, dV, cl, cm⟩ : (fun (v_ : Value) (W : World) => ∃ (ab : Option Addr) (ac : Nat) (ad : Option Addr) (ae : Nat) (af : Option Addr) (ag : Nat) (ah : Option Addr) (ai : Nat), v_ = .tuple #[vv (numericsV v u).1 ab ac ad ae, vv (numericsV v u).2.1 af ag ah ai, iv ((numericsV v u).2.2)] ∧ SRow W .u32 ab ((numericsV v u).1.mag) ac ∧ SRow W .u16 ad ((numericsV v u).1.s) ae ∧ SRow W .u32 af ((numericsV v u).2.1.mag) ag ∧ SRow W .u16 ah ((numericsV v u).2.1.s) ai) _ _ := k.dep 3 11 (by kernel_rfl) (by kernel_rfl)
     exact ⟨_, fun w hS => v_extract rfl dz rfl, ⟨dt, dw, dx, dy, rfl, cl, cm⟩⟩)
 exact eager_takeG rfl (noG rfl) fun _ w hn k => (by
     obtain ⟨eu, ev, ew, ex, ey, ez, eA, eB, dA, dW, dX, dY, dZ⟩ : (fun (v_ : Value) (W : World) => ∃ (ab : Option Addr) (ac : Nat) (ad : Option Addr) (ae : Nat) (af : Option Addr) (ag : Nat) (ah : Option Addr) (ai : Nat), v_ = .tuple #[vv (numericsV v u).1 ab ac ad ae, vv (numericsV v u).2.1 af ag ah ai, iv ((numericsV v u).2.2)] ∧ SRow W .u32 ab ((numericsV v u).1.mag) ac ∧ SRow W .u16 ad ((numericsV v u).1.s) ae ∧ SRow W .u32 af ((numericsV v u).2.1.mag) ag ∧ SRow W .u16 ah ((numericsV v u).2.1.s) ai) _ _ := k.dep 3 11 (by kernel_rfl) (by kernel_rfl)
     exact ⟨_, fun w hS => v_extract rfl dA rfl, rfl⟩)
 intro aZ eC _ bd aj
 obtain ⟨be, cn, co⟩ := aft aj b4 dc ao bd
 have dB := aj.fx 0 h8
 have dC := aj.fx 6 bb
 obtain ⟨aS, aH, aR, aV, a1, cp, cq⟩ : (fun (v_ : Value) (W : World) => ∃ (az : Option Addr) (aA : Nat) (aB : Option Addr) (aC : Nat), v_ = vv (numericsV v u).1 az aA aB aC ∧ SRow W .u32 az ((numericsV v u).1.mag) aA ∧ SRow W .u16 aB ((numericsV v u).1.s) aC) _ _ := aj.got 4 15 rfl (by kernel_rfl)
 have a1 : aZ.eval (.tmp 15) = vv (numericsV v u).1 aS aH aR aV := a1
 obtain ⟨aO, aI, bf, aW, a3, cr, ct⟩ : (fun (v_ : Value) (W : World) => ∃ (aD : Option Addr) (aE : Nat) (aF : Option Addr) (aG : Nat), v_ = vv (numericsV v u).2.1 aD aE aF aG ∧ SRow W .u32 aD ((numericsV v u).2.1.mag) aE ∧ SRow W .u16 aF ((numericsV v u).2.1.s) aG) _ _ := aj.got 5 16 rfl (by kernel_rfl)
 have a3 : aZ.eval (.tmp 16) = vv (numericsV v u).2.1 aO aI bf aW := a3
 have b6 := aj.ge 6 17 rfl
 obtain ⟨aT, bg, bh, aJ⟩ : IsNew _ _ _ _ _ := aj.got 7 8 rfl (by kernel_rfl)
 obtain ⟨a4, bi, bj, cw⟩ : IsNew _ _ _ _ _ := aj.got 8 9 rfl (by kernel_rfl)
 have cx := aU.new_ bd
 have hne60 : aT ≠ a4 := aj.ne 7 8 8 9 bg bi
 have hne61 : aQ ≠ aT := by have h1 := aU.lt; have h2 := bh; omega
 have hne62 : aQ ≠ a4 := by have h1 := aU.lt; have h2 := bj; omega
 have d0 := Nat.le_trans ao.size bh
 have d1 := Nat.le_trans ao.size bj
 obtain ⟨dD, bv, bw, aK, bk⟩ := s_many (P := Tryz.prog) (t := 29) (i := 0) [iv ((numericsV v u).1.k), iv ((numericsV v u).1.nk), iv ((numericsV v u).1.nn), .bool ((numericsV v u).1.neg), sv aS ((numericsV v u).1.mag) aH, sv aR ((numericsV v u).1.s) aV, iv ((numericsV v u).1.ref)] Tryz.sizeOf29 rfl rfl rfl aJ lb
 have cy : Blk dD aT 29 [iv ((numericsV v u).1.k), iv ((numericsV v u).1.nk), iv ((numericsV v u).1.nn), .bool ((numericsV v u).1.neg), sv aS ((numericsV v u).1.mag) aH, sv aR ((numericsV v u).1.s) aV, iv ((numericsV v u).1.ref)] := bw
 refine st_act rfl rfl fun eD cz => a_store' rfl bg a1 bv (cz _ _ trivial ?_)
 have cA := cp.far aJ aK (by first | rfl | decide | simp [notK])
 have cB := cq.far aJ aK (by first | rfl | decide | simp [notK])
 have cC := cr.far aJ aK (by first | rfl | decide | simp [notK])
 have cD := ct.far aJ aK (by first | rfl | decide | simp [notK])
 have cE := bk _ _ _ (hne61) cx
 have aL := bk _ _ _ (fun h => hne60 h.symm) cw
 have cF := co.trans aK (fun _ h b => by subst b; omega)
 obtain ⟨dE, bx, bz, aM, bl⟩ := s_many (P := Tryz.prog) (t := 29) (i := 0) [iv ((numericsV v u).2.1.k), iv ((numericsV v u).2.1.nk), iv ((numericsV v u).2.1.nn), .bool ((numericsV v u).2.1.neg), sv aO ((numericsV v u).2.1.mag) aI, sv bf ((numericsV v u).2.1.s) aW, iv ((numericsV v u).2.1.ref)] Tryz.sizeOf29 rfl rfl rfl aL lb
 have cG : Blk dE a4 29 [iv ((numericsV v u).2.1.k), iv ((numericsV v u).2.1.nk), iv ((numericsV v u).2.1.nn), .bool ((numericsV v u).2.1.neg), sv aO ((numericsV v u).2.1.mag) aI, sv bf ((numericsV v u).2.1.s) aW, iv ((numericsV v u).2.1.ref)] := bz
 refine st_act rfl rfl fun eE cH => a_store' rfl bi a3 bx (cH _ _ trivial ?_)
 have cI := cA.far aL aM (by first | rfl | decide | simp [notK])
 have cJ := cB.far aL aM (by first | rfl | decide | simp [notK])
 have cK := cC.far aL aM (by first | rfl | decide | simp [notK])
 have cL := cD.far aL aM (by first | rfl | decide | simp [notK])
 have cM := bl _ _ _ (hne62) cE
 have cN := bl _ _ _ (hne60) cy
 have cO := cF.trans aM (fun _ h b => by subst b; omega)
 refine st_take rfl rfl (y_assign (v := iv ((numericsV v u).2.2)) rfl b6) rfl ?_
 obtain ⟨dF, aa⟩ : ∃ a', a' = aZ.put (some 10) (iv ((numericsV v u).2.2)) := ⟨_, rfl⟩
 have bm := pz aa be
 have cP := pd aa cn
 have dG := pn aa dB (by decide)
 have dH := pn aa dC (by decide)
 have d2 := pn aa a1 (by decide)
 have d3 := pn aa a3 (by decide)
 have d4 := pn aa b6 (by decide)
 have cQ := pn aa bg (by decide)
 have cR := pn aa bi (by decide)
 have bn : dF.eval (.tmp 10) = iv ((numericsV v u).2.2) := by rw [aa]; exact put_same _ _ _ (by rw [be]; decide)
 show stepsTo _ _ _ _ _ (aZ.put (some 10) (iv ((numericsV v u).2.2))) _
 rw [← aa]
 refine st_nil (cc _ _ (wp_seq_k fun d5 dK => ?_))
 refine wp_block ?_
 refine wp_seq_k fun d6 bA => ?_
 refine wp_g0 [true, true, true] [] 92
   [ve (iv ((numericsV v u).2.2)), ve (.bool (!decide (((numericsV v u).2.2) = 0))), ve (.bool (!decide (((numericsV v u).2.2) = 0)))] bm (.eq (.eq (.eq (.nil)))) ?_ ?_
 exact .m (fun k => k.fx 10 bn) <| .t (fun _ w hn k => ⟨_, v_bin rfl (k.eq1 0 19 rfl) rfl (fun _ => rfl) (r_neq rfl), rfl⟩) <| .a (fun k => k.eq1 1 20 rfl) .nil
 refine aftI bm cP cO fun d7 d8 a5 bB bC ak an => ?_
 have cS := an.fx 0 dG
 have cT := an.fx 6 dH
 have bo := an.fx 8 cQ
 have cU := an.fx 9 cR
 have d9 := an.fx 10 bn
 have cV := an.ge 2 18 rfl
 have bD := cM.new_ ak
 have a6 := cN.new_ ak
 have bE := cG.new_ ak
 have bF := cI.new_ ak
 have bG := cJ.new_ ak
 have bH := cK.new_ ak
 have bI := cL.new_ ak
 refine st_nil (bA _ _ ?_)
 have a7 : ((!decide (((numericsV v u).2.2) = 0))) = false := (nf (decide_eq_true (hns)))
 have bJ := hB cV a7
 have bK : (decide (((numericsV v u).2.2) = 0)) = true := nT a7
 have dI := oT bK
 refine wp_cond_false bJ ?_
 refine wp_seq_k fun ea bL => ?_
 refine wp_g0 [true, true, true, true] [] 92
   [ve (pv aT), ve (iv ((numericsV v u).1.k)), ve (.bool (decide (((numericsV v u).1.k) = 4))), ve (.bool (decide (((numericsV v u).1.k) = 4)))] a5 (.eq (.eq (.eq (.eq (.nil))))) ?_ ?_
 exact .f (fun k => k.fx 8 bo) <| .t (fun _ w hn k => ⟨_, v_load rfl (k.eq1 0 24 rfl) (l_one Tryz.isAgg3 ((a6.new_ hn).cell 0)), rfl⟩) <| .t (fun _ w hn k => ⟨_, v_bin rfl (k.eq1 1 25 rfl) rfl (fun _ => rfl) (r_eql rfl), rfl⟩) <| .a (fun k => k.eq1 2 26 rfl) .nil
 refine aftI a5 bB bC fun eb ec a8 bM bN al ap => ?_
 have cW := ap.fx 0 cS
 have cX := ap.fx 6 cT
 have cY := ap.fx 8 bo
 have cZ := ap.fx 9 cU
 have c0 := ap.ge 3 23 rfl
 have bO := bD.new_ al
 have bP := a6.new_ al
 have bQ := bE.new_ al
 have bR := bF.new_ al
 have dL := bG.new_ al
 have bS := bH.new_ al
 have dM := bI.new_ al
 refine st_nil (bL _ _ ?_)
 have a9 : (decide (((numericsV v u).1.k) = 4)) = true := decide_eq_true (hk)
 have dJ := oT a9
 have bT := hB c0 a9
 refine wp_cond_true bT ?_
 refine wp_seq_k fun ed bU => ?_
 refine wp_g0 [true, true, true, true, true, true, true, true, false, false] [(8, false), (9, true)] 92
   [ve (.string ⟨#[47]⟩), ve (.pointer (some ⟨aT, 3, none⟩)), ve (.agg #[.bool ((numericsV v u).1.neg), sv aS ((numericsV v u).1.mag) aH]), ve (.pointer (some ⟨a4, 3, none⟩)), ve (.agg #[.bool ((numericsV v u).2.1.neg), sv aO ((numericsV v u).2.1.mag) aI]), ve (.tuple #[vv (Vl.mk 0 0 0 false [] [] 0) none 0 none 0, iv 2]), ve (vv (Vl.mk 0 0 0 false [] [] 0) none 0 none 0), ve (iv 2), vt, vt] a8 (.eq (.eq (.eq (.eq (.eq (.eq (.eq (.eq (.tt (.tt (.nil))))))))))) ?_ ?_
 exact .m (fun k => k.fx 0 cW) <| .f (fun k => k.fx 8 cY) <| .t (fun _ w hn k => ⟨_, v_load rfl (k.eq1 1 28 rfl) (l_part Tryz.isAgg26 Tryz.sizeOf26 (bP.new_ hn) lb), rfl⟩) <| .f (fun k => k.fx 9 cZ) <| .t (fun _ w hn k => ⟨_, v_load rfl (k.eq1 3 30 rfl) (l_part Tryz.isAgg26 Tryz.sizeOf26 (bQ.new_ hn) lb), rfl⟩) <| .o1 (ck rfl rfl rfl (fun _ w hn k => ⟨#[.string ⟨#[47]⟩, .agg #[.bool ((numericsV v u).1.neg), sv aS ((numericsV v u).1.mag) aH], .agg #[.bool ((numericsV v u).2.1.neg), sv aO ((numericsV v u).2.1.mag) aI]], args3 (k.eq1 0 27 rfl) (k.eq1 2 29 rfl) (k.eq1 4 31 rfl), fun _ => by kernel_rfl, bigsD0_c ((numericsV v u).1.neg) _ ((numericsV v u).1.mag) _ ((numericsV v u).2.1.neg) _ ((numericsV v u).2.1.mag) _ _ (bR.new_ hn) (bS.new_ hn) (VOk.numerics1 hvv hvu).limbs (VOk.numerics2 hvv hvu).limbs (by first | omega | (simp only [List.length_nil, List.length_take, List.length_drop]; omega) | (simp only [List.length_cons, List.length_nil]; omega)) (by first | omega | (simp only [List.length_nil, List.length_take, List.length_drop]; omega) | (simp only [List.length_cons, List.length_nil]; omega)) c9⟩) fun _ => rfl) <| .t (fun _ w hn k => ⟨_, v_extract rfl (k.eq1 5 32 rfl) rfl, rfl⟩) <| .t (fun _ w hn k => ⟨_, v_extract rfl (k.eq1 5 32 rfl) rfl, rfl⟩) <| .off <| .off .nil
 refine aftI a8 bM bN fun bp ee ba bV bW bX aP => ?_
 have bq := aP.fx 6 cX
 have br := aP.ge 6 33 rfl
 have bs := aP.ge 7 34 rfl
 have bY := bO.new_ bX
 obtain ⟨c1, bt, bu, bZ, dN⟩ := s_many (P := Tryz.prog) (t := 29) (i := 0) [iv 0, iv 0, iv 0, .bool false, sv none ([]) 0, sv none ([]) 0, iv 0] Tryz.sizeOf29 rfl rfl rfl bY lb
 have b0 : Blk c1 aQ 29 [iv 0, iv 0, iv 0, .bool false, sv none ([]) 0, sv none ([]) 0, iv 0] := bu
 refine st_act rfl rfl fun ef b1 => a_store' rfl bq br bt (b1 _ _ trivial ?_)
 have b2 := bW.trans bZ (fun _ h b => by subst b; omega)
 refine st_take rfl rfl (y_assign (v := iv 2) rfl bs) rfl ?_
 obtain ⟨c3, am⟩ : ∃ a', a' = bp.put (some 7) (iv 2) := ⟨_, rfl⟩
 have dO := pz am ba
 have b3 := pd am bV
 have c5 := pn am bq (by decide)
 have eg := pn am br (by decide)
 have eh := pn am bs (by decide)
 have c7 : c3.eval (.tmp 7) = iv 2 := by rw [am]; exact put_same _ _ _ (by rw [ba]; decide)
 show stepsTo _ _ _ _ _ (bp.put (some 7) (iv 2)) _
 rw [← am]
 refine st_nil (bU _ _ ?_)
 refine wp_ret (ret_k b3 (v := .tuple #[vv (Vl.mk 0 0 0 false [] [] 0) none 0 none 0, iv 2]) (res_ct rfl c5 c7 (l_agg Tryz.isAgg29 Tryz.sizeOf29 b0 rfl)) ?_)
 exact ⟨rfl, b2⟩
theorem binD_c  (v : Vl) (Av : Option Addr) (cv : Nat) (Bv : Option Addr) (dv : Nat) (u : Vl) (Au : Option Addr) (cu : Nat) (Bu : Option Addr) (du : Nat) (w : World) (hmv : SRow w .u32 Av v.mag cv) (hsv : SRow w .u16 Bv v.s dv) (hmu : SRow w .u32 Au u.mag cu) (hsu : SRow w .u16 Bu u.s du) (hvv : VOk v) (hvu : VOk u) (hns : (numericsV (cleanV v) (cleanV u)).2.2 = 0) (hk : (numericsV (cleanV v) (cleanV u)).1.k = 3) (hX : (Nm.mk (numericsV (cleanV v) (cleanV u)).1.nk (numericsV (cleanV v) (cleanV u)).1.nn) = ⟨0, 1⟩) (hY : (Nm.mk (numericsV (cleanV v) (cleanV u)).2.1.nk (numericsV (cleanV v) (cleanV u)).2.1.nn) = ⟨0, 2⟩) : Calls Tryz.prog 12 #[.string ⟨#[47]⟩, vv v Av cv Bv dv, vv u Au cu Bu du] w (IsRet (.tuple #[vv (Vl.mk 0 0 0 false [] [] 0) none 0 none 0, iv 3]) w) := by
 refine enter_abs Tryz.func12 rfl fun a0 aE dl hp => ?_
 have aE : a0.tmps.size = 120 := aE
 have aF : New w w := Upd.refl _ _
 have hp0 : a0.eval (.tmp 0) = .string ⟨#[47]⟩ := hp 0 _ rfl
 have hp1 : a0.eval (.tmp 1) = vv v Av cv Bv dv := hp 1 _ rfl
 have hp2 : a0.eval (.tmp 2) = vv u Au cu Bu du := hp 2 _ rfl
 refine wp_seq_k fun K1 dm => ?_
 refine wp_g [true, true, true, true] [] [] 120
   [IsNew w 29 [iv v.k, iv v.nk, iv v.nn, .bool v.neg, sv Av v.mag cv, sv Bv v.s dv, iv v.ref], IsNew w 29 [iv u.k, iv u.nk, iv u.nn, .bool u.neg, sv Au u.mag cu, sv Bu u.s du, iv u.ref], IsNew w 29 [iv 0, iv 0, iv 0, .bool false, sv none ([]) 0, sv none ([]) 0, iv 0], ve (iv 0)]
   [0, 1, 2] (newsCons (fun v w h => IsNew.old h) (newsCons (fun v w h => IsNew.old h) (newsCons (fun v w h => IsNew.old h) newsNil))) aE (.nw (.nw (.nw (.eq (.nil))))) ?_ (fun i h => by cases h) ?_
 exact .o2 (step_allocN (cs := [iv v.k, iv v.nk, iv v.nn, .bool v.neg, sv Av v.mag cv, sv Bv v.s dv, iv v.ref]) (t := 29) rfl (noG rfl) (fun _ w hn k => v_box rfl (k.fx 1 hp1) (fun w => rfl)) (fun q _ hq hb => ⟨q, rfl, hq, hb⟩)) <| .o2 (step_allocN (cs := [iv u.k, iv u.nk, iv u.nn, .bool u.neg, sv Au u.mag cu, sv Bu u.s du, iv u.ref]) (t := 29) rfl (noG rfl) (fun _ w hn k => v_box rfl (k.fx 2 hp2) (fun w => rfl)) (fun q _ hq hb => ⟨q, rfl, hq, hb⟩)) <| .o2 (step_allocN (cs := [iv 0, iv 0, iv 0, .bool false, sv none ([]) 0, sv none ([]) 0, iv 0]) (t := 29) rfl (noG rfl) (fun _ w hn k => rfl) (fun q _ hq hb => ⟨q, rfl, hq, hb⟩)) <| .t (fun _ w hn k => ⟨_, v_assign rfl rfl, rfl⟩) .nil
 refine aftI aE dl aF fun a2 w3 cb dn al d4 am => ?_
 have h8 := am.fx 0 hp0
 obtain ⟨aM, h9, ci, aN⟩ : IsNew _ _ _ _ _ := am.got 0 4 rfl (by kernel_rfl)
 obtain ⟨aO, aG, cj, aP⟩ : IsNew _ _ _ _ _ := am.got 1 5 rfl (by kernel_rfl)
 obtain ⟨aQ, aR, cl, cm⟩ : IsNew _ _ _ _ _ := am.got 2 6 rfl (by kernel_rfl)
 have hne21 : aM ≠ aO := am.ne 0 1 4 5 h9 aG
 have hne22 : aM ≠ aQ := am.ne 0 2 4 6 h9 aR
 have hne23 : aO ≠ aQ := am.ne 1 2 5 6 aG aR
 have dH := Nat.le_trans aF.size ci
 have dI := Nat.le_trans aF.size cj
 have dJ := Nat.le_trans aF.size cl
 refine st_nil (dm _ _ (wp_seq_k fun d5 cn => ?_))
 refine wp_g0 [true, true, true, true, false, false] [(4, false), (5, false)] 120
   [ve (vv v Av cv Bv dv),
    (VP (cleanV v)), ve (vv u Au cu Bu du),
    (VP (cleanV u)), vt, vt] cb (.eq (.cons (fun v W W' hn ⟨A5, c6, A7, c8, he, h0, h1⟩ => ⟨A5, c6, A7, c8, he, h0.new_ hn, h1.new_ hn⟩) (.eq (.cons (fun v W W' hn ⟨dp, dq, dr, ds, he, h0, h1⟩ => ⟨dp, dq, dr, ds, he, h0.new_ hn, h1.new_ hn⟩) (.tt (.tt (.nil))))))) ?_ ?_
 refine .t (fun _ w hn k => ⟨_, v_load rfl (k.fx 4 h9) (l_agg Tryz.isAgg29 Tryz.sizeOf29 (aN.new_ hn) rfl), rfl⟩) ?_
 refine .o1 (tkC rfl (noG rfl) rfl fun _ w hn k => (by
       refine ⟨#[vv v Av cv Bv dv], _, args1 (k.eq1 0 10 rfl), fun w => by kernel_rfl, clean_c v _ _ _ _ _ (hmv.new_ (al.transNew hn)) (hsv.new_ (al.transNew hn)), ?_⟩
       rintro e w' ⟨A1, c2, A3, c4, rfl, hmo0, hmo1, hm⟩
       exact ⟨_, rfl, hm, ⟨A1, c2, A3, c4, rfl, hmo0, hmo1⟩⟩)) ?_
 refine .t (fun _ w hn k => ⟨_, v_load rfl (k.fx 5 aG) (l_agg Tryz.isAgg29 Tryz.sizeOf29 (aP.new_ hn) rfl), rfl⟩) ?_
 refine .o1 (tkC rfl (noG rfl) rfl fun _ w hn k => (by
       refine ⟨#[vv u Au cu Bu du], _, args1 (k.eq1 2 12 rfl), fun w => by kernel_rfl, clean_c u _ _ _ _ _ (hmu.new_ (al.transNew hn)) (hsu.new_ (al.transNew hn)), ?_⟩
       rintro e w' ⟨A9, dt, dw, dx, rfl, hmo0, hmo1, hm⟩
       exact ⟨_, rfl, hm, ⟨A9, dt, dw, dx, rfl, hmo0, hmo1⟩⟩)) ?_
 exact .off <| .off .nil
 refine aftI cb dn al fun cc d6 aS co cp aD ak => ?_
 have cd := ak.fx 0 h8
 have ce := ak.fx 4 h9
 have cf := ak.fx 5 aG
 have dy := ak.fx 6 aR
 obtain ⟨az, an, aA, ao, aT, cq, cr⟩ : (VP (cleanV v)) _ _ := ak.got 1 11 rfl (by kernel_rfl)
 have aT : cc.eval (.tmp 11) = vv (cleanV v) az an aA ao := aT
 obtain ⟨aB, ap, aC, aq, aU, ct, cw⟩ : (VP (cleanV u)) _ _ := ak.got 3 13 rfl (by kernel_rfl)
 have aU : cc.eval (.tmp 13) = vv (cleanV u) aB ap aC aq := aU
 have ar := aN.new_ aD
 have cx := aP.new_ aD
 have cy := cm.new_ aD
 obtain ⟨dz, ba, bb, au, aV⟩ := s_many (P := Tryz.prog) (t := 29) (i := 0) [iv ((cleanV v).k), iv ((cleanV v).nk), iv ((cleanV v).nn), .bool ((cleanV v).neg), sv az ((cleanV v).mag) an, sv aA ((cleanV v).s) ao, iv ((cleanV v).ref)] Tryz.sizeOf29 rfl rfl rfl ar lb
 have cz : Blk dz aM 29 [iv ((cleanV v).k), iv ((cleanV v).nk), iv ((cleanV v).nn), .bool ((cleanV v).neg), sv az ((cleanV v).mag) an, sv aA ((cleanV v).s) ao, iv ((cleanV v).ref)] := bb
 refine st_act rfl rfl fun d7 cA => a_store' rfl ce aT ba (cA _ _ trivial ?_)
 have cB := cq.far ar au (by first | rfl | decide | simp [notK])
 have cC := cr.far ar au (by first | rfl | decide | simp [notK])
 have cD := ct.far ar au (by first | rfl | decide | simp [notK])
 have cE := cw.far ar au (by first | rfl | decide | simp [notK])
 have av := aV _ _ _ (fun h => hne21 h.symm) cx
 have cF := aV _ _ _ (fun h => hne22 h.symm) cy
 have cG := cp.trans au (fun _ h b => by subst b; omega)
 obtain ⟨dA, bd, be, aw, aW⟩ := s_many (P := Tryz.prog) (t := 29) (i := 0) [iv ((cleanV u).k), iv ((cleanV u).nk), iv ((cleanV u).nn), .bool ((cleanV u).neg), sv aB ((cleanV u).mag) ap, sv aC ((cleanV u).s) aq, iv ((cleanV u).ref)] Tryz.sizeOf29 rfl rfl rfl av lb
 have cH : Blk dA aO 29 [iv ((cleanV u).k), iv ((cleanV u).nk), iv ((cleanV u).nn), .bool ((cleanV u).neg), sv aB ((cleanV u).mag) ap, sv aC ((cleanV u).s) aq, iv ((cleanV u).ref)] := be
 refine st_act rfl rfl fun d8 cI => a_store' rfl cf aU bd (cI _ _ trivial ?_)
 have cJ := cB.far av aw (by first | rfl | decide | simp [notK])
 have cK := cC.far av aw (by first | rfl | decide | simp [notK])
 have cL := cD.far av aw (by first | rfl | decide | simp [notK])
 have cM := cE.far av aw (by first | rfl | decide | simp [notK])
 have cN := aW _ _ _ (hne21) cz
 have cO := aW _ _ _ (fun h => hne23 h.symm) cF
 have cP := cG.trans aw (fun _ h b => by subst b; omega)
 refine st_nil (cn _ _ (wp_seq_k fun d9 dK => ?_))
 refine wp_seq_k fun ea cQ => ?_
 refine wp_g0 [true] [] 120
   [ve (.string ⟨#[47]⟩)] aS (.eq (.nil)) ?_ ?_
 exact .m (fun k => k.fx 0 cd) .nil
 refine aftI aS co cP fun eb ec aX cR bf aj ax => ?_
 have dB := ax.fx 0 cd
 have dC := ax.fx 4 ce
 have dD := ax.fx 5 cf
 have dE := ax.fx 6 dy
 have ch := ax.ge 0 14 rfl
 have cS := cN.new_ aj
 have cT := cH.new_ aj
 have bg := cO.new_ aj
 have bh := cJ.new_ aj
 have bi := cK.new_ aj
 have bj := cL.new_ aj
 have bk := cM.new_ aj
 refine st_nil (cQ _ _ ?_)
 refine wp_block ?_
 refine wp_seq_k fun dL bl => ?_
 refine wp_g0 [true, true] [] 120
   [vF, vF] aX (.eq (.eq (.nil))) ?_ ?_
 exact .t (fun _ w hn k => ⟨_, v_bin rfl (k.fx 14 ch) rfl (fun _ => rfl) (r_eqlS (r := false) (by kernel_rfl)), rfl⟩) <| .a (fun k => k.eq1 0 16 rfl) .nil
 refine aftI aX cR bf fun dM dN aH bm bn aa af => ?_
 have cU := af.fx 0 dB
 have cV := af.fx 4 dC
 have cW := af.fx 5 dD
 have cX := af.fx 6 dE
 have aY := af.fx 14 ch
 have cY := af.ge 1 15 rfl
 have bo := cS.new_ aa
 have bp := cT.new_ aa
 have bq := bg.new_ aa
 have br := bh.new_ aa
 have bs := bi.new_ aa
 have bt := bj.new_ aa
 have bu := bk.new_ aa
 refine st_nil (bl _ _ ?_)
 refine wp_cond_false cY ?_
 refine wp_seq_k fun dO bv => ?_
 refine wp_seq_k fun dP bw => ?_
 refine wp_g0 [true, true] [] 120
   [vF, vF] aH (.eq (.eq (.nil))) ?_ ?_
 exact .t (fun _ w hn k => ⟨_, v_bin rfl (k.fx 14 aY) rfl (fun _ => rfl) (r_eqlS (r := false) (by kernel_rfl)), rfl⟩) <| .a (fun k => k.eq1 0 37 rfl) .nil
 refine aftI aH bm bn fun dQ dR aI bx bz ab ag => ?_
 have cZ := ag.fx 0 cU
 have c0 := ag.fx 4 cV
 have c1 := ag.fx 5 cW
 have c3 := ag.fx 6 cX
 have aZ := ag.fx 14 aY
 have c5 := ag.ge 1 36 rfl
 have bA := bo.new_ ab
 have bB := bp.new_ ab
 have bC := bq.new_ ab
 have bD := br.new_ ab
 have bE := bs.new_ ab
 have bF := bt.new_ ab
 have bG := bu.new_ ab
 refine st_nil (bw _ _ ?_)
 refine wp_cond_false c5 ?_
 refine wp_seq_k fun dS bH => ?_
 refine wp_g0 [true, true] [] 120
   [vF, vF] aI (.eq (.eq (.nil))) ?_ ?_
 exact .t (fun _ w hn k => ⟨_, v_bin rfl (k.fx 14 aZ) rfl (fun _ => rfl) (r_eqlS (r := false) (by kernel_rfl)), rfl⟩) <| .a (fun k => k.eq1 0 38 rfl) .nil
 refine aftI aI bx bz fun dT dU aJ bI bJ ac ah => ?_
 have c7 := ah.fx 0 cZ
 have c9 := ah.fx 4 c0
 have da := ah.fx 5 c1
 have db := ah.fx 6 c3
 have a1 := ah.fx 14 aZ
 have dc := ah.ge 1 36 rfl
 have bK := bA.new_ ac
 have bL := bB.new_ ac
 have bM := bC.new_ ac
 have bN := bD.new_ ac
 have bO := bE.new_ ac
 have bP := bF.new_ ac
 have bQ := bG.new_ ac
 refine st_nil (bH _ _ ?_)
 refine wp_cond_false dc ?_
 refine wp_seq_k fun dV bR => ?_
 refine wp_g0 [true, true] [] 120
   [vT, vT] aJ (.eq (.eq (.nil))) ?_ ?_
 exact .t (fun _ w hn k => ⟨_, v_bin rfl (k.fx 14 a1) rfl (fun _ => rfl) (r_eqlS (r := true) (by kernel_rfl)), rfl⟩) <| .a (fun k => k.eq1 0 39 rfl) .nil
 refine aftI aJ bI bJ fun dW dX aK bS bT ad ai => ?_
 have dd := ai.fx 0 c7
 have de := ai.fx 4 c9
 have df := ai.fx 5 da
 have dg := ai.fx 6 db
 have dY := ai.fx 14 a1
 have a3 := ai.ge 1 36 rfl
 have bU := bK.new_ ad
 have bV := bL.new_ ad
 have bW := bM.new_ ad
 have bX := bN.new_ ad
 have bY := bO.new_ ad
 have bZ := bP.new_ ad
 have b0 := bQ.new_ ad
 refine st_nil (bR _ _ ?_)
 refine wp_cond_true a3 ?_
 refine wp_skip ?_
 refine bv _ _ ?_
 refine wp_cond_true a3 ?_
 refine wp_seq_k fun dZ b1 => ?_
 refine wp_g0 [true, true, true, true, true, true, false, false] [(6, false), (7, true)] 120
   [ve (.string ⟨#[47]⟩), ve (vv (cleanV v) az an aA ao), ve (vv (cleanV u) aB ap aC aq), ve (.tuple #[vv (Vl.mk 0 0 0 false [] [] 0) none 0 none 0, iv 3]), ve (vv (Vl.mk 0 0 0 false [] [] 0) none 0 none 0), ve (iv 3), vt, vt] aK (.eq (.eq (.eq (.eq (.eq (.eq (.tt (.tt (.nil))))))))) ?_ ?_
 exact .m (fun k => k.fx 0 dd) <| .t (fun _ w hn k => ⟨_, v_load rfl (k.fx 4 de) (l_agg Tryz.isAgg29 Tryz.sizeOf29 (bU.new_ hn) rfl), rfl⟩) <| .t (fun _ w hn k => ⟨_, v_load rfl (k.fx 5 df) (l_agg Tryz.isAgg29 Tryz.sizeOf29 (bV.new_ hn) rfl), rfl⟩) <| .o1 (ck rfl rfl rfl (fun _ w hn k => ⟨#[.string ⟨#[47]⟩, vv (cleanV v) az an aA ao, vv (cleanV u) aB ap aC aq], args3 (k.eq1 0 41 rfl) (k.eq1 1 42 rfl) (k.eq1 2 43 rfl), fun _ => by kernel_rfl, sumsD_c (cleanV v) _ _ _ _ (cleanV u) _ _ _ _ _ (bX.new_ hn) (bY.new_ hn) (bZ.new_ hn) (b0.new_ hn) hvv.clean hvu.clean hns hk hX hY⟩) fun _ => rfl) <| .t (fun _ w hn k => ⟨_, v_extract rfl (k.eq1 3 44 rfl) rfl, rfl⟩) <| .t (fun _ w hn k => ⟨_, v_extract rfl (k.eq1 3 44 rfl) rfl, rfl⟩) <| .off <| .off .nil
 refine aftI aK bS bT fun a4 d0 aL b2 b3 b4 ay => ?_
 have a5 := ay.fx 6 dg
 have a6 := ay.ge 4 45 rfl
 have a7 := ay.ge 5 46 rfl
 have b5 := bW.new_ b4
 obtain ⟨dh, a8, a9, b6, dF⟩ := s_many (P := Tryz.prog) (t := 29) (i := 0) [iv 0, iv 0, iv 0, .bool false, sv none ([]) 0, sv none ([]) 0, iv 0] Tryz.sizeOf29 rfl rfl rfl b5 lb
 have b7 : Blk dh aQ 29 [iv 0, iv 0, iv 0, .bool false, sv none ([]) 0, sv none ([]) 0, iv 0] := a9
 refine st_act rfl rfl fun d1 b8 => a_store' rfl a5 a6 a8 (b8 _ _ trivial ?_)
 have b9 := b3.trans b6 (fun _ h b => by subst b; omega)
 refine st_take rfl rfl (y_assign (v := iv 3) rfl a7) rfl ?_
 obtain ⟨di, ae⟩ : ∃ a', a' = a4.put (some 7) (iv 3) := ⟨_, rfl⟩
 have dG := pz ae aL
 have ca := pd ae b2
 have dj := pn ae a5 (by decide)
 have d2 := pn ae a6 (by decide)
 have d3 := pn ae a7 (by decide)
 have dk : di.eval (.tmp 7) = iv 3 := by rw [ae]; exact put_same _ _ _ (by rw [aL]; decide)
 show stepsTo _ _ _ _ _ (a4.put (some 7) (iv 3)) _
 rw [← ae]
 refine st_nil (b1 _ _ ?_)
 refine wp_ret (ret_k ca (v := .tuple #[vv (Vl.mk 0 0 0 false [] [] 0) none 0 none 0, iv 3]) (res_ct rfl dj dk (l_agg Tryz.isAgg29 Tryz.sizeOf29 b7 rfl)) ?_)
 exact ⟨rfl, b9⟩
theorem binB_c  (v : Vl) (Av : Option Addr) (cv : Nat) (Bv : Option Addr) (dv : Nat) (u : Vl) (Au : Option Addr) (cu : Nat) (Bu : Option Addr) (du : Nat) (w : World) (hmv : SRow w .u32 Av v.mag cv) (hsv : SRow w .u16 Bv v.s dv) (hmu : SRow w .u32 Au u.mag cu) (hsu : SRow w .u16 Bu u.s du) (hvv : VOk v) (hvu : VOk u) (hns : (numericsV (cleanV v) (cleanV u)).2.2 = 0) (hk : (numericsV (cleanV v) (cleanV u)).1.k = 4) (dl : goodI (numericsV (cleanV v) (cleanV u)).2.1.neg (numericsV (cleanV v) (cleanV u)).2.1.mag = 0) : Calls Tryz.prog 12 #[.string ⟨#[47]⟩, vv v Av cv Bv dv, vv u Au cu Bu du] w (IsRet (.tuple #[vv (Vl.mk 0 0 0 false [] [] 0) none 0 none 0, iv 2]) w) := by
 refine enter_abs Tryz.func12 rfl fun a0 aE dm hp => ?_
 have aE : a0.tmps.size = 120 := aE
 have aF : New w w := Upd.refl _ _
 have hp0 : a0.eval (.tmp 0) = .string ⟨#[47]⟩ := hp 0 _ rfl
 have hp1 : a0.eval (.tmp 1) = vv v Av cv Bv dv := hp 1 _ rfl
 have hp2 : a0.eval (.tmp 2) = vv u Au cu Bu du := hp 2 _ rfl
 refine wp_seq_k fun K1 dn => ?_
 refine wp_g [true, true, true, true] [] [] 120
   [IsNew w 29 [iv v.k, iv v.nk, iv v.nn, .bool v.neg, sv Av v.mag cv, sv Bv v.s dv, iv v.ref], IsNew w 29 [iv u.k, iv u.nk, iv u.nn, .bool u.neg, sv Au u.mag cu, sv Bu u.s du, iv u.ref], IsNew w 29 [iv 0, iv 0, iv 0, .bool false, sv none ([]) 0, sv none ([]) 0, iv 0], ve (iv 0)]
   [0, 1, 2] (newsCons (fun v w h => IsNew.old h) (newsCons (fun v w h => IsNew.old h) (newsCons (fun v w h => IsNew.old h) newsNil))) aE (.nw (.nw (.nw (.eq (.nil))))) ?_ (fun i h => by cases h) ?_
 exact .o2 (step_allocN (cs := [iv v.k, iv v.nk, iv v.nn, .bool v.neg, sv Av v.mag cv, sv Bv v.s dv, iv v.ref]) (t := 29) rfl (noG rfl) (fun _ w hn k => v_box rfl (k.fx 1 hp1) (fun w => rfl)) (fun q _ hq hb => ⟨q, rfl, hq, hb⟩)) <| .o2 (step_allocN (cs := [iv u.k, iv u.nk, iv u.nn, .bool u.neg, sv Au u.mag cu, sv Bu u.s du, iv u.ref]) (t := 29) rfl (noG rfl) (fun _ w hn k => v_box rfl (k.fx 2 hp2) (fun w => rfl)) (fun q _ hq hb => ⟨q, rfl, hq, hb⟩)) <| .o2 (step_allocN (cs := [iv 0, iv 0, iv 0, .bool false, sv none ([]) 0, sv none ([]) 0, iv 0]) (t := 29) rfl (noG rfl) (fun _ w hn k => rfl) (fun q _ hq hb => ⟨q, rfl, hq, hb⟩)) <| .t (fun _ w hn k => ⟨_, v_assign rfl rfl, rfl⟩) .nil
 refine aftI aE dm aF fun a2 w3 cb dp al d5 am => ?_
 have h8 := am.fx 0 hp0
 obtain ⟨aM, h9, ci, aN⟩ : IsNew _ _ _ _ _ := am.got 0 4 rfl (by kernel_rfl)
 obtain ⟨aO, aG, cj, aP⟩ : IsNew _ _ _ _ _ := am.got 1 5 rfl (by kernel_rfl)
 obtain ⟨aQ, aR, cl, cm⟩ : IsNew _ _ _ _ _ := am.got 2 6 rfl (by kernel_rfl)
 have hne21 : aM ≠ aO := am.ne 0 1 4 5 h9 aG
 have hne22 : aM ≠ aQ := am.ne 0 2 4 6 h9 aR
 have hne23 : aO ≠ aQ := am.ne 1 2 5 6 aG aR
 have dI := Nat.le_trans aF.size ci
 have dJ := Nat.le_trans aF.size cj
 have dK := Nat.le_trans aF.size cl
 refine st_nil (dn _ _ (wp_seq_k fun d6 cn => ?_))
 refine wp_g0 [true, true, true, true, false, false] [(4, false), (5, false)] 120
   [ve (vv v Av cv Bv dv),
    (VP (cleanV v)), ve (vv u Au cu Bu du),
    (VP (cleanV u)), vt, vt] cb (.eq (.cons (fun v W W' hn ⟨A5, c6, A7, c8, he, h0, h1⟩ => ⟨A5, c6, A7, c8, he, h0.new_ hn, h1.new_ hn⟩) (.eq (.cons (fun v W W' hn ⟨dq, dr, ds, dt, he, h0, h1⟩ => ⟨dq, dr, ds, dt, he, h0.new_ hn, h1.new_ hn⟩) (.tt (.tt (.nil))))))) ?_ ?_
 refine .t (fun _ w hn k => ⟨_, v_load rfl (k.fx 4 h9) (l_agg Tryz.isAgg29 Tryz.sizeOf29 (aN.new_ hn) rfl), rfl⟩) ?_
 refine .o1 (tkC rfl (noG rfl) rfl fun _ w hn k => (by
       refine ⟨#[vv v Av cv Bv dv], _, args1 (k.eq1 0 10 rfl), fun w => by kernel_rfl, clean_c v _ _ _ _ _ (hmv.new_ (al.transNew hn)) (hsv.new_ (al.transNew hn)), ?_⟩
       rintro e w' ⟨A1, c2, A3, c4, rfl, hmo0, hmo1, hm⟩
       exact ⟨_, rfl, hm, ⟨A1, c2, A3, c4, rfl, hmo0, hmo1⟩⟩)) ?_
 refine .t (fun _ w hn k => ⟨_, v_load rfl (k.fx 5 aG) (l_agg Tryz.isAgg29 Tryz.sizeOf29 (aP.new_ hn) rfl), rfl⟩) ?_
 refine .o1 (tkC rfl (noG rfl) rfl fun _ w hn k => (by
       refine ⟨#[vv u Au cu Bu du], _, args1 (k.eq1 2 12 rfl), fun w => by kernel_rfl, clean_c u _ _ _ _ _ (hmu.new_ (al.transNew hn)) (hsu.new_ (al.transNew hn)), ?_⟩
       rintro e w' ⟨A9, dw, dx, dy, rfl, hmo0, hmo1, hm⟩
       exact ⟨_, rfl, hm, ⟨A9, dw, dx, dy, rfl, hmo0, hmo1⟩⟩)) ?_
 exact .off <| .off .nil
 refine aftI cb dp al fun cc d7 aS co cp aD ak => ?_
 have cd := ak.fx 0 h8
 have ce := ak.fx 4 h9
 have cf := ak.fx 5 aG
 have dz := ak.fx 6 aR
 obtain ⟨az, an, aA, ao, aT, cq, cr⟩ : (VP (cleanV v)) _ _ := ak.got 1 11 rfl (by kernel_rfl)
 have aT : cc.eval (.tmp 11) = vv (cleanV v) az an aA ao := aT
 obtain ⟨aB, ap, aC, aq, aU, ct, cw⟩ : (VP (cleanV u)) _ _ := ak.got 3 13 rfl (by kernel_rfl)
 have aU : cc.eval (.tmp 13) = vv (cleanV u) aB ap aC aq := aU
 have ar := aN.new_ aD
 have cx := aP.new_ aD
 have cy := cm.new_ aD
 obtain ⟨dA, ba, bb, au, aV⟩ := s_many (P := Tryz.prog) (t := 29) (i := 0) [iv ((cleanV v).k), iv ((cleanV v).nk), iv ((cleanV v).nn), .bool ((cleanV v).neg), sv az ((cleanV v).mag) an, sv aA ((cleanV v).s) ao, iv ((cleanV v).ref)] Tryz.sizeOf29 rfl rfl rfl ar lb
 have cz : Blk dA aM 29 [iv ((cleanV v).k), iv ((cleanV v).nk), iv ((cleanV v).nn), .bool ((cleanV v).neg), sv az ((cleanV v).mag) an, sv aA ((cleanV v).s) ao, iv ((cleanV v).ref)] := bb
 refine st_act rfl rfl fun d8 cA => a_store' rfl ce aT ba (cA _ _ trivial ?_)
 have cB := cq.far ar au (by first | rfl | decide | simp [notK])
 have cC := cr.far ar au (by first | rfl | decide | simp [notK])
 have cD := ct.far ar au (by first | rfl | decide | simp [notK])
 have cE := cw.far ar au (by first | rfl | decide | simp [notK])
 have av := aV _ _ _ (fun h => hne21 h.symm) cx
 have cF := aV _ _ _ (fun h => hne22 h.symm) cy
 have cG := cp.trans au (fun _ h b => by subst b; omega)
 obtain ⟨dB, bd, be, aw, aW⟩ := s_many (P := Tryz.prog) (t := 29) (i := 0) [iv ((cleanV u).k), iv ((cleanV u).nk), iv ((cleanV u).nn), .bool ((cleanV u).neg), sv aB ((cleanV u).mag) ap, sv aC ((cleanV u).s) aq, iv ((cleanV u).ref)] Tryz.sizeOf29 rfl rfl rfl av lb
 have cH : Blk dB aO 29 [iv ((cleanV u).k), iv ((cleanV u).nk), iv ((cleanV u).nn), .bool ((cleanV u).neg), sv aB ((cleanV u).mag) ap, sv aC ((cleanV u).s) aq, iv ((cleanV u).ref)] := be
 refine st_act rfl rfl fun d9 cI => a_store' rfl cf aU bd (cI _ _ trivial ?_)
 have cJ := cB.far av aw (by first | rfl | decide | simp [notK])
 have cK := cC.far av aw (by first | rfl | decide | simp [notK])
 have cL := cD.far av aw (by first | rfl | decide | simp [notK])
 have cM := cE.far av aw (by first | rfl | decide | simp [notK])
 have cN := aW _ _ _ (hne21) cz
 have cO := aW _ _ _ (fun h => hne23 h.symm) cF
 have cP := cG.trans aw (fun _ h b => by subst b; omega)
 refine st_nil (cn _ _ (wp_seq_k fun ea dL => ?_))
 refine wp_seq_k fun eb cQ => ?_
 refine wp_g0 [true] [] 120
   [ve (.string ⟨#[47]⟩)] aS (.eq (.nil)) ?_ ?_
 exact .m (fun k => k.fx 0 cd) .nil
 refine aftI aS co cP fun ec ed aX cR bf aj ax => ?_
 have dC := ax.fx 0 cd
 have dD := ax.fx 4 ce
 have dE := ax.fx 5 cf
 have dF := ax.fx 6 dz
 have ch := ax.ge 0 14 rfl
 have cS := cN.new_ aj
 have cT := cH.new_ aj
 have bg := cO.new_ aj
 have bh := cJ.new_ aj
 have bi := cK.new_ aj
 have bj := cL.new_ aj
 have bk := cM.new_ aj
 refine st_nil (cQ _ _ ?_)
 refine wp_block ?_
 refine wp_seq_k fun dM bl => ?_
 refine wp_g0 [true, true] [] 120
   [vF, vF] aX (.eq (.eq (.nil))) ?_ ?_
 exact .t (fun _ w hn k => ⟨_, v_bin rfl (k.fx 14 ch) rfl (fun _ => rfl) (r_eqlS (r := false) (by kernel_rfl)), rfl⟩) <| .a (fun k => k.eq1 0 16 rfl) .nil
 refine aftI aX cR bf fun dN dO aH bm bn aa af => ?_
 have cU := af.fx 0 dC
 have cV := af.fx 4 dD
 have cW := af.fx 5 dE
 have cX := af.fx 6 dF
 have aY := af.fx 14 ch
 have cY := af.ge 1 15 rfl
 have bo := cS.new_ aa
 have bp := cT.new_ aa
 have bq := bg.new_ aa
 have br := bh.new_ aa
 have bs := bi.new_ aa
 have bt := bj.new_ aa
 have bu := bk.new_ aa
 refine st_nil (bl _ _ ?_)
 refine wp_cond_false cY ?_
 refine wp_seq_k fun dP bv => ?_
 refine wp_seq_k fun dQ bw => ?_
 refine wp_g0 [true, true] [] 120
   [vF, vF] aH (.eq (.eq (.nil))) ?_ ?_
 exact .t (fun _ w hn k => ⟨_, v_bin rfl (k.fx 14 aY) rfl (fun _ => rfl) (r_eqlS (r := false) (by kernel_rfl)), rfl⟩) <| .a (fun k => k.eq1 0 37 rfl) .nil
 refine aftI aH bm bn fun dR dS aI bx bz ab ag => ?_
 have cZ := ag.fx 0 cU
 have c0 := ag.fx 4 cV
 have c1 := ag.fx 5 cW
 have c3 := ag.fx 6 cX
 have aZ := ag.fx 14 aY
 have c5 := ag.ge 1 36 rfl
 have bA := bo.new_ ab
 have bB := bp.new_ ab
 have bC := bq.new_ ab
 have bD := br.new_ ab
 have bE := bs.new_ ab
 have bF := bt.new_ ab
 have bG := bu.new_ ab
 refine st_nil (bw _ _ ?_)
 refine wp_cond_false c5 ?_
 refine wp_seq_k fun dT bH => ?_
 refine wp_g0 [true, true] [] 120
   [vF, vF] aI (.eq (.eq (.nil))) ?_ ?_
 exact .t (fun _ w hn k => ⟨_, v_bin rfl (k.fx 14 aZ) rfl (fun _ => rfl) (r_eqlS (r := false) (by kernel_rfl)), rfl⟩) <| .a (fun k => k.eq1 0 38 rfl) .nil
 refine aftI aI bx bz fun dU dV aJ bI bJ ac ah => ?_
 have c7 := ah.fx 0 cZ
 have c9 := ah.fx 4 c0
 have da := ah.fx 5 c1
 have db := ah.fx 6 c3
 have a1 := ah.fx 14 aZ
 have dc := ah.ge 1 36 rfl
 have bK := bA.new_ ac
 have bL := bB.new_ ac
 have bM := bC.new_ ac
 have bN := bD.new_ ac
 have bO := bE.new_ ac
 have bP := bF.new_ ac
 have bQ := bG.new_ ac
 refine st_nil (bH _ _ ?_)
 refine wp_cond_false dc ?_
 refine wp_seq_k fun dW bR => ?_
 refine wp_g0 [true, true] [] 120
   [vT, vT] aJ (.eq (.eq (.nil))) ?_ ?_
 exact .t (fun _ w hn k => ⟨_, v_bin rfl (k.fx 14 a1) rfl (fun _ => rfl) (r_eqlS (r := true) (by kernel_rfl)), rfl⟩) <| .a (fun k => k.eq1 0 39 rfl) .nil
 refine aftI aJ bI bJ fun dX dY aK bS bT ad ai => ?_
 have dd := ai.fx 0 c7
 have de := ai.fx 4 c9
 have df := ai.fx 5 da
 have dg := ai.fx 6 db
 have dZ := ai.fx 14 a1
 have a3 := ai.ge 1 36 rfl
 have bU := bK.new_ ad
 have bV := bL.new_ ad
 have bW := bM.new_ ad
 have bX := bN.new_ ad
 have bY := bO.new_ ad
 have bZ := bP.new_ ad
 have b0 := bQ.new_ ad
 refine st_nil (bR _ _ ?_)
 refine wp_cond_true a3 ?_
 refine wp_skip ?_
 refine bv _ _ ?_
 refine wp_cond_true a3 ?_
 refine wp_seq_k fun d0 b1 => ?_
 refine wp_g0 [true, true, true, true, true, true, false, false] [(6, false), (7, true)] 120
   [ve (.string ⟨#[47]⟩), ve (vv (cleanV v) az an aA ao), ve (vv (cleanV u) aB ap aC aq), ve (.tuple #[vv (Vl.mk 0 0 0 false [] [] 0) none 0 none 0, iv 2]), ve (vv (Vl.mk 0 0 0 false [] [] 0) none 0 none 0), ve (iv 2), vt, vt] aK (.eq (.eq (.eq (.eq (.eq (.eq (.tt (.tt (.nil))))))))) ?_ ?_
 exact .m (fun k => k.fx 0 dd) <| .t (fun _ w hn k => ⟨_, v_load rfl (k.fx 4 de) (l_agg Tryz.isAgg29 Tryz.sizeOf29 (bU.new_ hn) rfl), rfl⟩) <| .t (fun _ w hn k => ⟨_, v_load rfl (k.fx 5 df) (l_agg Tryz.isAgg29 Tryz.sizeOf29 (bV.new_ hn) rfl), rfl⟩) <| .o1 (ck rfl rfl rfl (fun _ w hn k => ⟨#[.string ⟨#[47]⟩, vv (cleanV v) az an aA ao, vv (cleanV u) aB ap aC aq], args3 (k.eq1 0 41 rfl) (k.eq1 1 42 rfl) (k.eq1 2 43 rfl), fun _ => by kernel_rfl, sumsB_c (cleanV v) _ _ _ _ (cleanV u) _ _ _ _ _ (bX.new_ hn) (bY.new_ hn) (bZ.new_ hn) (b0.new_ hn) hvv.clean hvu.clean hns hk dl⟩) fun _ => rfl) <| .t (fun _ w hn k => ⟨_, v_extract rfl (k.eq1 3 44 rfl) rfl, rfl⟩) <| .t (fun _ w hn k => ⟨_, v_extract rfl (k.eq1 3 44 rfl) rfl, rfl⟩) <| .off <| .off .nil
 refine aftI aK bS bT fun a4 d1 aL b2 b3 b4 ay => ?_
 have a5 := ay.fx 6 dg
 have a6 := ay.ge 4 45 rfl
 have a7 := ay.ge 5 46 rfl
 have b5 := bW.new_ b4
 obtain ⟨dh, a8, a9, b6, dG⟩ := s_many (P := Tryz.prog) (t := 29) (i := 0) [iv 0, iv 0, iv 0, .bool false, sv none ([]) 0, sv none ([]) 0, iv 0] Tryz.sizeOf29 rfl rfl rfl b5 lb
 have b7 : Blk dh aQ 29 [iv 0, iv 0, iv 0, .bool false, sv none ([]) 0, sv none ([]) 0, iv 0] := a9
 refine st_act rfl rfl fun d2 b8 => a_store' rfl a5 a6 a8 (b8 _ _ trivial ?_)
 have b9 := b3.trans b6 (fun _ h b => by subst b; omega)
 refine st_take rfl rfl (y_assign (v := iv 2) rfl a7) rfl ?_
 obtain ⟨di, ae⟩ : ∃ a', a' = a4.put (some 7) (iv 2) := ⟨_, rfl⟩
 have dH := pz ae aL
 have ca := pd ae b2
 have dj := pn ae a5 (by decide)
 have d3 := pn ae a6 (by decide)
 have d4 := pn ae a7 (by decide)
 have dk : di.eval (.tmp 7) = iv 2 := by rw [ae]; exact put_same _ _ _ (by rw [aL]; decide)
 show stepsTo _ _ _ _ _ (a4.put (some 7) (iv 2)) _
 rw [← ae]
 refine st_nil (b1 _ _ ?_)
 refine wp_ret (ret_k ca (v := .tuple #[vv (Vl.mk 0 0 0 false [] [] 0) none 0 none 0, iv 2]) (res_ct rfl dj dk (l_agg Tryz.isAgg29 Tryz.sizeOf29 b7 rfl)) ?_)
 exact ⟨rfl, b9⟩
theorem beside_c (a : Bool) (Aa : Option Addr) (ma : List Nat) (ca : Nat) (x : Nm) (w : World) (hra : SRow w .u32 Aa ma ca) (ha : Limbs ma) (hs : ma.length ≤ 1000000) (hlo : -9223372036854775808 ≤ x.n) (hhi : x.n ≤ 9223372036854775807) : Calls Tryz.prog 153 #[.agg #[.bool a, sv Aa ma ca], nv x] w (IsRet (.tuple #[iv ((besideO a ma x).1), .bool ((besideO a ma x).2)]) w) := by
 refine enter_abs Tryz.func153 rfl fun a0 al bz hp => ?_
 have al : a0.tmps.size = 19 := al
 have ao : New w w := Upd.refl _ _
 have hp0 : a0.eval (.tmp 0) = .agg #[.bool a, sv Aa ma ca] := hp 0 _ rfl
 have hp1 : a0.eval (.tmp 1) = nv x := hp 1 _ rfl
 have hnl : (canon x.n.natAbs).length ≤ 8 := (canon_len8 _).2 (by omega)
 refine wp_seq_k fun K1 bA => ?_
 refine wp_g [true, true, true, true] [] [] 19
   [IsNew w 26 [.bool a, sv Aa ma ca], IsNew w 23 [iv x.k, iv x.n], ve (iv 0), vF]
   [0, 1] (newsCons (fun v w h => IsNew.old h) (newsCons (fun v w h => IsNew.old h) newsNil)) al (.nw (.nw (.eq (.eq (.nil))))) ?_ (fun i h => by cases h) ?_
 exact .o2 (step_allocN (cs := [.bool a, sv Aa ma ca]) (t := 26) rfl (noG rfl) (fun _ w hn k => v_box rfl (k.fx 0 hp0) (fun w => rfl)) (fun q _ hq hb => ⟨q, rfl, hq, hb⟩)) <| .o2 (step_allocN (cs := [iv x.k, iv x.n]) (t := 23) rfl (noG rfl) (fun _ w hn k => v_box rfl (k.fx 1 hp1) (fun w => rfl)) (fun q _ hq hb => ⟨q, rfl, hq, hb⟩)) <| .t (fun _ w hn k => ⟨_, v_assign rfl rfl, rfl⟩) <| .t (fun _ w hn k => ⟨_, v_assign rfl rfl, rfl⟩) .nil
 refine aftI al bz ao fun a2 w3 aP bB aY b6 aQ => ?_
 obtain ⟨q9, h8, aZ, a1⟩ : IsNew _ _ _ _ _ := aQ.got 0 2 rfl (by kernel_rfl)
 obtain ⟨aR, aS, a3, ap⟩ : IsNew _ _ _ _ _ := aQ.got 1 3 rfl (by kernel_rfl)
 have bU := Nat.le_trans ao.size aZ
 have bV := Nat.le_trans ao.size a3
 refine st_nil (bA _ _ (wp_seq_k fun b7 a4 => ?_))
 refine wp_seq_k fun b8 a5 => ?_
 refine wp_g0 [true, true] [] 19
   [ve (pv aR), ve (iv x.k)] aP (.eq (.eq (.nil))) ?_ ?_
 exact .f (fun k => k.fx 3 aS) <| .t (fun _ w hn k => ⟨_, v_load rfl (k.eq1 0 6 rfl) (l_one Tryz.isAgg3 ((ap.new_ hn).cell 0)), rfl⟩) .nil
 refine aftI aP bB aY fun b9 cb aq a6 a7 ar ai => ?_
 have bC := ai.fx 2 h8
 have bD := ai.fx 3 aS
 have aT := ai.ge 1 7 rfl
 have a8 := a1.new_ ar
 have a9 := ap.new_ ar
 refine st_nil (a5 _ _ ?_)
 refine wp_block ?_
 refine wp_seq_k fun cc ba => ?_
 refine wp_g0 [true, true] [] 19
   [ve (.bool (decide (x.k = 2))), ve (.bool (decide (x.k = 2)))] aq (.eq (.eq (.nil))) ?_ ?_
 exact .t (fun _ w hn k => ⟨_, v_bin rfl (k.fx 7 aT) rfl (fun _ => rfl) (r_eql rfl), rfl⟩) <| .a (fun k => k.eq1 0 9 rfl) .nil
 refine aftI aq a6 a7 fun cd ce ad au av aw ae => ?_
 have bE := ae.fx 2 bC
 have bF := ae.fx 3 bD
 have aU := ae.fx 7 aT
 have aV := ae.ge 1 8 rfl
 have bb := a8.new_ aw
 have bd := a9.new_ aw
 refine st_nil (ba _ _ ?_)
 rcases bc (decide (x.k = 2)) with aa | aa
 have aF := oT aa
 have be := hB aV aa
 refine wp_cond_true be ?_
 refine wp_seq_k fun cf bf => ?_
 refine wp_g0 [true, true] [] 19
   [ve (iv 0), vF] ad (.eq (.eq (.nil))) ?_ ?_
 exact .t (fun _ w hn k => ⟨_, v_assign rfl rfl, rfl⟩) <| .t (fun _ w hn k => ⟨_, v_assign rfl rfl, rfl⟩) .nil
 refine aftI ad au av fun ch ci bW bg bh bX ax => ?_
 have bG := ax.ge 0 4 rfl
 have bH := ax.ge 1 5 rfl
 refine st_nil (bf _ _ ?_)
 refine wp_ret (ret_k bg (v := .tuple #[iv 0, .bool false]) (res_tt rfl bG bH _) ?_)
 refine ⟨?_, bh⟩
 show Ending.returned (.tuple #[iv 0, .bool false]) = Ending.returned (.tuple #[iv ((besideO a ma x).1), .bool ((besideO a ma x).2)])
 first | rfl | (simp only [besideO, aa, good_canon (z := x.n) (by omega), bsm] <;> rfl) | (exfalso; omega)
 have aF := oF aa
 have bi := hB aV aa
 refine wp_cond_false bi ?_
 refine wp_seq_k fun cj bj => ?_
 refine wp_g0 [true, true] [] 19
   [ve (.bool (decide (x.k = 3))), ve (.bool (decide (x.k = 3)))] ad (.eq (.eq (.nil))) ?_ ?_
 exact .t (fun _ w hn k => ⟨_, v_bin rfl (k.fx 7 aU) rfl (fun _ => rfl) (r_eql rfl), rfl⟩) <| .a (fun k => k.eq1 0 11 rfl) .nil
 refine aftI ad au av fun cl cm af ay az aA ag => ?_
 have bI := ag.fx 2 bE
 have bJ := ag.fx 3 bF
 have bK := ag.fx 7 aU
 have aW := ag.ge 1 10 rfl
 have bk := bb.new_ aA
 have bl := bd.new_ aA
 refine st_nil (bj _ _ ?_)
 rcases bc (decide (x.k = 3)) with ac | ac
 have aG := oT ac
 have bm := hB aW ac
 refine wp_cond_true bm ?_
 refine wp_seq_k fun cn bn => ?_
 refine wp_g0 [true, true] [] 19
   [ve (iv (-1)), vT] af (.eq (.eq (.nil))) ?_ ?_
 exact .t (fun _ w hn k => ⟨_, v_assign rfl rfl, rfl⟩) <| .t (fun _ w hn k => ⟨_, v_assign rfl rfl, rfl⟩) .nil
 refine aftI af ay az fun co cp bY bo bp bZ aB => ?_
 have bL := aB.ge 0 4 rfl
 have bM := aB.ge 1 5 rfl
 refine st_nil (bn _ _ ?_)
 refine wp_ret (ret_k bo (v := .tuple #[iv (-1), .bool true]) (res_tt rfl bL bM _) ?_)
 refine ⟨?_, bp⟩
 show Ending.returned (.tuple #[iv (-1), .bool true]) = Ending.returned (.tuple #[iv ((besideO a ma x).1), .bool ((besideO a ma x).2)])
 first | rfl | (simp only [besideO, aa, ac, good_canon (z := x.n) (by omega), bsm] <;> rfl) | (exfalso; omega)
 have aG := oF ac
 have bq := hB aW ac
 refine wp_cond_false bq ?_
 refine wp_seq_k fun cq br => ?_
 refine wp_g0 [true, true] [] 19
   [ve (.bool (decide (x.k = 4))), ve (.bool (decide (x.k = 4)))] af (.eq (.eq (.nil))) ?_ ?_
 exact .t (fun _ w hn k => ⟨_, v_bin rfl (k.fx 7 bK) rfl (fun _ => rfl) (r_eql rfl), rfl⟩) <| .a (fun k => k.eq1 0 13 rfl) .nil
 refine aftI af ay az fun cr ct ah aC aj aD ak => ?_
 have bN := ak.fx 2 bI
 have bO := ak.fx 3 bJ
 have aX := ak.ge 1 12 rfl
 have bs := bk.new_ aD
 have bt := bl.new_ aD
 refine st_nil (br _ _ ?_)
 rcases bc (decide (x.k = 4)) with ab | ab
 have aE := oT ab
 have aH := hB aX ab
 refine wp_cond_true aH ?_
 refine wp_seq_k fun b0 aI => ?_
 refine wp_g0 [true, true] [] 19
   [ve (iv 1), vT] ah (.eq (.eq (.nil))) ?_ ?_
 exact .t (fun _ w hn k => ⟨_, v_assign rfl rfl, rfl⟩) <| .t (fun _ w hn k => ⟨_, v_assign rfl rfl, rfl⟩) .nil
 refine aftI ah aC aj fun b1 b2 bQ aJ aK bR am => ?_
 have bu := am.ge 0 4 rfl
 have bv := am.ge 1 5 rfl
 refine st_nil (aI _ _ ?_)
 refine wp_ret (ret_k aJ (v := .tuple #[iv 1, .bool true]) (res_tt rfl bu bv _) ?_)
 refine ⟨?_, aK⟩
 show Ending.returned (.tuple #[iv 1, .bool true]) = Ending.returned (.tuple #[iv ((besideO a ma x).1), .bool ((besideO a ma x).2)])
 first | rfl | (simp only [besideO, aa, ac, ab, good_canon (z := x.n) (by omega), bsm] <;> rfl) | (exfalso; omega)
 have aE := oF ab
 have aL := hB aX ab
 refine wp_cond_false aL ?_
 refine wp_skip ?_
 refine a4 _ _ ?_
 refine wp_seq_k fun b3 aM => ?_
 refine wp_g0 [true, true, true, true, true, true, true] [] 19
   [ve (.agg #[.bool a, sv Aa ma ca]), ve (.pointer (some ⟨aR, 1, none⟩)), ve (iv x.n), (fun (v_ : Value) (W : World) => ∃ (A3 : Option Addr) (c4 : Nat), v_ = .agg #[.bool (decide (x.n < 0)), sv A3 (canon (x.n).natAbs) c4] ∧ SRow W .u32 A3 (canon (x.n).natAbs) c4), ve (iv (cmpZ (goodI a ma) (goodI (decide (x.n < 0)) (canon (x.n).natAbs)))), ve (iv (cmpZ (goodI a ma) (goodI (decide (x.n < 0)) (canon (x.n).natAbs)))), vT] ah (.eq (.eq (.eq (.cons (fun _ _ _ n ⟨_, _, e, h⟩ => ⟨_, _, e, h.new_ n⟩) (.eq (.eq (.eq (.nil)))))))) ?_ ?_
 refine .t (fun _ w hn k => ⟨_, v_load rfl (k.fx 2 bN) (l_two Tryz.isAgg26 Tryz.sizeOf26 (bs.new_ hn)), rfl⟩) <| .f (fun k => k.fx 3 bO) <| .t (fun _ w hn k => ⟨_, v_load rfl (k.eq1 1 15 rfl) (l_one Tryz.isAgg3 ((bt.new_ hn).cell 1)), rfl⟩) ?_
 refine .o1 (tkC rfl (noG rfl) rfl fun _ w hn k => (by
       refine ⟨#[iv x.n], _, args1 (k.eq1 2 16 rfl), fun w => by kernel_rfl, bOf_c x.n _ (by omega) (by omega), ?_⟩
       rintro e w' ⟨A1, c2, rfl, hmo0, hm⟩
       exact ⟨_, rfl, hm, ⟨A1, c2, rfl, hmo0⟩⟩)) ?_
 refine .o1 (tkC rfl (noG rfl) rfl fun _ w hn k => (by
       obtain ⟨A5, c6, e7, bP⟩ : (fun (v_ : Value) (W : World) => ∃ (A3 : Option Addr) (c4 : Nat), v_ = .agg #[.bool (decide (x.n < 0)), sv A3 (canon (x.n).natAbs) c4] ∧ SRow W .u32 A3 (canon (x.n).natAbs) c4) _ _ := k.dep 3 17 (by kernel_rfl) (by kernel_rfl)
       refine ⟨#[.agg #[.bool a, sv Aa ma ca], .agg #[.bool (decide (x.n < 0)), sv A5 (canon (x.n).natAbs) c6]], _, args2 (k.eq1 0 14 rfl) e7, fun w => by kernel_rfl, bCmp_c a _ ma _ (decide (x.n < 0)) _ (canon (x.n).natAbs) _ _ (hra.new_ (aj.transNew hn)) bP ha (limbs_canon _) (by first | omega | (simp only [List.length_nil, List.length_take, List.length_drop]; omega) | (simp only [List.length_cons, List.length_nil]; omega)) (by first | omega | (simp only [List.length_nil, List.length_take, List.length_drop]; omega) | (simp only [List.length_cons, List.length_nil]; omega)), ?_⟩
       rintro e w' ⟨rfl, hm⟩
       exact ⟨_, rfl, hm, rfl⟩)) ?_
 exact .a (fun k => k.eq1 4 18 rfl) <| .t (fun _ w hn k => ⟨_, v_assign rfl rfl, rfl⟩) .nil
 refine aftI ah aC aj fun b4 b5 bS aN aO bT an => ?_
 have bw := an.ge 5 4 rfl
 have bx := an.ge 6 5 rfl
 refine st_nil (aM _ _ ?_)
 refine wp_ret (ret_k aN (v := .tuple #[iv (cmpZ (goodI a ma) (goodI (decide (x.n < 0)) (canon (x.n).natAbs))), .bool true]) (res_tt rfl bw bx _) ?_)
 refine ⟨?_, aO⟩
 show Ending.returned (.tuple #[iv (cmpZ (goodI a ma) (goodI (decide (x.n < 0)) (canon (x.n).natAbs))), .bool true]) = Ending.returned (.tuple #[iv ((besideO a ma x).1), .bool ((besideO a ma x).2)])
 first | rfl | (simp only [besideO, aa, ac, ab, good_canon (z := x.n) (by omega), bsm] <;> rfl) | (exfalso; omega)
theorem orderB_c (v : Vl) (Av : Option Addr) (cv : Nat) (Bv : Option Addr) (dv : Nat) (u : Vl) (Au : Option Addr) (cu : Nat) (Bu : Option Addr) (du : Nat) (w : World) (hmv : SRow w .u32 Av v.mag cv) (hsv : SRow w .u16 Bv v.s dv) (hmu : SRow w .u32 Au u.mag cu) (hsu : SRow w .u16 Bu u.s du) (hvv : VOk v) (hvu : VOk u) (hk1 : v.k = 4) (hk2 : u.k = 3) : Calls Tryz.prog 81 #[vv v Av cv Bv dv, vv u Au cu Bu du] w (IsRet (.tuple #[iv ((besideO v.neg v.mag (Nm.mk u.nk u.nn)).1), .bool ((besideO v.neg v.mag (Nm.mk u.nk u.nn)).2)]) w) := by
 refine enter_abs Tryz.func81 rfl fun a0 ad aN hp => ?_
 have ad : a0.tmps.size = 65 := ad
 have ae : New w w := Upd.refl _ _
 have hp0 : a0.eval (.tmp 0) = vv v Av cv Bv dv := hp 0 _ rfl
 have hp1 : a0.eval (.tmp 1) = vv u Au cu Bu du := hp 1 _ rfl
 have a6 := hvv.mlen
 have a7 := hvu.nlo
 have a8 := hvu.nhi
 refine wp_seq_k fun K1 aO => ?_
 refine wp_g [true, true, true, true] [] [] 65
   [IsNew w 29 [iv v.k, iv v.nk, iv v.nn, .bool v.neg, sv Av v.mag cv, sv Bv v.s dv, iv v.ref], IsNew w 29 [iv u.k, iv u.nk, iv u.nn, .bool u.neg, sv Au u.mag cu, sv Bu u.s du, iv u.ref], ve (iv 0), vF]
   [0, 1] (newsCons (fun v w h => IsNew.old h) (newsCons (fun v w h => IsNew.old h) newsNil)) ad (.nw (.nw (.eq (.eq (.nil))))) ?_ (fun i h => by cases h) ?_
 exact .o2 (step_allocN (cs := [iv v.k, iv v.nk, iv v.nn, .bool v.neg, sv Av v.mag cv, sv Bv v.s dv, iv v.ref]) (t := 29) rfl (noG rfl) (fun _ w hn k => v_box rfl (k.fx 0 hp0) (fun w => rfl)) (fun q _ hq hb => ⟨q, rfl, hq, hb⟩)) <| .o2 (step_allocN (cs := [iv u.k, iv u.nk, iv u.nn, .bool u.neg, sv Au u.mag cu, sv Bu u.s du, iv u.ref]) (t := 29) rfl (noG rfl) (fun _ w hn k => v_box rfl (k.fx 1 hp1) (fun w => rfl)) (fun q _ hq hb => ⟨q, rfl, hq, hb⟩)) <| .t (fun _ w hn k => ⟨_, v_assign rfl rfl, rfl⟩) <| .t (fun _ w hn k => ⟨_, v_assign rfl rfl, rfl⟩) .nil
 refine aftI ad aN ae fun a2 w3 ap aP aw a9 aq => ?_
 obtain ⟨q9, h8, ax, af⟩ : IsNew _ _ _ _ _ := aq.got 0 2 rfl (by kernel_rfl)
 obtain ⟨ar, au, ay, ag⟩ : IsNew _ _ _ _ _ := aq.got 1 3 rfl (by kernel_rfl)
 have aZ := Nat.le_trans ae.size ax
 have a1 := Nat.le_trans ae.size ay
 refine st_nil (aO _ _ (wp_seq_k fun ba a3 => ?_))
 refine wp_block ?_
 refine wp_seq_k fun bb az => ?_
 refine wp_g0 (.replicate 9 true) [] 65
   [ve (pv q9), ve (iv v.k), ve (.bool (decide (v.k = 4))), ve (.bool (decide (v.k = 4))), ve (gq (decide (v.k = 4)) (pv ar)), ve (gq (decide (v.k = 4)) (iv u.k)), ve (gq (decide (v.k = 4)) (.bool (decide (u.k = 4)))), ve (.bool ((decide (v.k = 4)) && (decide (u.k = 4)))), ve (.bool ((decide (v.k = 4)) && (decide (u.k = 4))))] ap (.eq (.eq (.eq (.eq (.eq (.eq (.eq (.eq (.eq (.nil)))))))))) ?_ ?_
 exact .f (fun k => k.fx 2 h8) <| .t (fun _ w hn k => ⟨_, v_load rfl (k.eq1 0 9 rfl) (l_one Tryz.isAgg3 ((af.new_ hn).cell 0)), rfl⟩) <| .t (fun _ w hn k => ⟨_, v_bin rfl (k.eq1 1 10 rfl) rfl (fun _ => rfl) (r_eql rfl), rfl⟩) <| .m (fun k => k.eq1 2 11 rfl) <| .o1 (sc (G := (decide (v.k = 4))) rfl rfl rfl (fun _ _ k => g0 (k.eq1 3 12 rfl)) (fun hG _ w hn k => v_field rfl (k.fx 3 au) (fun w => rfl))) <| .o1 (sc (G := (decide (v.k = 4))) rfl rfl rfl (fun _ _ k => g0 (k.eq1 3 12 rfl)) (fun hG _ w hn k => v_load rfl (cT hG (k.eq1 4 13 rfl)) (l_one Tryz.isAgg3 ((ag.new_ hn).cell 0)))) <| .o1 (sc (G := (decide (v.k = 4))) rfl rfl rfl (fun _ _ k => g0 (k.eq1 3 12 rfl)) (fun hG _ w hn k => v_bin rfl (cT hG (k.eq1 5 14 rfl)) rfl (fun _ => rfl) (r_eql rfl))) <| .t (fun _ w hn k => ⟨_, v_and rfl (k.eq1 3 12 rfl) (fun hg => (cT hg (k.eq1 6 15 rfl))) rfl, rfl⟩) <| .a (fun k => k.eq1 7 16 rfl) .nil
 refine aftI ap aP aw fun bd be ah aA aB ai aa => ?_
 have av := aa.fx 2 h8
 have aQ := aa.fx 3 au
 have aR := aa.ge 8 8 rfl
 have aj := af.new_ ai
 have aC := ag.new_ ai
 refine st_nil (az _ _ ?_)
 have ak : (((decide (v.k = 4)) && (decide (u.k = 4)))) = false := (by rw [show ((decide (v.k = 4))) = true from decide_eq_true (hk1), show ((decide (u.k = 4))) = false from decide_eq_false (by omega)]; rfl)
 have aD := hB aR ak
 refine wp_cond_false aD ?_
 refine wp_seq_k fun bf aE => ?_
 refine wp_g0 [true, true, true, true] [] 65
   [ve (pv q9), ve (iv v.k), ve (.bool (decide (v.k = 4))), ve (.bool (decide (v.k = 4)))] ah (.eq (.eq (.eq (.eq (.nil))))) ?_ ?_
 exact .f (fun k => k.fx 2 av) <| .t (fun _ w hn k => ⟨_, v_load rfl (k.eq1 0 23 rfl) (l_one Tryz.isAgg3 ((aj.new_ hn).cell 0)), rfl⟩) <| .t (fun _ w hn k => ⟨_, v_bin rfl (k.eq1 1 24 rfl) rfl (fun _ => rfl) (r_eql rfl), rfl⟩) <| .a (fun k => k.eq1 2 25 rfl) .nil
 refine aftI ah aA aB fun bg bh al aF am an ab => ?_
 have aS := ab.fx 2 av
 have aT := ab.fx 3 aQ
 have aU := ab.ge 3 22 rfl
 have aG := aj.new_ an
 have aH := aC.new_ an
 refine st_nil (aE _ _ ?_)
 have ac : (decide (v.k = 4)) = true := decide_eq_true (hk1)
 have aX := oT ac
 have aI := hB aU ac
 have aJ : (decide (u.k = 4)) = false := ax1 ak ac
 have aY := oF aJ
 refine wp_cond_true aI ?_
 refine wp_seq_k fun bi aK => ?_
 refine wp_g0 (.replicate 9 true) [] 65
   [ve (.pointer (some ⟨q9, 3, none⟩)), ve (.agg #[.bool v.neg, sv Av v.mag cv]), ve (.pointer (some ⟨ar, 1, none⟩)), ve (nv (Nm.mk u.nk u.nn)), ve (.tuple #[iv ((besideO v.neg v.mag (Nm.mk u.nk u.nn)).1), .bool ((besideO v.neg v.mag (Nm.mk u.nk u.nn)).2)]), ve (iv ((besideO v.neg v.mag (Nm.mk u.nk u.nn)).1)), ve (.bool ((besideO v.neg v.mag (Nm.mk u.nk u.nn)).2)), ve (iv ((besideO v.neg v.mag (Nm.mk u.nk u.nn)).1)), ve (.bool ((besideO v.neg v.mag (Nm.mk u.nk u.nn)).2))] al (.eq (.eq (.eq (.eq (.eq (.eq (.eq (.eq (.eq (.nil)))))))))) ?_ ?_
 exact .f (fun k => k.fx 2 aS) <| .t (fun _ w hn k => ⟨_, v_load rfl (k.eq1 0 26 rfl) (l_part Tryz.isAgg26 Tryz.sizeOf26 (aG.new_ hn) lb), rfl⟩) <| .f (fun k => k.fx 3 aT) <| .t (fun _ w hn k => ⟨_, v_load rfl (k.eq1 2 28 rfl) (l_part Tryz.isAgg23 Tryz.sizeOf23 (aH.new_ hn) lb), rfl⟩) <| .o1 (ck rfl rfl rfl (fun _ w hn k => ⟨#[.agg #[.bool v.neg, sv Av v.mag cv], nv (Nm.mk u.nk u.nn)], args2 (k.eq1 1 27 rfl) (k.eq1 3 29 rfl), fun _ => by kernel_rfl, beside_c v.neg _ v.mag _ (Nm.mk u.nk u.nn) _ (hmv.new_ (am.transNew hn)) hvv.limbs (by first | omega | (simp only [List.length_nil, List.length_take, List.length_drop]; omega) | (simp only [List.length_cons, List.length_nil]; omega)) (by omega) (by omega)⟩) fun _ => rfl) <| .t (fun _ w hn k => ⟨_, v_extract rfl (k.eq1 4 30 rfl) rfl, rfl⟩) <| .t (fun _ w hn k => ⟨_, v_extract rfl (k.eq1 4 30 rfl) rfl, rfl⟩) <| .a (fun k => k.eq1 5 31 rfl) <| .a (fun k => k.eq1 6 32 rfl) .nil
 refine aftI al aF am fun bj bk a4 aL aM a5 ao => ?_
 have aV := ao.ge 7 4 rfl
 have aW := ao.ge 8 5 rfl
 refine st_nil (aK _ _ ?_)
 refine wp_ret (ret_k aL (v := .tuple #[iv ((besideO v.neg v.mag (Nm.mk u.nk u.nn)).1), .bool ((besideO v.neg v.mag (Nm.mk u.nk u.nn)).2)]) (res_tt rfl aV aW _) ?_)
 exact ⟨rfl, aM⟩
theorem truthN_c (t : Bool) (w : World) : Calls Tryz.prog 39 #[.bool t] w (IsRet (vv (Vl.mk 2 0 0 false [] [] (truthR t)) none 0 none 0) w) := by
 refine enter_abs Tryz.func39 rfl fun a0 ac aX hp => ?_
 have ac : a0.tmps.size = 6 := ac
 have an : New w w := Upd.refl _ _
 have hp0 : a0.eval (.tmp 0) = .bool t := hp 0 _ rfl
 refine wp_seq_k fun K1 aY => ?_
 refine wp_g [true] [] [] 6
   [IsNew w 29 [iv 0, iv 0, iv 0, .bool false, sv none ([]) 0, sv none ([]) 0, iv 0]]
   [0] (newsCons (fun v w h => IsNew.old h) newsNil) ac (.nw (.nil)) ?_ (fun i h => by cases h) ?_
 exact .o2 (step_allocN (cs := [iv 0, iv 0, iv 0, .bool false, sv none ([]) 0, sv none ([]) 0, iv 0]) (t := 29) rfl (noG rfl) (fun _ w hn k => rfl) (fun q _ hq hb => ⟨q, rfl, hq, hb⟩)) .nil
 refine aftI ac aX an fun a2 w3 ao aZ ax bb ap => ?_
 have h8 := ap.fx 0 hp0
 obtain ⟨aq, h9, ay, az⟩ : IsNew _ _ _ _ _ := ap.got 0 2 rfl (by kernel_rfl)
 have a6 := Nat.le_trans an.size ay
 refine st_nil (aY _ _ (wp_seq_k fun bd aA => ?_))
 refine wp_seq_k fun be aB => ?_
 refine wp_g0 [true] [] 6
   [ve (.bool t)] ao (.eq (.nil)) ?_ ?_
 exact .m (fun k => k.fx 0 h8) .nil
 refine aftI ao aZ ax fun bf bg ab ad ae aC af => ?_
 have ar := af.fx 2 h9
 have au := af.ge 0 3 rfl
 have ag := az.new_ aC
 refine st_nil (aB _ _ ?_)
 rcases bc (t) with aa | aa
 have aD := hB au aa
 refine wp_cond_true aD ?_
 refine wp_seq_k fun bh aE => ?_
 refine wp_g0 [true, false] [(1, false)] 6
   [ve (vv (Vl.mk 2 0 0 false [] [] 1) none 0 none 0), vt] ab (.eq (.tt (.nil))) ?_ ?_
 exact .t (fun _ w hn k => ⟨_, v_build (ps := [(0, iv 2), (4, iv 1)]) rfl (parts2 rfl rfl) (by kernel_rfl), rfl⟩) <| .off .nil
 refine aftI ab ad ae fun bi bj a7 aF aG aH ah => ?_
 have av := ah.fx 2 ar
 have a1 := ah.ge 0 4 rfl
 have aI := ag.new_ aH
 obtain ⟨a3, aj, ak, aJ, a8⟩ := s_many (P := Tryz.prog) (t := 29) (i := 0) [iv 2, iv 0, iv 0, .bool false, sv none ([]) 0, sv none ([]) 0, iv 1] Tryz.sizeOf29 rfl rfl rfl aI lb
 have aK : Blk a3 aq 29 [iv 2, iv 0, iv 0, .bool false, sv none ([]) 0, sv none ([]) 0, iv 1] := ak
 refine st_act rfl rfl fun bk aL => a_store' rfl av a1 aj (aL _ _ trivial ?_)
 have aM := aG.trans aJ (fun _ h b => by subst b; omega)
 refine st_nil (aE _ _ ?_)
 refine wp_ret (ret_k aF (v := vv (Vl.mk 2 0 0 false [] [] 1) none 0 none 0) (res_c rfl av (l_agg Tryz.isAgg29 Tryz.sizeOf29 aK rfl)) ?_)
 refine ⟨?_, aM⟩
 show Ending.returned (vv (Vl.mk 2 0 0 false [] [] 1) none 0 none 0) = Ending.returned (vv (Vl.mk 2 0 0 false [] [] (truthR t)) none 0 none 0)
 first | rfl | (simp only [truthR, aa, bsm] <;> rfl) | (exfalso; omega)
 have aN := hB au aa
 refine wp_cond_false aN ?_
 refine wp_skip ?_
 refine aA _ _ ?_
 refine wp_seq_k fun bl aO => ?_
 refine wp_g0 [true, false] [(1, false)] 6
   [ve (vv (Vl.mk 2 0 0 false [] [] 0) none 0 none 0), vt] ab (.eq (.tt (.nil))) ?_ ?_
 exact .t (fun _ w hn k => ⟨_, v_build (ps := [(0, iv 2)]) rfl (parts1 rfl) (by kernel_rfl), rfl⟩) <| .off .nil
 refine aftI ab ad ae fun bm bn a9 aP aQ aR ai => ?_
 have aw := ai.fx 2 ar
 have a4 := ai.ge 0 5 rfl
 have aS := ag.new_ aR
 obtain ⟨a5, al, am, aT, ba⟩ := s_many (P := Tryz.prog) (t := 29) (i := 0) [iv 2, iv 0, iv 0, .bool false, sv none ([]) 0, sv none ([]) 0, iv 0] Tryz.sizeOf29 rfl rfl rfl aS lb
 have aU : Blk a5 aq 29 [iv 2, iv 0, iv 0, .bool false, sv none ([]) 0, sv none ([]) 0, iv 0] := am
 refine st_act rfl rfl fun bo aV => a_store' rfl aw a4 al (aV _ _ trivial ?_)
 have aW := aQ.trans aT (fun _ h b => by subst b; omega)
 refine st_nil (aO _ _ ?_)
 refine wp_ret (ret_k aP (v := vv (Vl.mk 2 0 0 false [] [] 0) none 0 none 0) (res_c rfl aw (l_agg Tryz.isAgg29 Tryz.sizeOf29 aU rfl)) ?_)
 refine ⟨?_, aW⟩
 show Ending.returned (vv (Vl.mk 2 0 0 false [] [] 0) none 0 none 0) = Ending.returned (vv (Vl.mk 2 0 0 false [] [] (truthR t)) none 0 none 0)
 first | rfl | (simp only [truthR, aa, bsm] <;> rfl) | (exfalso; omega)
theorem lessB_c (v : Vl) (Av : Option Addr) (cv : Nat) (Bv : Option Addr) (dv : Nat) (u : Vl) (Au : Option Addr) (cu : Nat) (Bu : Option Addr) (du : Nat)   (w : World) (hmv : SRow w .u32 Av v.mag cv) (hsv : SRow w .u16 Bv v.s dv) (hmu : SRow w .u32 Au u.mag cu) (hsu : SRow w .u16 Bu u.s du) (hvv : VOk v) (hvu : VOk u) (hk1 : v.k = 4) (hk2 : u.k = 3) (e2 : (numericV v).2 = 0) (e3 : (numericV u).2 = 0) (hj1 : (numericV v).1.k = 4) (hj2 : (numericV u).1.k = 3) : Calls Tryz.prog 38 #[vv v Av cv Bv dv, vv u Au cu Bu du, .bool false, .bool false] w (IsRet (.tuple #[vv (Vl.mk 2 0 0 false [] [] (truthR ((besideO (numericV v).1.neg (numericV v).1.mag (Nm.mk (numericV u).1.nk (numericV u).1.nn)).2 && (decide ((besideO (numericV v).1.neg (numericV v).1.mag (Nm.mk (numericV u).1.nk (numericV u).1.nn)).1 < 0) != false)))) none 0 none 0, iv 0]) w) := by
 refine enter_abs Tryz.func38 rfl fun a0 bt e4 hp => ?_
 have bt : a0.tmps.size = 100 := bt
 have bu : New w w := Upd.refl _ _
 have hp0 : a0.eval (.tmp 0) = vv v Av cv Bv dv := hp 0 _ rfl
 have hp1 : a0.eval (.tmp 1) = vv u Au cu Bu du := hp 1 _ rfl
 have hp2 : a0.eval (.tmp 2) = .bool false := hp 2 _ rfl
 have hp3 : a0.eval (.tmp 3) = .bool false := hp 3 _ rfl
 refine wp_seq_k fun K1 e5 => ?_
 refine wp_g [true, true, true, true] [] [] 100
   [IsNew w 29 [iv v.k, iv v.nk, iv v.nn, .bool v.neg, sv Av v.mag cv, sv Bv v.s dv, iv v.ref], IsNew w 29 [iv u.k, iv u.nk, iv u.nn, .bool u.neg, sv Au u.mag cu, sv Bu u.s du, iv u.ref], IsNew w 29 [iv 0, iv 0, iv 0, .bool false, sv none ([]) 0, sv none ([]) 0, iv 0], ve (iv 0)]
   [0, 1, 2] (newsCons (fun v w h => IsNew.old h) (newsCons (fun v w h => IsNew.old h) (newsCons (fun v w h => IsNew.old h) newsNil))) bt (.nw (.nw (.nw (.eq (.nil))))) ?_ (fun i h => by cases h) ?_
 exact .o2 (step_allocN (cs := [iv v.k, iv v.nk, iv v.nn, .bool v.neg, sv Av v.mag cv, sv Bv v.s dv, iv v.ref]) (t := 29) rfl (noG rfl) (fun _ w hn k => v_box rfl (k.fx 0 hp0) (fun w => rfl)) (fun q _ hq hb => ⟨q, rfl, hq, hb⟩)) <| .o2 (step_allocN (cs := [iv u.k, iv u.nk, iv u.nn, .bool u.neg, sv Au u.mag cu, sv Bu u.s du, iv u.ref]) (t := 29) rfl (noG rfl) (fun _ w hn k => v_box rfl (k.fx 1 hp1) (fun w => rfl)) (fun q _ hq hb => ⟨q, rfl, hq, hb⟩)) <| .o2 (step_allocN (cs := [iv 0, iv 0, iv 0, .bool false, sv none ([]) 0, sv none ([]) 0, iv 0]) (t := 29) rfl (noG rfl) (fun _ w hn k => rfl) (fun q _ hq hb => ⟨q, rfl, hq, hb⟩)) <| .t (fun _ w hn k => ⟨_, v_assign rfl rfl, rfl⟩) .nil
 refine aftI bt e4 bu fun a2 w3 dJ e6 dM gx aG => ?_
 have h8 := aG.fx 2 hp2
 have h9 := aG.fx 3 hp3
 obtain ⟨a1, bv, dN, bL⟩ : IsNew _ _ _ _ _ := aG.got 0 4 rfl (by kernel_rfl)
 obtain ⟨aJ, bw, dO, bM⟩ : IsNew _ _ _ _ _ := aG.got 1 5 rfl (by kernel_rfl)
 obtain ⟨bi, bN, dP, dQ⟩ : IsNew _ _ _ _ _ := aG.got 2 8 rfl (by kernel_rfl)
 have hne22 : a1 ≠ aJ := aG.ne 0 1 4 5 bv bw
 have hne23 : a1 ≠ bi := aG.ne 0 2 4 8 bv bN
 have hne24 : aJ ≠ bi := aG.ne 1 2 5 8 bw bN
 have fW := Nat.le_trans bu.size dN
 have fX := Nat.le_trans bu.size dO
 have fY := Nat.le_trans bu.size dP
 refine st_nil (e5 _ _ (wp_seq_k fun gy dR => ?_))
 refine wp_block ?_
 refine wp_seq_k fun gz dS => ?_
 refine wp_g0 (.replicate 9 true) [] 100
   [ve (pv a1), ve (iv v.k), ve (.bool (decide (v.k = 6))), ve (.bool (decide (v.k = 6))), ve (gq (!(decide (v.k = 6))) (pv aJ)), ve (gq (!(decide (v.k = 6))) (iv u.k)), ve (gq (!(decide (v.k = 6))) (.bool (decide (u.k = 6)))), ve (.bool ((decide (v.k = 6)) || (decide (u.k = 6)))), ve (.bool ((decide (v.k = 6)) || (decide (u.k = 6))))] dJ (.eq (.eq (.eq (.eq (.eq (.eq (.eq (.eq (.eq (.nil)))))))))) ?_ ?_
 exact .f (fun k => k.fx 4 bv) <| .t (fun _ w hn k => ⟨_, v_load rfl (k.eq1 0 16 rfl) (l_one Tryz.isAgg3 ((bL.new_ hn).cell 0)), rfl⟩) <| .t (fun _ w hn k => ⟨_, v_bin rfl (k.eq1 1 17 rfl) rfl (fun _ => rfl) (r_eql rfl), rfl⟩) <| .m (fun k => k.eq1 2 18 rfl) <| .o1 (sc (G := (!(decide (v.k = 6)))) rfl rfl rfl (fun _ _ k => g0' (k.eq1 3 19 rfl)) (fun hG _ w hn k => v_field rfl (k.fx 5 bw) (fun w => rfl))) <| .o1 (sc (G := (!(decide (v.k = 6)))) rfl rfl rfl (fun _ _ k => g0' (k.eq1 3 19 rfl)) (fun hG _ w hn k => v_load rfl (cT hG (k.eq1 4 20 rfl)) (l_one Tryz.isAgg3 ((bM.new_ hn).cell 0)))) <| .o1 (sc (G := (!(decide (v.k = 6)))) rfl rfl rfl (fun _ _ k => g0' (k.eq1 3 19 rfl)) (fun hG _ w hn k => v_bin rfl (cT hG (k.eq1 5 21 rfl)) rfl (fun _ => rfl) (r_eql rfl))) <| .t (fun _ w hn k => ⟨_, v_or rfl (k.eq1 3 19 rfl) rfl (fun hg => (cT (nt hg) (k.eq1 6 22 rfl))), rfl⟩) <| .a (fun k => k.eq1 7 23 rfl) .nil
 refine aftI dJ e6 dM fun gA gB bO dT dU bj aD => ?_
 have e7 := aD.fx 2 h8
 have e8 := aD.fx 3 h9
 have dK := aD.fx 4 bv
 have dL := aD.fx 5 bw
 have e9 := aD.fx 8 bN
 have fa := aD.ge 8 15 rfl
 have bP := bL.new_ bj
 have bQ := bM.new_ bj
 have dV := dQ.new_ bj
 refine st_nil (dS _ _ ?_)
 have a3 : (((decide (v.k = 6)) || (decide (u.k = 6)))) = false := (by rw [show ((decide (v.k = 6))) = false from decide_eq_false (by omega), show ((decide (u.k = 6))) = false from decide_eq_false (by omega)]; rfl)
 have dW := hB fa a3
 have bk : (decide (v.k = 6)) = false := ol a3
 have fQ := oF bk
 have bl : (decide (u.k = 6)) = false := or_ a3
 have fR := oF bl
 refine wp_cond_false dW ?_
 refine wp_seq_k fun gC dX => ?_
 refine wp_g0 (.replicate 9 true) [] 100
   [ve (pv a1), ve (iv v.k), ve (.bool (decide (v.k = 5))), ve (.bool (decide (v.k = 5))), ve (gq (decide (v.k = 5)) (pv aJ)), ve (gq (decide (v.k = 5)) (iv u.k)), ve (gq (decide (v.k = 5)) (.bool (decide (u.k = 5)))), ve (.bool ((decide (v.k = 5)) && (decide (u.k = 5)))), ve (.bool ((decide (v.k = 5)) && (decide (u.k = 5))))] bO (.eq (.eq (.eq (.eq (.eq (.eq (.eq (.eq (.eq (.nil)))))))))) ?_ ?_
 exact .f (fun k => k.fx 4 dK) <| .t (fun _ w hn k => ⟨_, v_load rfl (k.eq1 0 26 rfl) (l_one Tryz.isAgg3 ((bP.new_ hn).cell 0)), rfl⟩) <| .t (fun _ w hn k => ⟨_, v_bin rfl (k.eq1 1 27 rfl) rfl (fun _ => rfl) (r_eql rfl), rfl⟩) <| .m (fun k => k.eq1 2 28 rfl) <| .o1 (sc (G := (decide (v.k = 5))) rfl rfl rfl (fun _ _ k => g0 (k.eq1 3 29 rfl)) (fun hG _ w hn k => v_field rfl (k.fx 5 dL) (fun w => rfl))) <| .o1 (sc (G := (decide (v.k = 5))) rfl rfl rfl (fun _ _ k => g0 (k.eq1 3 29 rfl)) (fun hG _ w hn k => v_load rfl (cT hG (k.eq1 4 30 rfl)) (l_one Tryz.isAgg3 ((bQ.new_ hn).cell 0)))) <| .o1 (sc (G := (decide (v.k = 5))) rfl rfl rfl (fun _ _ k => g0 (k.eq1 3 29 rfl)) (fun hG _ w hn k => v_bin rfl (cT hG (k.eq1 5 31 rfl)) rfl (fun _ => rfl) (r_eql rfl))) <| .t (fun _ w hn k => ⟨_, v_and rfl (k.eq1 3 29 rfl) (fun hg => (cT hg (k.eq1 6 32 rfl))) rfl, rfl⟩) <| .a (fun k => k.eq1 7 33 rfl) .nil
 refine aftI bO dT dU fun gD gE bR dY dZ bm aE => ?_
 have fb := aE.fx 2 e7
 have fc := aE.fx 3 e8
 have bS := aE.fx 4 dK
 have bT := aE.fx 5 dL
 have fd := aE.fx 8 e9
 have fe := aE.ge 8 25 rfl
 have bn := bP.new_ bm
 have bo := bQ.new_ bm
 have d0 := dV.new_ bm
 refine st_nil (dX _ _ ?_)
 have bU : (((decide (v.k = 5)) && (decide (u.k = 5)))) = false := (by rw [show ((decide (v.k = 5))) = false from decide_eq_false (by omega), show ((decide (u.k = 5))) = false from decide_eq_false (by omega)]; rfl)
 have d1 := hB fe bU
 refine wp_cond_false d1 ?_
 refine wp_seq_k fun gF d2 => ?_
 refine wp_g0 (.replicate 19 true) [] 100
   [ve (pv a1), ve (iv v.k), ve (.bool (decide (v.k = 5))), ve (.bool (decide (v.k = 5))), ve (gq (decide (v.k = 5)) (pv aJ)), ve (gq (decide (v.k = 5)) (iv u.k)), ve (gq (decide (v.k = 5)) (.bool (decide (u.k = 4)))), ve (.bool ((decide (v.k = 5)) && (decide (u.k = 4)))), ve (.bool ((decide (v.k = 5)) && (decide (u.k = 4)))), ve (gq (!((decide (v.k = 5)) && (decide (u.k = 4)))) (pv a1)), ve (gq (!((decide (v.k = 5)) && (decide (u.k = 4)))) (iv v.k)), ve (gq (!((decide (v.k = 5)) && (decide (u.k = 4)))) (.bool (decide (v.k = 4)))), ve (gq (!((decide (v.k = 5)) && (decide (u.k = 4)))) (.bool (decide (v.k = 4)))), ve (gq ((!((decide (v.k = 5)) && (decide (u.k = 4)))) && (decide (v.k = 4))) (pv aJ)), ve (gq ((!((decide (v.k = 5)) && (decide (u.k = 4)))) && (decide (v.k = 4))) (iv u.k)), ve (gq ((!((decide (v.k = 5)) && (decide (u.k = 4)))) && (decide (v.k = 4))) (.bool (decide (u.k = 5)))), ve (gq (!((decide (v.k = 5)) && (decide (u.k = 4)))) (.bool ((decide (v.k = 4)) && (decide (u.k = 5))))), ve (.bool (((decide (v.k = 5)) && (decide (u.k = 4))) || ((decide (v.k = 4)) && (decide (u.k = 5))))), ve (.bool (((decide (v.k = 5)) && (decide (u.k = 4))) || ((decide (v.k = 4)) && (decide (u.k = 5)))))] bR (.eq (.eq (.eq (.eq (.eq (.eq (.eq (.eq (.eq (.eq (.eq (.eq (.eq (.eq (.eq (.eq (.eq (.eq (.eq (.nil)))))))))))))))))))) ?_ ?_
 exact .f (fun k => k.fx 4 bS) <| .t (fun _ w hn k => ⟨_, v_load rfl (k.eq1 0 46 rfl) (l_one Tryz.isAgg3 ((bn.new_ hn).cell 0)), rfl⟩) <| .t (fun _ w hn k => ⟨_, v_bin rfl (k.eq1 1 47 rfl) rfl (fun _ => rfl) (r_eql rfl), rfl⟩) <| .m (fun k => k.eq1 2 48 rfl) <| .o1 (sc (G := (decide (v.k = 5))) rfl rfl rfl (fun _ _ k => g0 (k.eq1 3 49 rfl)) (fun hG _ w hn k => v_field rfl (k.fx 5 bT) (fun w => rfl))) <| .o1 (sc (G := (decide (v.k = 5))) rfl rfl rfl (fun _ _ k => g0 (k.eq1 3 49 rfl)) (fun hG _ w hn k => v_load rfl (cT hG (k.eq1 4 50 rfl)) (l_one Tryz.isAgg3 ((bo.new_ hn).cell 0)))) <| .o1 (sc (G := (decide (v.k = 5))) rfl rfl rfl (fun _ _ k => g0 (k.eq1 3 49 rfl)) (fun hG _ w hn k => v_bin rfl (cT hG (k.eq1 5 51 rfl)) rfl (fun _ => rfl) (r_eql rfl))) <| .t (fun _ w hn k => ⟨_, v_and rfl (k.eq1 3 49 rfl) (fun hg => (cT hg (k.eq1 6 52 rfl))) rfl, rfl⟩) <| .m (fun k => k.eq1 7 53 rfl) <| .o1 (sc (G := (!((decide (v.k = 5)) && (decide (u.k = 4))))) rfl rfl rfl (fun _ _ k => g0' (k.eq1 8 54 rfl)) (fun hG _ w hn k => v_field rfl (k.fx 4 bS) (fun w => rfl))) <| .o1 (sc (G := (!((decide (v.k = 5)) && (decide (u.k = 4))))) rfl rfl rfl (fun _ _ k => g0' (k.eq1 8 54 rfl)) (fun hG _ w hn k => v_load rfl (cT hG (k.eq1 9 55 rfl)) (l_one Tryz.isAgg3 ((bn.new_ hn).cell 0)))) <| .o1 (sc (G := (!((decide (v.k = 5)) && (decide (u.k = 4))))) rfl rfl rfl (fun _ _ k => g0' (k.eq1 8 54 rfl)) (fun hG _ w hn k => v_bin rfl (cT hG (k.eq1 10 56 rfl)) rfl (fun _ => rfl) (r_eql rfl))) <| .o1 (sc (G := (!((decide (v.k = 5)) && (decide (u.k = 4))))) rfl rfl rfl (fun _ _ k => g0' (k.eq1 8 54 rfl)) (fun hG _ w hn k => v_move rfl (cT hG (k.eq1 11 57 rfl)))) <| .o1 (sc (G := ((!((decide (v.k = 5)) && (decide (u.k = 4)))) && (decide (v.k = 4)))) rfl rfl rfl (fun _ _ k => g1 (k.eq1 12 58 rfl)) (fun hG _ w hn k => v_field rfl (k.fx 5 bT) (fun w => rfl))) <| .o1 (sc (G := ((!((decide (v.k = 5)) && (decide (u.k = 4)))) && (decide (v.k = 4)))) rfl rfl rfl (fun _ _ k => g1 (k.eq1 12 58 rfl)) (fun hG _ w hn k => v_load rfl (cT hG (k.eq1 13 59 rfl)) (l_one Tryz.isAgg3 ((bo.new_ hn).cell 0)))) <| .o1 (sc (G := ((!((decide (v.k = 5)) && (decide (u.k = 4)))) && (decide (v.k = 4)))) rfl rfl rfl (fun _ _ k => g1 (k.eq1 12 58 rfl)) (fun hG _ w hn k => v_bin rfl (cT hG (k.eq1 14 60 rfl)) rfl (fun _ => rfl) (r_eql rfl))) <| .o1 (sc (G := (!((decide (v.k = 5)) && (decide (u.k = 4))))) rfl rfl rfl (fun _ _ k => g0' (k.eq1 8 54 rfl)) (fun hG _ w hn k => v_and rfl (cT hG (k.eq1 12 58 rfl)) (fun hg => (cT (aj hG hg) (k.eq1 15 61 rfl))) rfl)) <| .t (fun _ w hn k => ⟨_, v_or rfl (k.eq1 8 54 rfl) rfl (fun hg => (cT (nt hg) (k.eq1 16 62 rfl))), rfl⟩) <| .a (fun k => k.eq1 17 63 rfl) .nil
 refine aftI bR dY dZ fun gG ff bV d3 a4 bp aF => ?_
 have fg := aF.fx 2 fb
 have fh := aF.fx 3 fc
 have fi := aF.fx 4 bS
 have fj := aF.fx 5 bT
 have fk := aF.fx 8 fd
 have fl := aF.ge 18 45 rfl
 have d4 := bn.new_ bp
 have bW := bo.new_ bp
 have bX := d0.new_ bp
 refine st_nil (d2 _ _ ?_)
 have a5 : ((((decide (v.k = 5)) && (decide (u.k = 4))) || ((decide (v.k = 4)) && (decide (u.k = 5))))) = false := (by rw [show (((decide (v.k = 5)) && (decide (u.k = 4)))) = false from (by rw [show ((decide (v.k = 5))) = false from decide_eq_false (by omega), show ((decide (u.k = 4))) = false from decide_eq_false (by omega)]; rfl), show (((decide (v.k = 4)) && (decide (u.k = 5)))) = false from (by rw [show ((decide (v.k = 4))) = true from decide_eq_true (by omega), show ((decide (u.k = 5))) = false from decide_eq_false (by omega)]; rfl)]; rfl)
 have d5 := hB fl a5
 have bY : ((decide (v.k = 5)) && (decide (u.k = 4))) = false := ol a5
 have bZ : ((decide (v.k = 4)) && (decide (u.k = 5))) = false := or_ a5
 refine wp_cond_false d5 ?_
 refine wp_skip ?_
 refine dR _ _ ?_
 refine wp_seq_k fun gH d6 => ?_
 refine wp_gS (fun W => True) (fun W W' hn h => trivial) trivial [true, true, true, true, true, true, false, false] [4] [(6, false), (7, true)] 100
   [ve (vv v Av cv Bv dv), (fun (v_ : Value) (W : World) => ∃ (A5 : Option Addr) (c6 : Nat) (A7 : Option Addr) (c8 : Nat), v_ = .tuple #[vv (numericV v).1 A5 c6 A7 c8, iv ((numericV v).2)] ∧ SRow W .u32 A5 ((numericV v).1.mag) c6 ∧ SRow W .u16 A7 ((numericV v).1.s) c8), (fun (v_ : Value) (W : World) => ∃ (ak : Option Addr) (al : Nat) (am : Option Addr) (an : Nat), v_ = .tuple #[vv (numericV v).1 ak al am an, iv ((numericV v).2)] ∧ SRow W .u32 ak ((numericV v).1.mag) al ∧ SRow W .u16 am ((numericV v).1.s) an), (fun (v_ : Value) (W : World) => ∃ (aK : Option Addr) (aL : Nat) (aM : Option Addr) (aN : Nat), v_ = vv (numericV v).1 aK aL aM aN ∧ SRow W .u32 aK ((numericV v).1.mag) aL ∧ SRow W .u16 aM ((numericV v).1.s) aN), ve (iv ((numericV v).2)), IsNew ff 29 [iv 0, iv 0, iv 0, .bool false, sv none ([]) 0, sv none ([]) 0, iv 0], vt, vt]
   [5] (newsCons (fun v w h => IsNew.old h) newsNil) bV (.eq (.cons (fun v W W' hn ⟨A5, c6, A7, c8, he, h0, h1⟩ => ⟨A5, c6, A7, c8, he, h0.new_ hn, h1.new_ hn⟩) (.cons (fun v W W' hn ⟨ak, al, am, an, he, h0, h1⟩ => ⟨ak, al, am, an, he, h0.new_ hn, h1.new_ hn⟩) (.cons (fun v W W' hn ⟨aK, aL, aM, aN, he, h0, h1⟩ => ⟨aK, aL, aM, aN, he, h0.new_ hn, h1.new_ hn⟩) (.eq (.nw (.tt (.tt (.nil))))))))) ?_ ?_ ?_
 refine .t (fun _ w hn k => ⟨_, v_load rfl (k.fx 4 fi) (l_agg Tryz.isAgg29 Tryz.sizeOf29 (d4.new_ hn) rfl), rfl⟩) ?_
 refine .o1 (tkC rfl (noG rfl) rfl fun _ w hn k => (by
       refine ⟨#[vv v Av cv Bv dv], _, args1 (k.eq1 0 66 rfl), fun w => by kernel_rfl, cnumeric_c v _ _ _ _ _ (hmv.new_ (a4.transNew hn)) (hsv.new_ (a4.transNew hn)) hvv, ?_⟩
       rintro e w' ⟨A1, c2, A3, c4, rfl, hmo0, hmo1, hm⟩
       exact ⟨_, rfl, hm, ⟨A1, c2, A3, c4, rfl, hmo0, hmo1⟩⟩)) ?_
 refine .o1 (tk rfl rfl fun _ w hn k => (by
       obtain ⟨A9, fm, fn, fo, fp, d7, d8⟩ : (fun (v_ : Value) (W : World) => ∃ (A5 : Option Addr) (c6 : Nat) (A7 : Option Addr) (c8 : Nat), v_ = .tuple #[vv (numericV v).1 A5 c6 A7 c8, iv ((numericV v).2)] ∧ SRow W .u32 A5 ((numericV v).1.mag) c6 ∧ SRow W .u16 A7 ((numericV v).1.s) c8) _ _ := k.dep 1 67 (by kernel_rfl) (by kernel_rfl)
       exact ⟨_, v_move rfl fp, ⟨A9, fm, fn, fo, rfl, d7, d8⟩⟩)) ?_
 refine .o1 (tk rfl rfl fun _ w hn k => (by
       obtain ⟨fq, fr, fs, ft, fu, d9, ea⟩ : (fun (v_ : Value) (W : World) => ∃ (ak : Option Addr) (al : Nat) (am : Option Addr) (an : Nat), v_ = .tuple #[vv (numericV v).1 ak al am an, iv ((numericV v).2)] ∧ SRow W .u32 ak ((numericV v).1.mag) al ∧ SRow W .u16 am ((numericV v).1.s) an) _ _ := k.dep 2 65 (by kernel_rfl) (by kernel_rfl)
       exact ⟨_, v_extract rfl fu rfl, ⟨fq, fr, fs, ft, rfl, d9, ea⟩⟩)) ?_
 refine .o3 ?_
 exact .o2 (step_allocN (cs := [iv 0, iv 0, iv 0, .bool false, sv none ([]) 0, sv none ([]) 0, iv 0]) (t := 29) rfl (noG rfl) (fun _ w hn k => rfl) (fun q _ hq hb => ⟨q, rfl, hq, hb⟩)) <| .off <| .off .nil
 intro i h
 simp only [List.contains_eq_mem, List.mem_cons, List.not_mem_nil, or_false, decide_eq_true_eq] at h
 subst h
 exact eager_takeG rfl (noG rfl) fun _ w hn k => (by
     obtain ⟨gI, gJ, gK, gL, fv, fZ, f0⟩ : (fun (v_ : Value) (W : World) => ∃ (ak : Option Addr) (al : Nat) (am : Option Addr) (an : Nat), v_ = .tuple #[vv (numericV v).1 ak al am an, iv ((numericV v).2)] ∧ SRow W .u32 ak ((numericV v).1.mag) al ∧ SRow W .u16 am ((numericV v).1.s) an) _ _ := k.dep 2 65 (by kernel_rfl) (by kernel_rfl)
     exact ⟨_, fun w hS => v_extract rfl fv rfl, rfl⟩)
 intro b0 gM _ bq ah
 obtain ⟨b1, eb, ci⟩ := aft ah bV d3 a4 bq
 have fw := ah.fx 2 fg
 have fy := ah.fx 3 fh
 have ec := ah.fx 5 fj
 have ed := ah.fx 8 fk
 obtain ⟨aO, au, aP, av, a6, cj, cl⟩ : (fun (v_ : Value) (W : World) => ∃ (aK : Option Addr) (aL : Nat) (aM : Option Addr) (aN : Nat), v_ = vv (numericV v).1 aK aL aM aN ∧ SRow W .u32 aK ((numericV v).1.mag) aL ∧ SRow W .u16 aM ((numericV v).1.s) aN) _ _ := ah.got 3 68 rfl (by kernel_rfl)
 have a6 : b0.eval (.tmp 68) = vv (numericV v).1 aO au aP av := a6
 have b2 := ah.ge 4 69 rfl
 obtain ⟨a7, b3, a8, a9⟩ : IsNew _ _ _ _ _ := ah.got 5 10 rfl (by kernel_rfl)
 have cm := bW.new_ bq
 have cn := bX.new_ bq
 have hne116 : aJ ≠ a7 := by have h1 := bW.lt; have h2 := a8; omega
 have hne117 : bi ≠ a7 := by have h1 := bX.lt; have h2 := a8; omega
 have fS := Nat.le_trans a4.size a8
 obtain ⟨ee, b4, b5, ba, bx⟩ := s_many (P := Tryz.prog) (t := 29) (i := 0) [iv ((numericV v).1.k), iv ((numericV v).1.nk), iv ((numericV v).1.nn), .bool ((numericV v).1.neg), sv aO ((numericV v).1.mag) au, sv aP ((numericV v).1.s) av, iv ((numericV v).1.ref)] Tryz.sizeOf29 rfl rfl rfl a9 lb
 have co : Blk ee a7 29 [iv ((numericV v).1.k), iv ((numericV v).1.nk), iv ((numericV v).1.nn), .bool ((numericV v).1.neg), sv aO ((numericV v).1.mag) au, sv aP ((numericV v).1.s) av, iv ((numericV v).1.ref)] := b5
 refine st_act rfl rfl fun f1 cp => a_store' rfl b3 a6 b4 (cp _ _ trivial ?_)
 have cq := cj.far a9 ba (by first | rfl | decide | simp [notK])
 have cr := cl.far a9 ba (by first | rfl | decide | simp [notK])
 have ct := bx _ _ _ (hne116) cm
 have cw := bx _ _ _ (hne117) cn
 have cx := ci.trans ba (fun _ h b => by subst b; omega)
 refine st_take rfl rfl (y_assign (v := iv ((numericV v).2)) rfl b2) rfl ?_
 obtain ⟨ef, aa⟩ : ∃ a', a' = b0.put (some 11) (iv ((numericV v).2)) := ⟨_, rfl⟩
 have bz := pz aa b1
 have cy := pd aa eb
 have eg := pn aa fw (by decide)
 have eh := pn aa fy (by decide)
 have ei := pn aa ec (by decide)
 have ej := pn aa ed (by decide)
 have f2 := pn aa a6 (by decide)
 have f3 := pn aa b2 (by decide)
 have ek := pn aa b3 (by decide)
 have b6 : ef.eval (.tmp 11) = iv ((numericV v).2) := by rw [aa]; exact put_same _ _ _ (by rw [b1]; decide)
 show stepsTo _ _ _ _ _ (b0.put (some 11) (iv ((numericV v).2))) _
 rw [← aa]
 refine st_nil (d6 _ _ (wp_seq_k fun f4 cz => ?_))
 refine wp_seq_k fun f5 cA => ?_
 refine wp_g0 [true, true] [] 100
   [ve (iv ((numericV v).2)), ve (.bool (!decide (((numericV v).2) = 0)))] bz (.eq (.eq (.nil))) ?_ ?_
 exact .m (fun k => k.fx 11 b6) <| .t (fun _ w hn k => ⟨_, v_bin rfl (k.eq1 0 70 rfl) rfl (fun _ => rfl) (r_neq rfl), rfl⟩) .nil
 refine aftI bz cy cx fun f6 el bA cB aH aw ad => ?_
 have em := ad.fx 2 eg
 have en := ad.fx 3 eh
 have eo := ad.fx 5 ei
 have ep := ad.fx 8 ej
 have er := ad.fx 10 ek
 have es := ad.fx 11 b6
 have et := ad.ge 1 71 rfl
 have cC := ct.new_ aw
 have bB := cw.new_ aw
 have bC := co.new_ aw
 have cD := cq.new_ aw
 have cE := cr.new_ aw
 refine st_nil (cA _ _ ?_)
 have bb : ((!decide (((numericV v).2) = 0))) = false := (nf (decide_eq_true (e2)))
 have cF := hB et bb
 have bd : (decide (((numericV v).2) = 0)) = true := nT bb
 have fz := oT bd
 refine wp_cond_false cF ?_
 refine wp_skip ?_
 refine cz _ _ ?_
 refine wp_seq_k fun f7 cG => ?_
 refine wp_gS (fun W => True) (fun W W' hn h => trivial) trivial [true, true, true, true, true, true, false, false] [4] [(6, false), (7, true)] 100
   [ve (vv u Au cu Bu du), (fun (v_ : Value) (W : World) => ∃ (aQ : Option Addr) (aR : Nat) (aS : Option Addr) (aT : Nat), v_ = .tuple #[vv (numericV u).1 aQ aR aS aT, iv ((numericV u).2)] ∧ SRow W .u32 aQ ((numericV u).1.mag) aR ∧ SRow W .u16 aS ((numericV u).1.s) aT), (fun (v_ : Value) (W : World) => ∃ (ao : Option Addr) (ap : Nat) (aq : Option Addr) (ar : Nat), v_ = .tuple #[vv (numericV u).1 ao ap aq ar, iv ((numericV u).2)] ∧ SRow W .u32 ao ((numericV u).1.mag) ap ∧ SRow W .u16 aq ((numericV u).1.s) ar), (fun (v_ : Value) (W : World) => ∃ (aU : Option Addr) (aV : Nat) (aW : Option Addr) (aX : Nat), v_ = vv (numericV u).1 aU aV aW aX ∧ SRow W .u32 aU ((numericV u).1.mag) aV ∧ SRow W .u16 aW ((numericV u).1.s) aX), ve (iv ((numericV u).2)), IsNew el 29 [iv 0, iv 0, iv 0, .bool false, sv none ([]) 0, sv none ([]) 0, iv 0], vt, vt]
   [5] (newsCons (fun v w h => IsNew.old h) newsNil) bA (.eq (.cons (fun v W W' hn ⟨aQ, aR, aS, aT, he, h0, h1⟩ => ⟨aQ, aR, aS, aT, he, h0.new_ hn, h1.new_ hn⟩) (.cons (fun v W W' hn ⟨ao, ap, aq, ar, he, h0, h1⟩ => ⟨ao, ap, aq, ar, he, h0.new_ hn, h1.new_ hn⟩) (.cons (fun v W W' hn ⟨aU, aV, aW, aX, he, h0, h1⟩ => ⟨aU, aV, aW, aX, he, h0.new_ hn, h1.new_ hn⟩) (.eq (.nw (.tt (.tt (.nil))))))))) ?_ ?_ ?_
 refine .t (fun _ w hn k => ⟨_, v_load rfl (k.fx 5 eo) (l_agg Tryz.isAgg29 Tryz.sizeOf29 (cC.new_ hn) rfl), rfl⟩) ?_
 refine .o1 (tkC rfl (noG rfl) rfl fun _ w hn k => (by
       refine ⟨#[vv u Au cu Bu du], _, args1 (k.eq1 0 75 rfl), fun w => by kernel_rfl, cnumeric_c u _ _ _ _ _ (hmu.new_ (aH.transNew hn)) (hsu.new_ (aH.transNew hn)) hvu, ?_⟩
       rintro e w' ⟨fA, fB, fC, fD, rfl, hmo0, hmo1, hm⟩
       exact ⟨_, rfl, hm, ⟨fA, fB, fC, fD, rfl, hmo0, hmo1⟩⟩)) ?_
 refine .o1 (tk rfl rfl fun _ w hn k => (by
       obtain ⟨fE, fF, fG, fH, fI, eu, ev⟩ : (fun (v_ : Value) (W : World) => ∃ (aQ : Option Addr) (aR : Nat) (aS : Option Addr) (aT : Nat), v_ = .tuple #[vv (numericV u).1 aQ aR aS aT, iv ((numericV u).2)] ∧ SRow W .u32 aQ ((numericV u).1.mag) aR ∧ SRow W .u16 aS ((numericV u).1.s) aT) _ _ := k.dep 1 76 (by kernel_rfl) (by kernel_rfl)
       exact ⟨_, v_move rfl fI, ⟨fE, fF, fG, fH, rfl, eu, ev⟩⟩)) ?_
 refine .o1 (tk rfl rfl fun _ w hn k => (by
       obtain ⟨fJ, fK, fL, fM, fN, ew, ex⟩ : (fun (v_ : Value) (W : World) => ∃ (ao : Option Addr) (ap : Nat) (aq : Option Addr) (ar : Nat), v_ = .tuple #[vv (numericV u).1 ao ap aq ar, iv ((numericV u).2)] ∧ SRow W .u32 ao ((numericV u).1.mag) ap ∧ SRow W .u16 aq ((numericV u).1.s) ar) _ _ := k.dep 2 74 (by kernel_rfl) (by kernel_rfl)
       exact ⟨_, v_extract rfl fN rfl, ⟨fJ, fK, fL, fM, rfl, ew, ex⟩⟩)) ?_
 refine .o3 ?_
 exact .o2 (step_allocN (cs := [iv 0, iv 0, iv 0, .bool false, sv none ([]) 0, sv none ([]) 0, iv 0]) (t := 29) rfl (noG rfl) (fun _ w hn k => rfl) (fun q _ hq hb => ⟨q, rfl, hq, hb⟩)) <| .off <| .off .nil
 intro i h
 simp only [List.contains_eq_mem, List.mem_cons, List.not_mem_nil, or_false, decide_eq_true_eq] at h
 subst h
 exact eager_takeG rfl (noG rfl) fun _ w hn k => (by
     obtain ⟨gN, gO, gP, gQ, fO, f8, f9⟩ : (fun (v_ : Value) (W : World) => ∃ (ao : Option Addr) (ap : Nat) (aq : Option Addr) (ar : Nat), v_ = .tuple #[vv (numericV u).1 ao ap aq ar, iv ((numericV u).2)] ∧ SRow W .u32 ao ((numericV u).1.mag) ap ∧ SRow W .u16 aq ((numericV u).1.s) ar) _ _ := k.dep 2 74 (by kernel_rfl) (by kernel_rfl)
     exact ⟨_, fun w hS => v_extract rfl fO rfl, rfl⟩)
 intro br ga _ ax ac
 obtain ⟨bD, cH, cI⟩ := aft ac bA cB aH ax
 have ey := ac.fx 2 em
 have ez := ac.fx 3 en
 have eA := ac.fx 8 ep
 have eB := ac.fx 10 er
 have gb := ac.fx 11 es
 obtain ⟨aY, ay, aZ, az, be, cJ, cK⟩ : (fun (v_ : Value) (W : World) => ∃ (aU : Option Addr) (aV : Nat) (aW : Option Addr) (aX : Nat), v_ = vv (numericV u).1 aU aV aW aX ∧ SRow W .u32 aU ((numericV u).1.mag) aV ∧ SRow W .u16 aW ((numericV u).1.s) aX) _ _ := ac.got 3 77 rfl (by kernel_rfl)
 have be : br.eval (.tmp 77) = vv (numericV u).1 aY ay aZ az := be
 have b7 := ac.ge 4 78 rfl
 obtain ⟨bs, b8, bf, aA⟩ : IsNew _ _ _ _ _ := ac.got 5 12 rfl (by kernel_rfl)
 have cL := bB.new_ ax
 have cM := bC.new_ ax
 have hne194 : bi ≠ bs := by have h1 := bB.lt; have h2 := bf; omega
 have hne195 : a7 ≠ bs := by have h1 := bC.lt; have h2 := bf; omega
 have fT := Nat.le_trans aH.size bf
 have cN := cD.new_ ax
 have cO := cE.new_ ax
 obtain ⟨eC, b9, ca, aB, bE⟩ := s_many (P := Tryz.prog) (t := 29) (i := 0) [iv ((numericV u).1.k), iv ((numericV u).1.nk), iv ((numericV u).1.nn), .bool ((numericV u).1.neg), sv aY ((numericV u).1.mag) ay, sv aZ ((numericV u).1.s) az, iv ((numericV u).1.ref)] Tryz.sizeOf29 rfl rfl rfl aA lb
 have cP : Blk eC bs 29 [iv ((numericV u).1.k), iv ((numericV u).1.nk), iv ((numericV u).1.nn), .bool ((numericV u).1.neg), sv aY ((numericV u).1.mag) ay, sv aZ ((numericV u).1.s) az, iv ((numericV u).1.ref)] := ca
 refine st_act rfl rfl fun gc cQ => a_store' rfl b8 be b9 (cQ _ _ trivial ?_)
 have cR := cN.far aA aB (by first | rfl | decide | simp [notK])
 have cS := cO.far aA aB (by first | rfl | decide | simp [notK])
 have cU := cJ.far aA aB (by first | rfl | decide | simp [notK])
 have cV := cK.far aA aB (by first | rfl | decide | simp [notK])
 have cW := bE _ _ _ (hne194) cL
 have cX := bE _ _ _ (hne195) cM
 have cY := cI.trans aB (fun _ h b => by subst b; omega)
 refine st_take rfl rfl (y_assign (v := iv ((numericV u).2)) rfl b7) rfl ?_
 obtain ⟨eD, ab⟩ : ∃ a', a' = br.put (some 11) (iv ((numericV u).2)) := ⟨_, rfl⟩
 have bF := pz ab bD
 have cZ := pd ab cH
 have eE := pn ab ey (by decide)
 have eF := pn ab ez (by decide)
 have eG := pn ab eA (by decide)
 have eH := pn ab eB (by decide)
 have gd := pn ab be (by decide)
 have gf := pn ab b7 (by decide)
 have eI := pn ab b8 (by decide)
 have cb : eD.eval (.tmp 11) = iv ((numericV u).2) := by rw [ab]; exact put_same _ _ _ (by rw [bD]; decide)
 show stepsTo _ _ _ _ _ (br.put (some 11) (iv ((numericV u).2))) _
 rw [← ab]
 refine st_nil (cG _ _ (wp_seq_k fun gg c0 => ?_))
 refine wp_seq_k fun gh c1 => ?_
 refine wp_g0 [true, true] [] 100
   [ve (iv ((numericV u).2)), ve (.bool (!decide (((numericV u).2) = 0)))] bF (.eq (.eq (.nil))) ?_ ?_
 exact .m (fun k => k.fx 11 cb) <| .t (fun _ w hn k => ⟨_, v_bin rfl (k.eq1 0 79 rfl) rfl (fun _ => rfl) (r_neq rfl), rfl⟩) .nil
 refine aftI bF cZ cY fun gi gj bG c3 c5 ae af => ?_
 have eJ := af.fx 2 eE
 have eK := af.fx 3 eF
 have eL := af.fx 8 eG
 have eM := af.fx 10 eH
 have eN := af.fx 12 eI
 have gk := af.fx 11 cb
 have eO := af.ge 1 80 rfl
 have c7 := cW.new_ ae
 have c9 := cX.new_ ae
 have da := cP.new_ ae
 have db := cR.new_ ae
 have dc := cS.new_ ae
 have dd := cU.new_ ae
 have de := cV.new_ ae
 refine st_nil (c1 _ _ ?_)
 have bg : ((!decide (((numericV u).2) = 0))) = false := (nf (decide_eq_true (e3)))
 have df := hB eO bg
 have bh : (decide (((numericV u).2) = 0)) = true := nT bg
 have fP := oT bh
 refine wp_cond_false df ?_
 refine wp_skip ?_
 refine c0 _ _ ?_
 refine wp_seq_k fun gl dg => ?_
 refine wp_seq_k fun gm dh => ?_
 refine wp_g0 [true] [] 100
   [vF] bG (.eq (.nil)) ?_ ?_
 exact .m (fun k => k.fx 2 eJ) .nil
 refine aftI bG c3 c5 fun gn go bH di dj ag aC => ?_
 have eP := aC.fx 3 eK
 have eQ := aC.fx 8 eL
 have eR := aC.fx 10 eM
 have eS := aC.fx 12 eN
 have eT := aC.ge 0 83 rfl
 have dk := c7.new_ ag
 have dl := c9.new_ ag
 have dm := da.new_ ag
 have dn := db.new_ ag
 have dp := dc.new_ ag
 have dq := dd.new_ ag
 have dr := de.new_ ag
 refine st_nil (dh _ _ ?_)
 refine wp_cond_false eT ?_
 refine wp_skip ?_
 refine dg _ _ ?_
 refine wp_seq_k fun gp ds => ?_
 refine wp_g0 (.replicate 8 true) [] 100
   [ve (vv (numericV v).1 aO au aP av), ve (vv (numericV u).1 aY ay aZ az), ve (.tuple #[iv ((besideO ((numericV v).1).neg ((numericV v).1).mag (Nm.mk ((numericV u).1).nk ((numericV u).1).nn)).1), .bool ((besideO ((numericV v).1).neg ((numericV v).1).mag (Nm.mk ((numericV u).1).nk ((numericV u).1).nn)).2)]), ve (.tuple #[iv ((besideO ((numericV v).1).neg ((numericV v).1).mag (Nm.mk ((numericV u).1).nk ((numericV u).1).nn)).1), .bool ((besideO ((numericV v).1).neg ((numericV v).1).mag (Nm.mk ((numericV u).1).nk ((numericV u).1).nn)).2)]), ve (iv ((besideO ((numericV v).1).neg ((numericV v).1).mag (Nm.mk ((numericV u).1).nk ((numericV u).1).nn)).1)), ve (.bool ((besideO ((numericV v).1).neg ((numericV v).1).mag (Nm.mk ((numericV u).1).nk ((numericV u).1).nn)).2)), ve (iv ((besideO ((numericV v).1).neg ((numericV v).1).mag (Nm.mk ((numericV u).1).nk ((numericV u).1).nn)).1)), ve (.bool ((besideO ((numericV v).1).neg ((numericV v).1).mag (Nm.mk ((numericV u).1).nk ((numericV u).1).nn)).2))] bH (.eq (.eq (.eq (.eq (.eq (.eq (.eq (.eq (.nil))))))))) ?_ ?_
 exact .t (fun _ w hn k => ⟨_, v_load rfl (k.fx 10 eR) (l_agg Tryz.isAgg29 Tryz.sizeOf29 (dl.new_ hn) rfl), rfl⟩) <| .t (fun _ w hn k => ⟨_, v_load rfl (k.fx 12 eS) (l_agg Tryz.isAgg29 Tryz.sizeOf29 (dm.new_ hn) rfl), rfl⟩) <| .o1 (ck rfl rfl rfl (fun _ w hn k => ⟨#[vv (numericV v).1 aO au aP av, vv (numericV u).1 aY ay aZ az], args2 (k.eq1 0 87 rfl) (k.eq1 1 88 rfl), fun _ => by kernel_rfl, orderB_c ((numericV v).1) _ _ _ _ ((numericV u).1) _ _ _ _ _ (dn.new_ hn) (dp.new_ hn) (dq.new_ hn) (dr.new_ hn) (VOk.numeric hvv) (VOk.numeric hvu) hj1 hj2⟩) fun _ => rfl) <| .m (fun k => k.eq1 2 89 rfl) <| .t (fun _ w hn k => ⟨_, v_extract rfl (k.eq1 3 86 rfl) rfl, rfl⟩) <| .t (fun _ w hn k => ⟨_, v_extract rfl (k.eq1 3 86 rfl) rfl, rfl⟩) <| .a (fun k => k.eq1 4 90 rfl) <| .a (fun k => k.eq1 5 91 rfl) .nil
 refine aftI bH di dj fun gr gs bI dt dw dx aI => ?_
 have eU := aI.fx 3 eP
 have eV := aI.fx 8 eQ
 have eW := aI.ge 6 13 rfl
 have eX := aI.ge 7 14 rfl
 have dy := dk.new_ dx
 refine st_nil (ds _ _ (wp_seq_k fun gt dz => ?_))
 refine wp_g0 [true, true, true, true, true, true, true, true, false, false] [(8, false), (9, true)] 100
   [ve (.bool ((besideO ((numericV v).1).neg ((numericV v).1).mag (Nm.mk ((numericV u).1).nk ((numericV u).1).nn)).2)), ve (.bool ((besideO ((numericV v).1).neg ((numericV v).1).mag (Nm.mk ((numericV u).1).nk ((numericV u).1).nn)).2)), ve (gq ((besideO ((numericV v).1).neg ((numericV v).1).mag (Nm.mk ((numericV u).1).nk ((numericV u).1).nn)).2) (iv ((besideO ((numericV v).1).neg ((numericV v).1).mag (Nm.mk ((numericV u).1).nk ((numericV u).1).nn)).1))), ve (gq ((besideO ((numericV v).1).neg ((numericV v).1).mag (Nm.mk ((numericV u).1).nk ((numericV u).1).nn)).2) (.bool (decide (((besideO ((numericV v).1).neg ((numericV v).1).mag (Nm.mk ((numericV u).1).nk ((numericV u).1).nn)).1) < 0)))), ve (gq ((besideO ((numericV v).1).neg ((numericV v).1).mag (Nm.mk ((numericV u).1).nk ((numericV u).1).nn)).2) (.bool false)), ve (gq ((besideO ((numericV v).1).neg ((numericV v).1).mag (Nm.mk ((numericV u).1).nk ((numericV u).1).nn)).2) (.bool ((decide (((besideO ((numericV v).1).neg ((numericV v).1).mag (Nm.mk ((numericV u).1).nk ((numericV u).1).nn)).1) < 0)) != false))), ve (.bool (((besideO ((numericV v).1).neg ((numericV v).1).mag (Nm.mk ((numericV u).1).nk ((numericV u).1).nn)).2) && ((decide (((besideO ((numericV v).1).neg ((numericV v).1).mag (Nm.mk ((numericV u).1).nk ((numericV u).1).nn)).1) < 0)) != false))), ve (vv (Vl.mk 2 0 0 false [] [] (truthR (((besideO ((numericV v).1).neg ((numericV v).1).mag (Nm.mk ((numericV u).1).nk ((numericV u).1).nn)).2) && ((decide (((besideO ((numericV v).1).neg ((numericV v).1).mag (Nm.mk ((numericV u).1).nk ((numericV u).1).nn)).1) < 0)) != false)))) none 0 none 0), vt, vt] bI (.eq (.eq (.eq (.eq (.eq (.eq (.eq (.eq (.tt (.tt (.nil))))))))))) ?_ ?_
 exact .m (fun k => k.fx 14 eX) <| .m (fun k => k.eq1 0 92 rfl) <| .o1 (sc (G := ((besideO ((numericV v).1).neg ((numericV v).1).mag (Nm.mk ((numericV u).1).nk ((numericV u).1).nn)).2)) rfl rfl rfl (fun _ _ k => g0 (k.eq1 1 93 rfl)) (fun hG _ w hn k => v_move rfl (k.fx 13 eW))) <| .o1 (sc (G := ((besideO ((numericV v).1).neg ((numericV v).1).mag (Nm.mk ((numericV u).1).nk ((numericV u).1).nn)).2)) rfl rfl rfl (fun _ _ k => g0 (k.eq1 1 93 rfl)) (fun hG _ w hn k => v_bin rfl (cT hG (k.eq1 2 94 rfl)) rfl (fun _ => rfl) (r_lssK rfl))) <| .o1 (sc (G := ((besideO ((numericV v).1).neg ((numericV v).1).mag (Nm.mk ((numericV u).1).nk ((numericV u).1).nn)).2)) rfl rfl rfl (fun _ _ k => g0 (k.eq1 1 93 rfl)) (fun hG _ w hn k => v_move rfl (k.fx 3 eU))) <| .o1 (sc (G := ((besideO ((numericV v).1).neg ((numericV v).1).mag (Nm.mk ((numericV u).1).nk ((numericV u).1).nn)).2)) rfl rfl rfl (fun _ _ k => g0 (k.eq1 1 93 rfl)) (fun hG _ w hn k => v_bin rfl (cT hG (k.eq1 3 95 rfl)) (cT hG (k.eq1 4 96 rfl)) (fun _ => rfl) (r_neqB _ _))) <| .t (fun _ w hn k => ⟨_, v_and rfl (k.eq1 1 93 rfl) (fun hg => (cT hg (k.eq1 5 97 rfl))) rfl, rfl⟩) <| .o1 (ck rfl rfl rfl (fun _ w hn k => ⟨#[.bool (((besideO ((numericV v).1).neg ((numericV v).1).mag (Nm.mk ((numericV u).1).nk ((numericV u).1).nn)).2) && ((decide (((besideO ((numericV v).1).neg ((numericV v).1).mag (Nm.mk ((numericV u).1).nk ((numericV u).1).nn)).1) < 0)) != false))], args1 (k.eq1 6 98 rfl), fun _ => by kernel_rfl, truthN_c (((besideO ((numericV v).1).neg ((numericV v).1).mag (Nm.mk ((numericV u).1).nk ((numericV u).1).nn)).2) && ((decide (((besideO ((numericV v).1).neg ((numericV v).1).mag (Nm.mk ((numericV u).1).nk ((numericV u).1).nn)).1) < 0)) != false)) _ ⟩) fun _ => rfl) <| .off <| .off .nil
 refine aftI bI dt dw fun cc gu bJ dA dB dC bK => ?_
 have cd := bK.fx 8 eV
 have ce := bK.ge 7 99 rfl
 have dD := dy.new_ dC
 obtain ⟨eY, cf, ch, dE, fU⟩ := s_many (P := Tryz.prog) (t := 29) (i := 0) [iv 2, iv 0, iv 0, .bool false, sv none ([]) 0, sv none ([]) 0, iv (truthR (((besideO ((numericV v).1).neg ((numericV v).1).mag (Nm.mk ((numericV u).1).nk ((numericV u).1).nn)).2) && ((decide (((besideO ((numericV v).1).neg ((numericV v).1).mag (Nm.mk ((numericV u).1).nk ((numericV u).1).nn)).1) < 0)) != false)))] Tryz.sizeOf29 rfl rfl rfl dD lb
 have dF : Blk eY bi 29 [iv 2, iv 0, iv 0, .bool false, sv none ([]) 0, sv none ([]) 0, iv (truthR (((besideO ((numericV v).1).neg ((numericV v).1).mag (Nm.mk ((numericV u).1).nk ((numericV u).1).nn)).2) && ((decide (((besideO ((numericV v).1).neg ((numericV v).1).mag (Nm.mk ((numericV u).1).nk ((numericV u).1).nn)).1) < 0)) != false)))] := ch
 refine st_act rfl rfl fun gv dG => a_store' rfl cd ce cf (dG _ _ trivial ?_)
 have dH := dB.trans dE (fun _ h b => by subst b; omega)
 refine st_take rfl rfl (y_assign (v := iv 0) rfl rfl) rfl ?_
 obtain ⟨eZ, ai⟩ : ∃ a', a' = cc.put (some 9) (iv 0) := ⟨_, rfl⟩
 have fV := pz ai bJ
 have dI := pd ai dA
 have e0 := pn ai cd (by decide)
 have gw := pn ai ce (by decide)
 have e1 : eZ.eval (.tmp 9) = iv 0 := by rw [ai]; exact put_same _ _ _ (by rw [bJ]; decide)
 show stepsTo _ _ _ _ _ (cc.put (some 9) (iv 0)) _
 rw [← ai]
 refine st_nil (dz _ _ ?_)
 refine wp_ret (ret_k dI (v := .tuple #[vv (Vl.mk 2 0 0 false [] [] (truthR (((besideO ((numericV v).1).neg ((numericV v).1).mag (Nm.mk ((numericV u).1).nk ((numericV u).1).nn)).2) && ((decide (((besideO ((numericV v).1).neg ((numericV v).1).mag (Nm.mk ((numericV u).1).nk ((numericV u).1).nn)).1) < 0)) != false)))) none 0 none 0, iv 0]) (res_ct rfl e0 e1 (l_agg Tryz.isAgg29 Tryz.sizeOf29 dF rfl)) ?_)
 refine ⟨?_, dH⟩
 show Ending.returned (.tuple #[vv (Vl.mk 2 0 0 false [] [] (truthR (((besideO ((numericV v).1).neg ((numericV v).1).mag (Nm.mk ((numericV u).1).nk ((numericV u).1).nn)).2) && ((decide (((besideO ((numericV v).1).neg ((numericV v).1).mag (Nm.mk ((numericV u).1).nk ((numericV u).1).nn)).1) < 0)) != false)))) none 0 none 0, iv 0]) = Ending.returned (.tuple #[vv (Vl.mk 2 0 0 false [] [] (truthR ((besideO (numericV v).1.neg (numericV v).1.mag (Nm.mk (numericV u).1.nk (numericV u).1.nn)).2 && (decide ((besideO (numericV v).1.neg (numericV v).1.mag (Nm.mk (numericV u).1.nk (numericV u).1.nn)).1 < 0) != false)))) none 0 none 0, iv 0])
 first | rfl | (simp only [a3, bk, bk, bl, bl, bU, a5, bY, bY, bZ, bZ, bb, bd, bd, bg, bh, bh, bsm] <;> rfl) | (exfalso; omega)
end Go.Proofs.YtjakfchffigkkaaGreatDoor
