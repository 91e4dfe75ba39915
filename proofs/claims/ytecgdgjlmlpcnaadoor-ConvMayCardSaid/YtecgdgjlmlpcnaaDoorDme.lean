import Derived.Test.YtecgdgjlmlpcnaaDoorDmd
namespace Go.Proofs.YtecgdgjlmlpcnaaDoor
open Go.RowKit
set_option linter.unusedSimpArgs false
set_option linter.unusedVariables false
set_option maxHeartbeats 16000000
set_option maxRecDepth 100000
theorem ctext_c (v : Vl) (Av : Option Addr) (cv : Nat) (Bv : Option Addr) (dv : Nat) (w : World) (hmv : SRow w .u32 Av v.mag cv) (hsv : SRow w .u16 Bv v.s dv) (hvv : VOk v) (HT : ItoaOk w) : Calls Tryd.prog 11 #[vv v Av cv Bv dv] w (ctext_c_P v Av cv Bv dv w) := by
 refine enter_abs Tryd.func11 rfl fun a0 bh eg hp => ?_
 have bh : a0.tmps.size = 38 := bh
 have dd : New w w := Upd.refl _ _
 have hp0 : a0.eval (.tmp 0) = vv v Av cv Bv dv := hp 0 _ rfl
 have hm := hvv.clean.mlen
 have hsl := hvv.clean.slen
 have hz1 : (textM (Nm.mk (cleanV v).nk (cleanV v).nn)).size ≤ 21 := textM_size (cleanV v).num
 have hz2 := textI_size (b := (cleanV v).neg) hvv.clean.limbs
 refine wp_seq_k fun K1 eh => ?_
 refine wp_g [true, true, true] [] [] 38
   [IsNew w 29 [iv v.k, iv v.nk, iv v.nn, .bool v.neg, sv Av v.mag cv, sv Bv v.s dv, iv v.ref], ve (sv none ([]) 0), ve (iv 0)]
   [0] (newsCons (fun v w h => IsNew.old h) newsNil) bh (.nw (.eq (.eq (.nil)))) ?_ (fun i h => by cases h) ?_
 exact .o2 (step_allocN (cs := [iv v.k, iv v.nk, iv v.nn, .bool v.neg, sv Av v.mag cv, sv Bv v.s dv, iv v.ref]) (t := 29) rfl (noG rfl) (fun _ w hn k => v_box rfl (k.fx 0 hp0) (fun w => rfl)) (fun q _ hq hb => ⟨q, rfl, hq, hb⟩)) <| .t (fun _ w hn k => ⟨_, v_assign rfl rfl, rfl⟩) <| .t (fun _ w hn k => ⟨_, v_assign rfl rfl, rfl⟩) .nil
 refine aftI bh eg dd fun a2 w3 de ei aY gf ej => ?_
 obtain ⟨q9, h8, dk, bD⟩ : IsNew _ _ _ _ _ := ej.got 0 1 rfl (by kernel_rfl)
 have fJ := Nat.le_trans dd.size dk
 refine st_nil (eh _ _ (wp_seq_k fun gg dl => ?_))
 refine wp_g0 [true, true, false] [(2, false)] 38
   [ve (vv v Av cv Bv dv),
    (VP (cleanV v)), vt] de (.eq (.cons (fun v W W' hn ⟨A5, c6, A7, c8, he, h0, h1⟩ => ⟨A5, c6, A7, c8, he, h0.new_ hn, h1.new_ hn⟩) (.tt (.nil)))) ?_ ?_
 refine .t (fun _ w hn k => ⟨_, v_load rfl (k.fx 1 h8) (l_agg Tryd.isAgg29 Tryd.sizeOf29 (bD.new_ hn) rfl), rfl⟩) ?_
 refine .o1 (tkC rfl (noG rfl) rfl fun _ w hn k => (by
       refine ⟨#[vv v Av cv Bv dv], _, args1 (k.eq1 0 4 rfl), fun w => by kernel_rfl, clean_c v _ _ _ _ _ (hmv.new_ (aY.transNew hn)) (hsv.new_ (aY.transNew hn)), ?_⟩
       rintro e w' ⟨A1, c2, A3, c4, rfl, hmo0, hmo1, hm⟩
       exact ⟨_, rfl, hm, ⟨A1, c2, A3, c4, rfl, hmo0, hmo1⟩⟩)) ?_
 exact .off .nil
 refine aftI de ei aY fun ek gh bE dm dn dp bF => ?_
 have bG := bF.fx 1 h8
 obtain ⟨aW, ay, az, aA, bH, dq, dr⟩ : (VP (cleanV v)) _ _ := bF.got 1 5 rfl (by kernel_rfl)
 have bH : ek.eval (.tmp 5) = vv (cleanV v) aW ay az aA := bH
 have aZ := bD.new_ dp
 obtain ⟨el, b5, b6, a1, fK⟩ := s_many (P := Tryd.prog) (t := 29) (i := 0) [iv ((cleanV v).k), iv ((cleanV v).nk), iv ((cleanV v).nn), .bool ((cleanV v).neg), sv aW ((cleanV v).mag) ay, sv az ((cleanV v).s) aA, iv ((cleanV v).ref)] Tryd.sizeOf29 rfl rfl rfl aZ lb
 have bI : Blk el q9 29 [iv ((cleanV v).k), iv ((cleanV v).nk), iv ((cleanV v).nn), .bool ((cleanV v).neg), sv aW ((cleanV v).mag) ay, sv az ((cleanV v).s) aA, iv ((cleanV v).ref)] := b6
 refine st_act rfl rfl fun gi ds => a_store' rfl bG bH b5 (ds _ _ trivial ?_)
 have dt := dq.far aZ a1 (by first | rfl | decide | simp [notK])
 have du := dr.far aZ a1 (by first | rfl | decide | simp [notK])
 have dw := dn.trans a1 (fun _ h b => by subst b; omega)
 refine st_nil (dl _ _ (wp_seq_k fun gj dx => ?_))
 refine wp_seq_k fun gk dy => ?_
 refine wp_g0 [true, true] [] 38
   [ve (pv q9), ve (iv ((cleanV v).k))] bE (.eq (.eq (.nil))) ?_ ?_
 exact .f (fun k => k.fx 1 bG) <| .t (fun _ w hn k => ⟨_, v_load rfl (k.eq1 0 6 rfl) (l_one Tryd.isAgg3 ((bI.new_ hn).cell 0)), rfl⟩) .nil
 refine aftI bE dm dw fun gl gm bJ dz dA a3 bK => ?_
 have em := bK.fx 1 bG
 have df := bK.ge 1 7 rfl
 have dB := bI.new_ a3
 have dC := dt.new_ a3
 have dD := du.new_ a3
 refine st_nil (dy _ _ ?_)
 refine wp_block ?_
 refine wp_seq_k fun gn dE => ?_
 refine wp_g0 [true, true] [] 38
   [ve (.bool (decide (((cleanV v).k) = 0))), ve (.bool (decide (((cleanV v).k) = 0)))] bJ (.eq (.eq (.nil))) ?_ ?_
 exact .t (fun _ w hn k => ⟨_, v_bin rfl (k.fx 7 df) rfl (fun _ => rfl) (r_eql rfl), rfl⟩) <| .a (fun k => k.eq1 0 9 rfl) .nil
 refine aftI bJ dz dA fun go bi aI bL a4 a5 a6 => ?_
 have en := a6.fx 1 em
 have dg := a6.fx 7 df
 have dh := a6.ge 1 8 rfl
 have dF := dB.new_ a5
 have dG := dC.new_ a5
 have dH := dD.new_ a5
 refine st_nil (dE _ _ ?_)
 rcases bc (decide (((cleanV v).k) = 0)) with ac | ac
 have b7 := oT ac
 have dI := hB dh ac
 refine wp_cond_true dI ?_
 refine wp_seq_k fun gp dJ => ?_
 refine wp_g0 [true, true, true] [] 38
   [(OP bi.heap.size 64 .u16 (asc ⟨#[117, 110, 100, 101, 102, 105, 110, 101, 100]⟩)),
    (OP bi.heap.size 64 .u16 (asc ⟨#[117, 110, 100, 101, 102, 105, 110, 101, 100]⟩)), ve (iv 0)] aI (.cons (fun _ _ _ n ⟨_, _, e, h⟩ => ⟨_, _, e, h.new_ n⟩) (.cons (fun v W W' hn ⟨er, es, he, h0⟩ => ⟨er, es, he, h0.new_ hn⟩) (.eq (.nil)))) ?_ ?_
 refine .o1 (tkC rfl (noG rfl) rfl fun _ w hn k => (by
       refine ⟨#[.string ⟨#[117, 110, 100, 101, 102, 105, 110, 101, 100]⟩], _, args1 rfl, fun w => by kernel_rfl, ascii_c ⟨#[117, 110, 100, 101, 102, 105, 110, 101, 100]⟩ _ (by first | omega | (show (_ : Nat) ≤ _; decide)), ?_⟩
       rintro e w' ⟨et, eu, rfl, hmo0, hm⟩
       exact ⟨_, rfl, hm, ⟨et, eu, rfl, (hmo0.more hn.size)⟩⟩)) ?_
 refine .o1 (tk rfl rfl fun _ w hn k => (by
       obtain ⟨ev, ew, ex, dK⟩ : (OP bi.heap.size 64 .u16 (asc ⟨#[117, 110, 100, 101, 102, 105, 110, 101, 100]⟩)) _ _ := k.dep 0 10 (by kernel_rfl) (by kernel_rfl)
       exact ⟨_, v_assign rfl ex, ⟨ev, ew, rfl, dK⟩⟩)) ?_
 exact .t (fun _ w hn k => ⟨_, v_assign rfl rfl, rfl⟩) .nil
 refine aftI aI bL a4 fun ey gq fL dL dM fM bM => ?_
 obtain ⟨aX, aB, bN, dN⟩ : (OP bi.heap.size 64 .u16 (asc ⟨#[117, 110, 100, 101, 102, 105, 110, 101, 100]⟩)) _ _ := bM.got 1 2 rfl (by kernel_rfl)
 have bN : ey.eval (.tmp 2) = sv aX (asc ⟨#[117, 110, 100, 101, 102, 105, 110, 101, 100]⟩) aB := bN
 have ez := bM.ge 2 3 rfl
 have dO := dN.more a4.size
 refine st_nil (dJ _ _ ?_)
 refine wp_ret (ret_k dL (v := .tuple #[sv aX (asc ⟨#[117, 110, 100, 101, 102, 105, 110, 101, 100]⟩) aB, iv 0]) (res_tt rfl bN ez _) ?_)
 have ad : (textV v).1 = (asc ⟨#[117, 110, 100, 101, 102, 105, 110, 101, 100]⟩) := by first | rfl | (simp only [textV, ac, bsm] <;> rfl) | (exfalso; omega)
 exact ⟨aX, aB, (by show Ending.returned (.tuple #[sv aX (asc ⟨#[117, 110, 100, 101, 102, 105, 110, 101, 100]⟩) aB, iv 0]) = Ending.returned (.tuple #[sv aX ((textV v).1) aB, iv ((textV v).2)]); (first | rfl | (simp only [textV, ac, ad, bsm] <;> rfl) | (exfalso; omega))), (by rw [ad]; exact dO.row), dM⟩
 have b7 := oF ac
 have dP := hB dh ac
 refine wp_cond_false dP ?_
 refine wp_seq_k fun gr dQ => ?_
 refine wp_g0 [true, true] [] 38
   [ve (.bool (decide (((cleanV v).k) = 1))), ve (.bool (decide (((cleanV v).k) = 1)))] aI (.eq (.eq (.nil))) ?_ ?_
 exact .t (fun _ w hn k => ⟨_, v_bin rfl (k.fx 7 dg) rfl (fun _ => rfl) (r_eql rfl), rfl⟩) <| .a (fun k => k.eq1 0 12 rfl) .nil
 refine aftI aI bL a4 fun gs bj aJ bO a7 a8 a9 => ?_
 have eA := a9.fx 1 en
 have di := a9.fx 7 dg
 have dj := a9.ge 1 11 rfl
 have dR := dF.new_ a8
 have dS := dG.new_ a8
 have dT := dH.new_ a8
 refine st_nil (dQ _ _ ?_)
 rcases bc (decide (((cleanV v).k) = 1)) with aa | aa
 have bP := oT aa
 have b8 := hB dj aa
 refine wp_cond_true b8 ?_
 refine wp_seq_k fun fN b9 => ?_
 refine wp_g0 [true, true, true] [] 38
   [(OP bj.heap.size 64 .u16 (asc ⟨#[110, 117, 108, 108]⟩)),
    (OP bj.heap.size 64 .u16 (asc ⟨#[110, 117, 108, 108]⟩)), ve (iv 0)] aJ (.cons (fun _ _ _ n ⟨_, _, e, h⟩ => ⟨_, _, e, h.new_ n⟩) (.cons (fun v W W' hn ⟨eD, eE, he, h0⟩ => ⟨eD, eE, he, h0.new_ hn⟩) (.eq (.nil)))) ?_ ?_
 refine .o1 (tkC rfl (noG rfl) rfl fun _ w hn k => (by
       refine ⟨#[.string ⟨#[110, 117, 108, 108]⟩], _, args1 rfl, fun w => by kernel_rfl, ascii_c ⟨#[110, 117, 108, 108]⟩ _ (by first | omega | (show (_ : Nat) ≤ _; decide)), ?_⟩
       rintro e w' ⟨az, eF, rfl, hmo0, hm⟩
       exact ⟨_, rfl, hm, ⟨az, eF, rfl, (hmo0.more hn.size)⟩⟩)) ?_
 refine .o1 (tk rfl rfl fun _ w hn k => (by
       obtain ⟨eG, eH, eI, dU⟩ : (OP bj.heap.size 64 .u16 (asc ⟨#[110, 117, 108, 108]⟩)) _ _ := k.dep 0 13 (by kernel_rfl) (by kernel_rfl)
       exact ⟨_, v_assign rfl eI, ⟨eG, eH, rfl, dU⟩⟩)) ?_
 exact .t (fun _ w hn k => ⟨_, v_assign rfl rfl, rfl⟩) .nil
 refine aftI aJ bO a7 fun dV fO fs ca cb ft bk => ?_
 obtain ⟨aC, aj, ba, cc⟩ : (OP bj.heap.size 64 .u16 (asc ⟨#[110, 117, 108, 108]⟩)) _ _ := bk.got 1 2 rfl (by kernel_rfl)
 have ba : dV.eval (.tmp 2) = sv aC (asc ⟨#[110, 117, 108, 108]⟩) aj := ba
 have dW := bk.ge 2 3 rfl
 have cd := cc.more a7.size
 refine st_nil (b9 _ _ ?_)
 refine wp_ret (ret_k ca (v := .tuple #[sv aC (asc ⟨#[110, 117, 108, 108]⟩) aj, iv 0]) (res_tt rfl ba dW _) ?_)
 have ad : (textV v).1 = (asc ⟨#[110, 117, 108, 108]⟩) := by first | rfl | (simp only [textV, ac, aa, bsm] <;> rfl) | (exfalso; omega)
 exact ⟨aC, aj, (by show Ending.returned (.tuple #[sv aC (asc ⟨#[110, 117, 108, 108]⟩) aj, iv 0]) = Ending.returned (.tuple #[sv aC ((textV v).1) aj, iv ((textV v).2)]); (first | rfl | (simp only [textV, ac, aa, ad, bsm] <;> rfl) | (exfalso; omega))), (by rw [ad]; exact cd.row), cb⟩
 have bP := oF aa
 have ce := hB dj aa
 refine wp_cond_false ce ?_
 refine wp_seq_k fun fP cf => ?_
 refine wp_g0 [true, true] [] 38
   [ve (.bool (decide (((cleanV v).k) = 2))), ve (.bool (decide (((cleanV v).k) = 2)))] aJ (.eq (.eq (.nil))) ?_ ?_
 exact .t (fun _ w hn k => ⟨_, v_bin rfl (k.fx 7 di) rfl (fun _ => rfl) (r_eql rfl), rfl⟩) <| .a (fun k => k.eq1 0 15 rfl) .nil
 refine aftI aJ bO a7 fun fQ fR ap bl bm aK aL => ?_
 have bQ := aL.fx 1 eA
 have bR := aL.fx 7 di
 have bS := aL.ge 1 14 rfl
 have bn := dR.new_ aK
 have ch := dS.new_ aK
 have ci := dT.new_ aK
 refine st_nil (cf _ _ ?_)
 rcases bc (decide (((cleanV v).k) = 2)) with ab | ab
 have bT := oT ab
 have cj := hB bS ab
 refine wp_cond_true cj ?_
 refine wp_seq_k fun fS cl => ?_
 refine wp_seq_k fun fT cm => ?_
 refine wp_g0 [true, true, true] [] 38
   [ve (.pointer (some ⟨q9, 6, none⟩)), ve (iv ((cleanV v).ref)), ve (.bool (decide (((cleanV v).ref) = 1)))] ap (.eq (.eq (.eq (.nil)))) ?_ ?_
 exact .f (fun k => k.fx 1 bQ) <| .t (fun _ w hn k => ⟨_, v_load rfl (k.eq1 0 16 rfl) (l_one Tryd.isAgg3 ((bn.new_ hn).cell 6)), rfl⟩) <| .t (fun _ w hn k => ⟨_, v_bin rfl (k.eq1 1 17 rfl) rfl (fun _ => rfl) (r_eql rfl), rfl⟩) .nil
 refine aftI ap bl bm fun fU ai aq bo ar fu cn => ?_
 have bU := cn.ge 2 18 rfl
 refine st_nil (cm _ _ ?_)
 rcases bc (decide (((cleanV v).ref) = 1)) with ag | ag
 have bV := oT ag
 have co := hB bU ag
 refine wp_cond_true co ?_
 refine wp_seq_k fun fV cp => ?_
 refine wp_g0 [true, true, true] [] 38
   [(OP ai.heap.size 64 .u16 (asc ⟨#[116, 114, 117, 101]⟩)),
    (OP ai.heap.size 64 .u16 (asc ⟨#[116, 114, 117, 101]⟩)), ve (iv 0)] aq (.cons (fun _ _ _ n ⟨_, _, e, h⟩ => ⟨_, _, e, h.new_ n⟩) (.cons (fun v W W' hn ⟨eL, eM, he, h0⟩ => ⟨eL, eM, he, h0.new_ hn⟩) (.eq (.nil)))) ?_ ?_
 refine .o1 (tkC rfl (noG rfl) rfl fun _ w hn k => (by
       refine ⟨#[.string ⟨#[116, 114, 117, 101]⟩], _, args1 rfl, fun w => by kernel_rfl, ascii_c ⟨#[116, 114, 117, 101]⟩ _ (by first | omega | (show (_ : Nat) ≤ _; decide)), ?_⟩
       rintro e w' ⟨eN, eO, rfl, hmo0, hm⟩
       exact ⟨_, rfl, hm, ⟨eN, eO, rfl, (hmo0.more hn.size)⟩⟩)) ?_
 refine .o1 (tk rfl rfl fun _ w hn k => (by
       obtain ⟨eP, eQ, eR, dX⟩ : (OP ai.heap.size 64 .u16 (asc ⟨#[116, 114, 117, 101]⟩)) _ _ := k.dep 0 19 (by kernel_rfl) (by kernel_rfl)
       exact ⟨_, v_assign rfl eR, ⟨eP, eQ, rfl, dX⟩⟩)) ?_
 exact .t (fun _ w hn k => ⟨_, v_assign rfl rfl, rfl⟩) .nil
 refine aftI aq bo ar fun dY fW fv cq cr fw bp => ?_
 obtain ⟨aD, ak, bb, ct⟩ : (OP ai.heap.size 64 .u16 (asc ⟨#[116, 114, 117, 101]⟩)) _ _ := bp.got 1 2 rfl (by kernel_rfl)
 have bb : dY.eval (.tmp 2) = sv aD (asc ⟨#[116, 114, 117, 101]⟩) ak := bb
 have dZ := bp.ge 2 3 rfl
 have cu := ct.more ar.size
 refine st_nil (cp _ _ ?_)
 refine wp_ret (ret_k cq (v := .tuple #[sv aD (asc ⟨#[116, 114, 117, 101]⟩) ak, iv 0]) (res_tt rfl bb dZ _) ?_)
 have ad : (textV v).1 = (asc ⟨#[116, 114, 117, 101]⟩) := by first | rfl | (simp only [textV, ac, aa, ab, ag, bsm] <;> rfl) | (exfalso; omega)
 exact ⟨aD, ak, (by show Ending.returned (.tuple #[sv aD (asc ⟨#[116, 114, 117, 101]⟩) ak, iv 0]) = Ending.returned (.tuple #[sv aD ((textV v).1) ak, iv ((textV v).2)]); (first | rfl | (simp only [textV, ac, aa, ab, ag, ad, bsm] <;> rfl) | (exfalso; omega))), (by rw [ad]; exact cu.row), cr⟩
 have bV := oF ag
 have cw := hB bU ag
 refine wp_cond_false cw ?_
 refine wp_skip ?_
 refine cl _ _ ?_
 refine wp_seq_k fun fX cx => ?_
 refine wp_g0 [true, true, true] [] 38
   [(OP ai.heap.size 64 .u16 (asc ⟨#[102, 97, 108, 115, 101]⟩)),
    (OP ai.heap.size 64 .u16 (asc ⟨#[102, 97, 108, 115, 101]⟩)), ve (iv 0)] aq (.cons (fun _ _ _ n ⟨_, _, e, h⟩ => ⟨_, _, e, h.new_ n⟩) (.cons (fun v W W' hn ⟨eU, eV, he, h0⟩ => ⟨eU, eV, he, h0.new_ hn⟩) (.eq (.nil)))) ?_ ?_
 refine .o1 (tkC rfl (noG rfl) rfl fun _ w hn k => (by
       refine ⟨#[.string ⟨#[102, 97, 108, 115, 101]⟩], _, args1 rfl, fun w => by kernel_rfl, ascii_c ⟨#[102, 97, 108, 115, 101]⟩ _ (by first | omega | (show (_ : Nat) ≤ _; decide)), ?_⟩
       rintro e w' ⟨eW, eX, rfl, hmo0, hm⟩
       exact ⟨_, rfl, hm, ⟨eW, eX, rfl, (hmo0.more hn.size)⟩⟩)) ?_
 refine .o1 (tk rfl rfl fun _ w hn k => (by
       obtain ⟨eY, eZ, e0, d0⟩ : (OP ai.heap.size 64 .u16 (asc ⟨#[102, 97, 108, 115, 101]⟩)) _ _ := k.dep 0 20 (by kernel_rfl) (by kernel_rfl)
       exact ⟨_, v_assign rfl e0, ⟨eY, eZ, rfl, d0⟩⟩)) ?_
 exact .t (fun _ w hn k => ⟨_, v_assign rfl rfl, rfl⟩) .nil
 refine aftI aq bo ar fun d1 fY fy cy cz fz bq => ?_
 obtain ⟨aE, al, bd, cA⟩ : (OP ai.heap.size 64 .u16 (asc ⟨#[102, 97, 108, 115, 101]⟩)) _ _ := bq.got 1 2 rfl (by kernel_rfl)
 have bd : d1.eval (.tmp 2) = sv aE (asc ⟨#[102, 97, 108, 115, 101]⟩) al := bd
 have d2 := bq.ge 2 3 rfl
 have cB := cA.more ar.size
 refine st_nil (cx _ _ ?_)
 refine wp_ret (ret_k cy (v := .tuple #[sv aE (asc ⟨#[102, 97, 108, 115, 101]⟩) al, iv 0]) (res_tt rfl bd d2 _) ?_)
 have ad : (textV v).1 = (asc ⟨#[102, 97, 108, 115, 101]⟩) := by first | rfl | (simp only [textV, ac, aa, ab, ag, bsm] <;> rfl) | (exfalso; omega)
 exact ⟨aE, al, (by show Ending.returned (.tuple #[sv aE (asc ⟨#[102, 97, 108, 115, 101]⟩) al, iv 0]) = Ending.returned (.tuple #[sv aE ((textV v).1) al, iv ((textV v).2)]); (first | rfl | (simp only [textV, ac, aa, ab, ag, ad, bsm] <;> rfl) | (exfalso; omega))), (by rw [ad]; exact cB.row), cz⟩
 have bT := oF ab
 have cC := hB bS ab
 refine wp_cond_false cC ?_
 refine wp_seq_k fun fZ cD => ?_
 refine wp_g0 [true, true] [] 38
   [ve (.bool (decide (((cleanV v).k) = 3))), ve (.bool (decide (((cleanV v).k) = 3)))] ap (.eq (.eq (.nil))) ?_ ?_
 exact .t (fun _ w hn k => ⟨_, v_bin rfl (k.fx 7 bR) rfl (fun _ => rfl) (r_eql rfl), rfl⟩) <| .a (fun k => k.eq1 0 22 rfl) .nil
 refine aftI ap bl bm fun f0 aM au br av aN aO => ?_
 have bW := aO.fx 1 bQ
 have bX := aO.fx 7 bR
 have bY := aO.ge 1 21 rfl
 have bs := bn.new_ aN
 have cE := ch.new_ aN
 have cF := ci.new_ aN
 refine st_nil (cD _ _ ?_)
 rcases bc (decide (((cleanV v).k) = 3)) with ae | ae
 have bZ := oT ae
 have cG := hB bY ae
 refine wp_cond_true cG ?_
 refine wp_seq_k fun f1 cH => ?_
 refine wp_g0 [true, true, true, true, true, true] [] 38
   [ve (.pointer (some ⟨q9, 1, none⟩)), ve (nv (Nm.mk ((cleanV v).nk) ((cleanV v).nn))), ve (.string (textM (Nm.mk ((cleanV v).nk) ((cleanV v).nn)))),
    (OP aM.heap.size 64 .u16 (asc (textM (Nm.mk ((cleanV v).nk) ((cleanV v).nn))))),
    (OP aM.heap.size 64 .u16 (asc (textM (Nm.mk ((cleanV v).nk) ((cleanV v).nn))))), ve (iv 0)] au (.eq (.eq (.eq (.cons (fun _ _ _ n ⟨_, _, e, h⟩ => ⟨_, _, e, h.new_ n⟩) (.cons (fun v W W' hn ⟨e3, e4, he, h0⟩ => ⟨e3, e4, he, h0.new_ hn⟩) (.eq (.nil))))))) ?_ ?_
 refine .f (fun k => k.fx 1 bW) <| .t (fun _ w hn k => ⟨_, v_load rfl (k.eq1 0 23 rfl) (l_part Tryd.isAgg23 Tryd.sizeOf23 (bs.new_ hn) lb), rfl⟩) <| .o1 (ck rfl rfl rfl (fun _ w hn k => ⟨#[nv (Nm.mk ((cleanV v).nk) ((cleanV v).nn))], args1 (k.eq1 1 24 rfl), fun _ => by kernel_rfl, ntext_c (Nm.mk ((cleanV v).nk) ((cleanV v).nn)) _ (HT.up (av.transNew hn))⟩) fun _ => rfl) ?_
 refine .o1 (tkC rfl (noG rfl) rfl fun _ w hn k => (by
       refine ⟨#[.string (textM (Nm.mk ((cleanV v).nk) ((cleanV v).nn)))], _, args1 (k.eq1 2 25 rfl), fun w => by kernel_rfl, ascii_c (textM (Nm.mk ((cleanV v).nk) ((cleanV v).nn))) _ (by first | omega | (show (_ : Nat) ≤ _; decide)), ?_⟩
       rintro e w' ⟨e5, e6, rfl, hmo0, hm⟩
       exact ⟨_, rfl, hm, ⟨e5, e6, rfl, (hmo0.more hn.size)⟩⟩)) ?_
 refine .o1 (tk rfl rfl fun _ w hn k => (by
       obtain ⟨e7, e8, e9, d3⟩ : (OP aM.heap.size 64 .u16 (asc (textM (Nm.mk ((cleanV v).nk) ((cleanV v).nn))))) _ _ := k.dep 3 26 (by kernel_rfl) (by kernel_rfl)
       exact ⟨_, v_assign rfl e9, ⟨e7, e8, rfl, d3⟩⟩)) ?_
 exact .t (fun _ w hn k => ⟨_, v_assign rfl rfl, rfl⟩) .nil
 refine aftI au br av fun d4 f2 fA cI cJ fB bt => ?_
 obtain ⟨aF, am, be, cK⟩ : (OP aM.heap.size 64 .u16 (asc (textM (Nm.mk ((cleanV v).nk) ((cleanV v).nn))))) _ _ := bt.got 4 2 rfl (by kernel_rfl)
 have be : d4.eval (.tmp 2) = sv aF (asc (textM (Nm.mk ((cleanV v).nk) ((cleanV v).nn)))) am := be
 have d5 := bt.ge 5 3 rfl
 have cL := cK.more av.size
 refine st_nil (cH _ _ ?_)
 refine wp_ret (ret_k cI (v := .tuple #[sv aF (asc (textM (Nm.mk ((cleanV v).nk) ((cleanV v).nn)))) am, iv 0]) (res_tt rfl be d5 _) ?_)
 have ad : (textV v).1 = (asc (textM (Nm.mk ((cleanV v).nk) ((cleanV v).nn)))) := by first | rfl | (simp only [textV, ac, aa, ab, ae, bsm] <;> rfl) | (exfalso; omega)
 exact ⟨aF, am, (by show Ending.returned (.tuple #[sv aF (asc (textM (Nm.mk ((cleanV v).nk) ((cleanV v).nn)))) am, iv 0]) = Ending.returned (.tuple #[sv aF ((textV v).1) am, iv ((textV v).2)]); (first | rfl | (simp only [textV, ac, aa, ab, ae, ad, bsm] <;> rfl) | (exfalso; omega))), (by rw [ad]; exact cL.row), cJ⟩
 have bZ := oF ae
 have cM := hB bY ae
 refine wp_cond_false cM ?_
 refine wp_seq_k fun f3 cN => ?_
 refine wp_g0 [true, true] [] 38
   [ve (.bool (decide (((cleanV v).k) = 4))), ve (.bool (decide (((cleanV v).k) = 4)))] au (.eq (.eq (.nil))) ?_ ?_
 exact .t (fun _ w hn k => ⟨_, v_bin rfl (k.fx 7 bX) rfl (fun _ => rfl) (r_eql rfl), rfl⟩) <| .a (fun k => k.eq1 0 28 rfl) .nil
 refine aftI au br av fun f4 aP aw bu aQ aR aS => ?_
 have b0 := aS.fx 1 bW
 have d6 := aS.fx 7 bX
 have b1 := aS.ge 1 27 rfl
 have bv := bs.new_ aR
 have bw := cE.new_ aR
 have cO := cF.new_ aR
 refine st_nil (cN _ _ ?_)
 rcases bc (decide (((cleanV v).k) = 4)) with af | af
 have b2 := oT af
 have cP := hB b1 af
 refine wp_cond_true cP ?_
 refine wp_seq_k fun f5 cQ => ?_
 refine wp_g0 [true, true, true, true, true, true] [] 38
   [ve (.pointer (some ⟨q9, 3, none⟩)), ve (.agg #[.bool ((cleanV v).neg), sv aW ((cleanV v).mag) ay]), ve (.string (strOfNums (textI (goodI ((cleanV v).neg) ((cleanV v).mag))))),
    (OP aP.heap.size 64 .u16 (asc (strOfNums (textI (goodI ((cleanV v).neg) ((cleanV v).mag)))))),
    (OP aP.heap.size 64 .u16 (asc (strOfNums (textI (goodI ((cleanV v).neg) ((cleanV v).mag)))))), ve (iv 0)] aw (.eq (.eq (.eq (.cons (fun _ _ _ n ⟨_, _, e, h⟩ => ⟨_, _, e, h.new_ n⟩) (.cons (fun v W W' hn ⟨fc, fd, he, h0⟩ => ⟨fc, fd, he, h0.new_ hn⟩) (.eq (.nil))))))) ?_ ?_
 refine .f (fun k => k.fx 1 b0) <| .t (fun _ w hn k => ⟨_, v_load rfl (k.eq1 0 29 rfl) (l_part Tryd.isAgg26 Tryd.sizeOf26 (bv.new_ hn) lb), rfl⟩) <| .o1 (ck rfl rfl rfl (fun _ w hn k => ⟨#[.agg #[.bool ((cleanV v).neg), sv aW ((cleanV v).mag) ay]], args1 (k.eq1 1 30 rfl), fun _ => by kernel_rfl, bText_c ((cleanV v).neg) _ ((cleanV v).mag) _ _ (bw.new_ hn) hvv.clean.limbs⟩) fun _ => rfl) ?_
 refine .o1 (tkC rfl (noG rfl) rfl fun _ w hn k => (by
       refine ⟨#[.string (strOfNums (textI (goodI ((cleanV v).neg) ((cleanV v).mag))))], _, args1 (k.eq1 2 31 rfl), fun w => by kernel_rfl, ascii_c (strOfNums (textI (goodI ((cleanV v).neg) ((cleanV v).mag)))) _ (by first | omega | (show (_ : Nat) ≤ _; decide)), ?_⟩
       rintro e w' ⟨fe, ff, rfl, hmo0, hm⟩
       exact ⟨_, rfl, hm, ⟨fe, ff, rfl, (hmo0.more hn.size)⟩⟩)) ?_
 refine .o1 (tk rfl rfl fun _ w hn k => (by
       obtain ⟨fg, fh, fi, d7⟩ : (OP aP.heap.size 64 .u16 (asc (strOfNums (textI (goodI ((cleanV v).neg) ((cleanV v).mag)))))) _ _ := k.dep 3 32 (by kernel_rfl) (by kernel_rfl)
       exact ⟨_, v_assign rfl fi, ⟨fg, fh, rfl, d7⟩⟩)) ?_
 exact .t (fun _ w hn k => ⟨_, v_assign rfl rfl, rfl⟩) .nil
 refine aftI aw bu aQ fun d8 f6 fC cR cS fD bx => ?_
 obtain ⟨aG, an, bf, cT⟩ : (OP aP.heap.size 64 .u16 (asc (strOfNums (textI (goodI ((cleanV v).neg) ((cleanV v).mag)))))) _ _ := bx.got 4 2 rfl (by kernel_rfl)
 have bf : d8.eval (.tmp 2) = sv aG (asc (strOfNums (textI (goodI ((cleanV v).neg) ((cleanV v).mag))))) an := bf
 have d9 := bx.ge 5 3 rfl
 have cU := cT.more aQ.size
 refine st_nil (cQ _ _ ?_)
 refine wp_ret (ret_k cR (v := .tuple #[sv aG (asc (strOfNums (textI (goodI ((cleanV v).neg) ((cleanV v).mag))))) an, iv 0]) (res_tt rfl bf d9 _) ?_)
 have ad : (textV v).1 = (asc (strOfNums (textI (goodI ((cleanV v).neg) ((cleanV v).mag))))) := by first | rfl | (simp only [textV, ac, aa, ab, ae, af, bsm] <;> rfl) | (exfalso; omega)
 exact ⟨aG, an, (by show Ending.returned (.tuple #[sv aG (asc (strOfNums (textI (goodI ((cleanV v).neg) ((cleanV v).mag))))) an, iv 0]) = Ending.returned (.tuple #[sv aG ((textV v).1) an, iv ((textV v).2)]); (first | rfl | (simp only [textV, ac, aa, ab, ae, af, ad, bsm] <;> rfl) | (exfalso; omega))), (by rw [ad]; exact cU.row), cS⟩
 have b2 := oF af
 have cV := hB b1 af
 refine wp_cond_false cV ?_
 refine wp_seq_k fun f7 cW => ?_
 refine wp_g0 [true, true] [] 38
   [ve (.bool (decide (((cleanV v).k) = 5))), ve (.bool (decide (((cleanV v).k) = 5)))] aw (.eq (.eq (.nil))) ?_ ?_
 exact .t (fun _ w hn k => ⟨_, v_bin rfl (k.fx 7 d6) rfl (fun _ => rfl) (r_eql rfl), rfl⟩) <| .a (fun k => k.eq1 0 34 rfl) .nil
 refine aftI aw bu aQ fun f8 aT ax bz aU aV bA => ?_
 have ea := bA.fx 1 b0
 have b3 := bA.ge 1 33 rfl
 have cX := bv.new_ aV
 have fE := bw.new_ aV
 have cY := cO.new_ aV
 refine st_nil (cW _ _ ?_)
 rcases bc (decide (((cleanV v).k) = 5)) with ah | ah
 have b4 := oT ah
 have cZ := hB b3 ah
 refine wp_cond_true cZ ?_
 refine wp_seq_k fun f9 c0 => ?_
 refine wp_g0 [true, true, true, true, true] [] 38
   [ve (.pointer (some ⟨q9, 5, none⟩)), ve (sv az ((cleanV v).s) aA),
    (OP aT.heap.size 64 .u16 ((cleanV v).s)),
    (OP aT.heap.size 64 .u16 ((cleanV v).s)), ve (iv 0)] ax (.eq (.eq (.cons (fun _ _ _ n ⟨_, _, e, h⟩ => ⟨_, _, e, h.new_ n⟩) (.cons (fun v W W' hn ⟨fl, fm, he, h0⟩ => ⟨fl, fm, he, h0.new_ hn⟩) (.eq (.nil)))))) ?_ ?_
 refine .f (fun k => k.fx 1 ea) <| .t (fun _ w hn k => ⟨_, v_load rfl (k.eq1 0 35 rfl) (l_one Tryd.isAgg27 ((cX.new_ hn).cell 5)), rfl⟩) ?_
 refine .o1 (tkC rfl (noG rfl) rfl fun _ w hn k => (by
       refine ⟨#[sv az ((cleanV v).s) aA], _, args1 (k.eq1 1 36 rfl), fun w => by kernel_rfl, clone16_c _ ((cleanV v).s) _ _ (cY.new_ hn) (by first | omega | (simp only [List.length_nil, List.length_take, List.length_drop]; omega) | (simp only [List.length_cons, List.length_nil]; omega)), ?_⟩
       rintro e w' ⟨fn, fo, rfl, hmo0, hm⟩
       exact ⟨_, rfl, hm, ⟨fn, fo, rfl, (hmo0.more hn.size)⟩⟩)) ?_
 refine .o1 (tk rfl rfl fun _ w hn k => (by
       obtain ⟨fp, fq, fr, eb⟩ : (OP aT.heap.size 64 .u16 ((cleanV v).s)) _ _ := k.dep 2 37 (by kernel_rfl) (by kernel_rfl)
       exact ⟨_, v_assign rfl fr, ⟨fp, fq, rfl, eb⟩⟩)) ?_
 exact .t (fun _ w hn k => ⟨_, v_assign rfl rfl, rfl⟩) .nil
 refine aftI ax bz aU fun ec ga fF c1 c3 fG bB => ?_
 obtain ⟨aH, ao, bg, c5⟩ : (OP aT.heap.size 64 .u16 ((cleanV v).s)) _ _ := bB.got 3 2 rfl (by kernel_rfl)
 have bg : ec.eval (.tmp 2) = sv aH ((cleanV v).s) ao := bg
 have ed := bB.ge 4 3 rfl
 have c7 := c5.more aU.size
 refine st_nil (c0 _ _ ?_)
 refine wp_ret (ret_k c1 (v := .tuple #[sv aH ((cleanV v).s) ao, iv 0]) (res_tt rfl bg ed _) ?_)
 have ad : (textV v).1 = ((cleanV v).s) := by first | rfl | (simp only [textV, ac, aa, ab, ae, af, ah, bsm] <;> rfl) | (exfalso; omega)
 exact ⟨aH, ao, (by show Ending.returned (.tuple #[sv aH ((cleanV v).s) ao, iv 0]) = Ending.returned (.tuple #[sv aH ((textV v).1) ao, iv ((textV v).2)]); (first | rfl | (simp only [textV, ac, aa, ab, ae, af, ah, ad, bsm] <;> rfl) | (exfalso; omega))), (by rw [ad]; exact c7.row), c3⟩
 have b4 := oF ah
 have c9 := hB b3 ah
 refine wp_cond_false c9 ?_
 refine wp_skip ?_
 refine dx _ _ ?_
 refine wp_seq_k fun gb da => ?_
 refine wp_g0 [true, true] [] 38
   [ve (sv none ([]) 0), ve (iv 3)] ax (.eq (.eq (.nil))) ?_ ?_
 exact .t (fun _ w hn k => ⟨_, v_assign rfl rfl, rfl⟩) <| .t (fun _ w hn k => ⟨_, v_assign rfl rfl, rfl⟩) .nil
 refine aftI ax bz aU fun gc gd fH db dc fI bC => ?_
 have ee := bC.ge 0 2 rfl
 have ef := bC.ge 1 3 rfl
 refine st_nil (da _ _ ?_)
 refine wp_ret (ret_k db (v := .tuple #[sv none ([]) 0, iv 3]) (res_tt rfl ee ef _) ?_)
 have ad : (textV v).1 = [] := by first | rfl | (simp only [textV, ac, aa, ab, ae, af, ah, bsm] <;> rfl) | (exfalso; omega)
 exact ⟨none, 0, (by show Ending.returned (.tuple #[sv none ([]) 0, iv 3]) = Ending.returned (.tuple #[sv none ((textV v).1) 0, iv ((textV v).2)]); (first | rfl | (simp only [textV, ac, aa, ab, ae, af, ah, ad, bsm] <;> rfl) | (exfalso; omega))), (by rw [ad]; exact (SRow.nil _ _)), dc⟩
theorem rbig_c (a : Bool) (Aa : Option Addr) (ma : List Nat) (ca : Nat) (b : Bool) (Ab : Option Addr) (mb : List Nat) (cb : Nat) (w : World) (hra : SRow w .u32 Aa ma ca) (hrb : SRow w .u32 Ab mb cb) : Calls Tryd.prog 22 #[.agg #[.bool a, sv Aa ma ca], .agg #[.bool b, sv Ab mb cb]] w (IsRet (.bool (decide (a = b) && decide (ma = mb))) w) := by
 refine enter_abs Tryd.func22 rfl fun a0 ak aE hp => ?_
 have ak : a0.tmps.size = 17 := ak
 have am : New w w := Upd.refl _ _
 have hp0 : a0.eval (.tmp 0) = .agg #[.bool a, sv Aa ma ca] := hp 0 _ rfl
 have hp1 : a0.eval (.tmp 1) = .agg #[.bool b, sv Ab mb cb] := hp 1 _ rfl
 refine wp_seq_k fun K1 aF => ?_
 refine wp_g [true, true, true] [] [] 17
   [IsNew w 26 [.bool a, sv Aa ma ca], IsNew w 26 [.bool b, sv Ab mb cb], vF]
   [0, 1] (newsCons (fun v w h => IsNew.old h) (newsCons (fun v w h => IsNew.old h) newsNil)) ak (.nw (.nw (.eq (.nil)))) ?_ (fun i h => by cases h) ?_
 exact .o2 (step_allocN (cs := [.bool a, sv Aa ma ca]) (t := 26) rfl (noG rfl) (fun _ w hn k => v_box rfl (k.fx 0 hp0) (fun w => rfl)) (fun q _ hq hb => ⟨q, rfl, hq, hb⟩)) <| .o2 (step_allocN (cs := [.bool b, sv Ab mb cb]) (t := 26) rfl (noG rfl) (fun _ w hn k => v_box rfl (k.fx 1 hp1) (fun w => rfl)) (fun q _ hq hb => ⟨q, rfl, hq, hb⟩)) <| .t (fun _ w hn k => ⟨_, v_assign rfl rfl, rfl⟩) .nil
 refine aftI ak aE am fun a2 w3 ae al ab aU an => ?_
 obtain ⟨q9, h8, ao, ac⟩ : IsNew _ _ _ _ _ := an.got 0 2 rfl (by kernel_rfl)
 obtain ⟨ah, ai, ap, ad⟩ : IsNew _ _ _ _ _ := an.got 1 3 rfl (by kernel_rfl)
 have aK := Nat.le_trans am.size ao
 have aL := Nat.le_trans am.size ap
 refine st_nil (aF _ _ (wp_seq_k fun aV aj => ?_))
 rcases bc (a) with aa | aa
 rcases bc (b) with af | af
 refine wp_g0 (.replicate 13 true) [] 17
   [ve (pv q9), vT, ve (pv ah), vT, vT, vT, ve (.pointer (some ⟨q9, 1, none⟩)), ve (sv Aa ma ca), ve (.pointer (some ⟨ah, 1, none⟩)), ve (sv Ab mb cb), ve (.bool (decide (ma = mb))), ve (.bool (decide (ma = mb))), ve (.bool (decide (ma = mb)))] ae (.eq (.eq (.eq (.eq (.eq (.eq (.eq (.eq (.eq (.eq (.eq (.eq (.eq (.nil)))))))))))))) ?_ ?_
 exact .f (fun k => k.fx 2 h8) <| .o1 (tk rfl rfl fun _ w hn k => ⟨_, v_load rfl (k.eq1 0 5 rfl) (l_one Tryd.isAgg4 ((ac.new_ hn).cell 0)), congrArg Value.bool aa⟩) <| .f (fun k => k.fx 3 ai) <| .o1 (tk rfl rfl fun _ w hn k => ⟨_, v_load rfl (k.eq1 2 7 rfl) (l_one Tryd.isAgg4 ((ad.new_ hn).cell 0)), congrArg Value.bool af⟩) <| .t (fun _ w hn k => ⟨_, v_bin rfl (k.eq1 1 6 rfl) (k.eq1 3 8 rfl) (fun _ => rfl) (fun w => by kernel_rfl), rfl⟩) <| .m (fun k => k.eq1 4 9 rfl) <| .gf (fun k => k.eq1 5 10 rfl) (fun k => k.fx 2 h8) <| .g (fun k => k.eq1 5 10 rfl) (fun _ w hn k => ⟨_, v_load rfl (k.eq1 6 11 rfl) (l_one Tryd.isAgg24 ((ac.new_ hn).cell 1)), rfl⟩) <| .gf (fun k => k.eq1 5 10 rfl) (fun k => k.fx 3 ai) <| .g (fun k => k.eq1 5 10 rfl) (fun _ w hn k => ⟨_, v_load rfl (k.eq1 8 13 rfl) (l_one Tryd.isAgg24 ((ad.new_ hn).cell 1)), rfl⟩) <| .o1 (cg rfl rfl rfl (fun _ _ k => k.eq1 5 10 rfl) rfl (fun _ w hn k => ⟨#[sv Aa ma ca, sv Ab mb cb], args2 (k.eq1 7 12 rfl) (k.eq1 9 14 rfl), fun _ => by kernel_rfl, rlist32_c _ ma _ _ mb _ _ (hra.new_ (ab.transNew hn)) (hrb.new_ (ab.transNew hn))⟩) fun _ => rfl) <| .t (fun _ w hn k => ⟨_, v_pickT rfl (k.eq1 5 10 rfl) (k.eq1 10 15 rfl), rfl⟩) <| .a (fun k => k.eq1 11 16 rfl) .nil
 refine aftI ae al ab fun aW aX aM aq ar aN au => ?_
 have aG := au.ge 12 4 rfl
 refine st_nil (aj _ _ ?_)
 refine wp_ret (ret_k aq (v := .bool (decide (ma = mb))) (res_t rfl aG _) ?_)
 refine ⟨?_, ar⟩
 show Ending.returned (.bool (decide (ma = mb))) = Ending.returned (.bool (decide (a = b) && decide (ma = mb)))
 first | rfl | (simp only [aa, af, bsm] <;> rfl) | (exfalso; omega)
 refine wp_g0 (.replicate 13 true) [] 17
   [ve (pv q9), vT, ve (pv ah), vF, vF, vF, vU, vU, vU, vU, vU, vF, vF] ae (.eq (.eq (.eq (.eq (.eq (.eq (.eq (.eq (.eq (.eq (.eq (.eq (.eq (.nil)))))))))))))) ?_ ?_
 exact .f (fun k => k.fx 2 h8) <| .o1 (tk rfl rfl fun _ w hn k => ⟨_, v_load rfl (k.eq1 0 5 rfl) (l_one Tryd.isAgg4 ((ac.new_ hn).cell 0)), congrArg Value.bool aa⟩) <| .f (fun k => k.fx 3 ai) <| .o1 (tk rfl rfl fun _ w hn k => ⟨_, v_load rfl (k.eq1 2 7 rfl) (l_one Tryd.isAgg4 ((ad.new_ hn).cell 0)), congrArg Value.bool af⟩) <| .t (fun _ w hn k => ⟨_, v_bin rfl (k.eq1 1 6 rfl) (k.eq1 3 8 rfl) (fun _ => rfl) (fun w => by kernel_rfl), rfl⟩) <| .m (fun k => k.eq1 4 9 rfl) <| .s (fun k => k.eq1 5 10 rfl) <| .s (fun k => k.eq1 5 10 rfl) <| .s (fun k => k.eq1 5 10 rfl) <| .s (fun k => k.eq1 5 10 rfl) <| .s (fun k => k.eq1 5 10 rfl) <| .t (fun _ w hn k => ⟨_, v_pickF rfl (k.eq1 5 10 rfl) rfl, rfl⟩) <| .a (fun k => k.eq1 11 16 rfl) .nil
 refine aftI ae al ab fun aY aZ aO av aw aP ax => ?_
 have aH := ax.ge 12 4 rfl
 refine st_nil (aj _ _ ?_)
 refine wp_ret (ret_k av (v := .bool false) (res_t rfl aH _) ?_)
 refine ⟨?_, aw⟩
 show Ending.returned (.bool false) = Ending.returned (.bool (decide (a = b) && decide (ma = mb)))
 first | rfl | (simp only [aa, af, bsm] <;> rfl) | (exfalso; omega)
 rcases bc (b) with ag | ag
 refine wp_g0 (.replicate 13 true) [] 17
   [ve (pv q9), vF, ve (pv ah), vT, vF, vF, vU, vU, vU, vU, vU, vF, vF] ae (.eq (.eq (.eq (.eq (.eq (.eq (.eq (.eq (.eq (.eq (.eq (.eq (.eq (.nil)))))))))))))) ?_ ?_
 exact .f (fun k => k.fx 2 h8) <| .o1 (tk rfl rfl fun _ w hn k => ⟨_, v_load rfl (k.eq1 0 5 rfl) (l_one Tryd.isAgg4 ((ac.new_ hn).cell 0)), congrArg Value.bool aa⟩) <| .f (fun k => k.fx 3 ai) <| .o1 (tk rfl rfl fun _ w hn k => ⟨_, v_load rfl (k.eq1 2 7 rfl) (l_one Tryd.isAgg4 ((ad.new_ hn).cell 0)), congrArg Value.bool ag⟩) <| .t (fun _ w hn k => ⟨_, v_bin rfl (k.eq1 1 6 rfl) (k.eq1 3 8 rfl) (fun _ => rfl) (fun w => by kernel_rfl), rfl⟩) <| .m (fun k => k.eq1 4 9 rfl) <| .s (fun k => k.eq1 5 10 rfl) <| .s (fun k => k.eq1 5 10 rfl) <| .s (fun k => k.eq1 5 10 rfl) <| .s (fun k => k.eq1 5 10 rfl) <| .s (fun k => k.eq1 5 10 rfl) <| .t (fun _ w hn k => ⟨_, v_pickF rfl (k.eq1 5 10 rfl) rfl, rfl⟩) <| .a (fun k => k.eq1 11 16 rfl) .nil
 refine aftI ae al ab fun a1 a3 aQ ay az aR aA => ?_
 have aI := aA.ge 12 4 rfl
 refine st_nil (aj _ _ ?_)
 refine wp_ret (ret_k ay (v := .bool false) (res_t rfl aI _) ?_)
 refine ⟨?_, az⟩
 show Ending.returned (.bool false) = Ending.returned (.bool (decide (a = b) && decide (ma = mb)))
 first | rfl | (simp only [aa, ag, bsm] <;> rfl) | (exfalso; omega)
 refine wp_g0 (.replicate 13 true) [] 17
   [ve (pv q9), vF, ve (pv ah), vF, vT, vT, ve (.pointer (some ⟨q9, 1, none⟩)), ve (sv Aa ma ca), ve (.pointer (some ⟨ah, 1, none⟩)), ve (sv Ab mb cb), ve (.bool (decide (ma = mb))), ve (.bool (decide (ma = mb))), ve (.bool (decide (ma = mb)))] ae (.eq (.eq (.eq (.eq (.eq (.eq (.eq (.eq (.eq (.eq (.eq (.eq (.eq (.nil)))))))))))))) ?_ ?_
 exact .f (fun k => k.fx 2 h8) <| .o1 (tk rfl rfl fun _ w hn k => ⟨_, v_load rfl (k.eq1 0 5 rfl) (l_one Tryd.isAgg4 ((ac.new_ hn).cell 0)), congrArg Value.bool aa⟩) <| .f (fun k => k.fx 3 ai) <| .o1 (tk rfl rfl fun _ w hn k => ⟨_, v_load rfl (k.eq1 2 7 rfl) (l_one Tryd.isAgg4 ((ad.new_ hn).cell 0)), congrArg Value.bool ag⟩) <| .t (fun _ w hn k => ⟨_, v_bin rfl (k.eq1 1 6 rfl) (k.eq1 3 8 rfl) (fun _ => rfl) (fun w => by kernel_rfl), rfl⟩) <| .m (fun k => k.eq1 4 9 rfl) <| .gf (fun k => k.eq1 5 10 rfl) (fun k => k.fx 2 h8) <| .g (fun k => k.eq1 5 10 rfl) (fun _ w hn k => ⟨_, v_load rfl (k.eq1 6 11 rfl) (l_one Tryd.isAgg24 ((ac.new_ hn).cell 1)), rfl⟩) <| .gf (fun k => k.eq1 5 10 rfl) (fun k => k.fx 3 ai) <| .g (fun k => k.eq1 5 10 rfl) (fun _ w hn k => ⟨_, v_load rfl (k.eq1 8 13 rfl) (l_one Tryd.isAgg24 ((ad.new_ hn).cell 1)), rfl⟩) <| .o1 (cg rfl rfl rfl (fun _ _ k => k.eq1 5 10 rfl) rfl (fun _ w hn k => ⟨#[sv Aa ma ca, sv Ab mb cb], args2 (k.eq1 7 12 rfl) (k.eq1 9 14 rfl), fun _ => by kernel_rfl, rlist32_c _ ma _ _ mb _ _ (hra.new_ (ab.transNew hn)) (hrb.new_ (ab.transNew hn))⟩) fun _ => rfl) <| .t (fun _ w hn k => ⟨_, v_pickT rfl (k.eq1 5 10 rfl) (k.eq1 10 15 rfl), rfl⟩) <| .a (fun k => k.eq1 11 16 rfl) .nil
 refine aftI ae al ab fun a4 a5 aS aB aC aT aD => ?_
 have aJ := aD.ge 12 4 rfl
 refine st_nil (aj _ _ ?_)
 refine wp_ret (ret_k aB (v := .bool (decide (ma = mb))) (res_t rfl aJ _) ?_)
 refine ⟨?_, aC⟩
 show Ending.returned (.bool (decide (ma = mb))) = Ending.returned (.bool (decide (a = b) && decide (ma = mb)))
 first | rfl | (simp only [aa, ag, bsm] <;> rfl) | (exfalso; omega)
theorem few_c (v : Vl) (Av : Option Addr) (cv : Nat) (Bv : Option Addr) (dv : Nat) (w : World) (hmv : SRow w .u32 Av v.mag cv) (hsv : SRow w .u16 Bv v.s dv) : Calls Tryd.prog 7 #[vv v Av cv Bv dv] w (IsRet (.bool (decide ((v.s.length : Int) ≤ 20000) && decide ((v.mag.length : Int) ≤ 40))) w) := by
 refine enter_abs Tryd.func7 rfl fun a0 ac aq hp => ?_
 have ac : a0.tmps.size = 14 := ac
 have ah : New w w := Upd.refl _ _
 have hp0 : a0.eval (.tmp 0) = vv v Av cv Bv dv := hp 0 _ rfl
 refine wp_seq_k fun K1 ar => ?_
 refine wp_g [true, true] [] [] 14
   [IsNew w 29 [iv v.k, iv v.nk, iv v.nn, .bool v.neg, sv Av v.mag cv, sv Bv v.s dv, iv v.ref], vF]
   [0] (newsCons (fun v w h => IsNew.old h) newsNil) ac (.nw (.eq (.nil))) ?_ (fun i h => by cases h) ?_
 exact .o2 (step_allocN (cs := [iv v.k, iv v.nk, iv v.nn, .bool v.neg, sv Av v.mag cv, sv Bv v.s dv, iv v.ref]) (t := 29) rfl (noG rfl) (fun _ w hn k => v_box rfl (k.fx 0 hp0) (fun w => rfl)) (fun q _ hq hb => ⟨q, rfl, hq, hb⟩)) <| .t (fun _ w hn k => ⟨_, v_assign rfl rfl, rfl⟩) .nil
 refine aftI ac aq ah fun a2 w3 ad ai ae aC au => ?_
 obtain ⟨q9, h8, aj, ab⟩ : IsNew _ _ _ _ _ := au.got 0 1 rfl (by kernel_rfl)
 have ax := Nat.le_trans ah.size aj
 refine st_nil (ar _ _ (wp_seq_k fun aD af => ?_))
 rcases bc (decide ((v.s.length : Int) ≤ 20000)) with aa | aa
 have ag := oT aa
 refine wp_g0 (.replicate 12 true) [] 14
   [ve (.pointer (some ⟨q9, 5, none⟩)), ve (sv Bv v.s dv), ve (iv (v.s.length : Int)), vT, vT, ve (.pointer (some ⟨q9, 3, none⟩)), ve (.pointer (some ⟨q9, 4, none⟩)), ve (sv Av v.mag cv), ve (iv (v.mag.length : Int)), ve (.bool (decide ((v.mag.length : Int) ≤ 40))), ve (.bool (decide ((v.mag.length : Int) ≤ 40))), ve (.bool (decide ((v.mag.length : Int) ≤ 40)))] ad (.eq (.eq (.eq (.eq (.eq (.eq (.eq (.eq (.eq (.eq (.eq (.eq (.nil))))))))))))) ?_ ?_
 exact .f (fun k => k.fx 1 h8) <| .t (fun _ w hn k => ⟨_, v_load rfl (k.eq1 0 3 rfl) (l_one Tryd.isAgg27 ((ab.new_ hn).cell 5)), rfl⟩) <| .t (fun _ w hn k => ⟨_, v_lenR rfl elU (k.eq1 1 4 rfl), rfl⟩) <| .t (fun _ w hn k => ⟨_, v_bin rfl (k.eq1 2 5 rfl) rfl (fun _ => rfl) (r_leqK aa), rfl⟩) <| .m (fun k => k.eq1 3 6 rfl) <| .gf (fun k => k.eq1 4 7 rfl) (fun k => k.fx 1 h8) <| .gf (fun k => k.eq1 4 7 rfl) (fun k => k.eq1 5 8 rfl) <| .g (fun k => k.eq1 4 7 rfl) (fun _ w hn k => ⟨_, v_load rfl (k.eq1 6 9 rfl) (l_one Tryd.isAgg24 ((ab.new_ hn).cell 4)), rfl⟩) <| .g (fun k => k.eq1 4 7 rfl) (fun _ w hn k => ⟨_, v_lenR rfl elW (k.eq1 7 10 rfl), rfl⟩) <| .g (fun k => k.eq1 4 7 rfl) (fun _ w hn k => ⟨_, v_bin rfl (k.eq1 8 11 rfl) rfl (fun _ => rfl) (r_leqK rfl), rfl⟩) <| .t (fun _ w hn k => ⟨_, v_pickT rfl (k.eq1 4 7 rfl) (k.eq1 9 12 rfl), rfl⟩) <| .a (fun k => k.eq1 10 13 rfl) .nil
 refine aftI ad ai ae fun aE aF ay ak al az am => ?_
 have av := am.ge 11 2 rfl
 refine st_nil (af _ _ ?_)
 refine wp_ret (ret_k ak (v := .bool (decide ((v.mag.length : Int) ≤ 40))) (res_t rfl av _) ?_)
 refine ⟨?_, al⟩
 show Ending.returned (.bool (decide ((v.mag.length : Int) ≤ 40))) = Ending.returned (.bool (decide ((v.s.length : Int) ≤ 20000) && decide ((v.mag.length : Int) ≤ 40)))
 first | rfl | (simp only [aa, bsm] <;> rfl) | (exfalso; omega)
 have ag := oF aa
 refine wp_g0 (.replicate 12 true) [] 14
   [ve (.pointer (some ⟨q9, 5, none⟩)), ve (sv Bv v.s dv), ve (iv (v.s.length : Int)), vF, vF, vU, vU, vU, vU, vU, vF, vF] ad (.eq (.eq (.eq (.eq (.eq (.eq (.eq (.eq (.eq (.eq (.eq (.eq (.nil))))))))))))) ?_ ?_
 exact .f (fun k => k.fx 1 h8) <| .t (fun _ w hn k => ⟨_, v_load rfl (k.eq1 0 3 rfl) (l_one Tryd.isAgg27 ((ab.new_ hn).cell 5)), rfl⟩) <| .t (fun _ w hn k => ⟨_, v_lenR rfl elU (k.eq1 1 4 rfl), rfl⟩) <| .t (fun _ w hn k => ⟨_, v_bin rfl (k.eq1 2 5 rfl) rfl (fun _ => rfl) (r_leqK aa), rfl⟩) <| .m (fun k => k.eq1 3 6 rfl) <| .s (fun k => k.eq1 4 7 rfl) <| .s (fun k => k.eq1 4 7 rfl) <| .s (fun k => k.eq1 4 7 rfl) <| .s (fun k => k.eq1 4 7 rfl) <| .s (fun k => k.eq1 4 7 rfl) <| .t (fun _ w hn k => ⟨_, v_pickF rfl (k.eq1 4 7 rfl) rfl, rfl⟩) <| .a (fun k => k.eq1 10 13 rfl) .nil
 refine aftI ad ai ae fun aG aH aA an ao aB ap => ?_
 have aw := ap.ge 11 2 rfl
 refine st_nil (af _ _ ?_)
 refine wp_ret (ret_k an (v := .bool false) (res_t rfl aw _) ?_)
 refine ⟨?_, ao⟩
 show Ending.returned (.bool false) = Ending.returned (.bool (decide ((v.s.length : Int) ≤ 20000) && decide ((v.mag.length : Int) ≤ 40)))
 first | rfl | (simp only [aa, bsm] <;> rfl) | (exfalso; omega)
def lstr_c_P (s : ByteArray) (w : World) (en : Ending) (w' : World) : Prop := ∃ (Ar0 : Option Addr) (cr0 : Nat), en = .returned (vv (Vl.mk 5 0 0 false [] (asc s) 0) none 0 Ar0 cr0) ∧ SRow w' .u16 Ar0 (asc s) cr0 ∧ New w w'
theorem lstr_c (s : ByteArray) (w : World) (hs : s.size ≤ 1000000) : Calls Tryd.prog 23 #[.string s] w (lstr_c_P s w) := by
 refine enter_abs Tryd.func23 rfl fun a0 ad aD hp => ?_
 have ad : a0.tmps.size = 6 := ad
 have al : New w w := Upd.refl _ _
 have hp0 : a0.eval (.tmp 0) = .string s := hp 0 _ rfl
 refine wp_seq_k fun K1 aE => ?_
 refine wp_g [true] [] [] 6
   [IsNew w 29 [iv 0, iv 0, iv 0, .bool false, sv none ([]) 0, sv none ([]) 0, iv 0]]
   [0] (newsCons (fun v w h => IsNew.old h) newsNil) ad (.nw (.nil)) ?_ (fun i h => by cases h) ?_
 exact .o2 (step_allocN (cs := [iv 0, iv 0, iv 0, .bool false, sv none ([]) 0, sv none ([]) 0, iv 0]) (t := 29) rfl (noG rfl) (fun _ w hn k => rfl) (fun q _ hq hb => ⟨q, rfl, hq, hb⟩)) .nil
 refine aftI ad aD al fun a2 w3 am aF ae aN an => ?_
 have h8 := an.fx 0 hp0
 obtain ⟨aG, h9, ap, aq⟩ : IsNew _ _ _ _ _ := an.got 0 2 rfl (by kernel_rfl)
 have aK := Nat.le_trans al.size ap
 refine st_nil (aE _ _ (wp_seq_k fun aO ar => ?_))
 refine wp_g0 [true, true, true, false] [(3, false)] 6
   [ve (.string s),
    (OP w3.heap.size 64 .u16 (asc s)), (fun (v_ : Value) (W : World) => ∃ (A9 : Option Addr) (aa : Nat), v_ = vv (Vl.mk 5 0 0 false [] (asc s) 0) none 0 A9 aa ∧ SOwn W w3.heap.size 64 .u16 A9 (asc s) aa), vt] am (.eq (.cons (fun _ _ _ n ⟨_, _, e, h⟩ => ⟨_, _, e, h.new_ n⟩) (.cons (fun v W W' hn ⟨A9, aa, he, h0⟩ => ⟨A9, aa, he, h0.new_ hn⟩) (.tt (.nil))))) ?_ ?_
 refine .m (fun k => k.fx 0 h8) ?_
 refine .o1 (tkC rfl (noG rfl) rfl fun _ w hn k => (by
       refine ⟨#[.string s], _, args1 (k.eq1 0 3 rfl), fun w => by kernel_rfl, rascii_c s _ (by first | omega | (show (_ : Nat) ≤ _; decide)), ?_⟩
       rintro e w' ⟨A1, c2, rfl, hmo0, hm⟩
       exact ⟨_, rfl, hm, ⟨A1, c2, rfl, (hmo0.more hn.size)⟩⟩)) ?_
 refine .o1 (tk rfl rfl fun _ w hn k => (by
       obtain ⟨A5, c6, e7, aH⟩ : (OP w3.heap.size 64 .u16 (asc s)) _ _ := k.dep 1 4 (by kernel_rfl) (by kernel_rfl)
       exact ⟨_, v_build (ps := [(0, iv 5), (3, sv A5 (asc s) c6)]) rfl (parts2 rfl e7) (by kernel_rfl), ⟨A5, c6, rfl, aH⟩⟩)) ?_
 exact .off .nil
 refine aftI am aF ae fun aI aP aL au av aw af => ?_
 have ao := af.fx 2 h9
 obtain ⟨ac, ab, ag, ax⟩ : (fun (v_ : Value) (W : World) => ∃ (A9 : Option Addr) (aa : Nat), v_ = vv (Vl.mk 5 0 0 false [] (asc s) 0) none 0 A9 aa ∧ SOwn W w3.heap.size 64 .u16 A9 (asc s) aa) _ _ := af.got 2 5 rfl (by kernel_rfl)
 have ag : aI.eval (.tmp 5) = vv (Vl.mk 5 0 0 false [] (asc s) 0) none 0 ac ab := ag
 have ah := aq.new_ aw
 have ay := ax.more ae.size
 obtain ⟨aJ, aj, ak, ai, aM⟩ := s_many (P := Tryd.prog) (t := 29) (i := 0) [iv 5, iv 0, iv 0, .bool false, sv none ([]) 0, sv ac (asc s) ab, iv 0] Tryd.sizeOf29 rfl rfl rfl ah lb
 have az : Blk aJ aG 29 [iv 5, iv 0, iv 0, .bool false, sv none ([]) 0, sv ac (asc s) ab, iv 0] := ak
 refine st_act rfl rfl fun aQ aA => a_store' rfl ao ag aj (aA _ _ trivial ?_)
 have aB := ay.far ah ai (by decide)
 have aC := av.trans ai (fun _ h b => by subst b; omega)
 refine st_nil (ar _ _ ?_)
 refine wp_ret (ret_k au (v := vv (Vl.mk 5 0 0 false [] (asc s) 0) none 0 ac ab) (res_c rfl ao (l_agg Tryd.isAgg29 Tryd.sizeOf29 az rfl)) ?_)
 exact ⟨ac, ab, rfl, aB.row, aC⟩
theorem lwhole_c (n : Int) (w : World) : Calls Tryd.prog 26 #[iv n] w (IsRet (vv (Vl.mk 3 0 n false [] [] 0) none 0 none 0) w) := by
 refine enter_abs Tryd.func26 rfl fun a0 aa aw hp => ?_
 have aa : a0.tmps.size = 6 := aa
 have ae : New w w := Upd.refl _ _
 have hp0 : a0.eval (.tmp 0) = iv n := hp 0 _ rfl
 refine wp_seq_k fun K1 ax => ?_
 refine wp_g [true] [] [] 6
   [IsNew w 29 [iv 0, iv 0, iv 0, .bool false, sv none ([]) 0, sv none ([]) 0, iv 0]]
   [0] (newsCons (fun v w h => IsNew.old h) newsNil) aa (.nw (.nil)) ?_ (fun i h => by cases h) ?_
 exact .o2 (step_allocN (cs := [iv 0, iv 0, iv 0, .bool false, sv none ([]) 0, sv none ([]) 0, iv 0]) (t := 29) rfl (noG rfl) (fun _ w hn k => rfl) (fun q _ hq hb => ⟨q, rfl, hq, hb⟩)) .nil
 refine aftI aa aw ae fun a2 w3 af ay ai aF ag => ?_
 have h8 := ag.fx 0 hp0
 obtain ⟨az, h9, aj, ak⟩ : IsNew _ _ _ _ _ := ag.got 0 2 rfl (by kernel_rfl)
 have aC := Nat.le_trans ae.size aj
 refine st_nil (ax _ _ (wp_seq_k fun aG al => ?_))
 refine wp_g0 [true, true, true, false] [(3, false)] 6
   [ve (iv n), ve (nv (Nm.mk 0 n)), ve (vv (Vl.mk 3 0 n false [] [] 0) none 0 none 0), vt] af (.eq (.eq (.eq (.tt (.nil))))) ?_ ?_
 exact .m (fun k => k.fx 0 h8) <| .t (fun _ w hn k => ⟨_, v_build (ps := [(1, iv n)]) rfl (parts1 (k.eq1 0 3 rfl)) (by kernel_rfl), rfl⟩) <| .t (fun _ w hn k => ⟨_, v_build (ps := [(0, iv 3), (1, nv (Nm.mk 0 n))]) rfl (parts2 rfl (k.eq1 1 4 rfl)) (by kernel_rfl), rfl⟩) <| .off .nil
 refine aftI af ay ai fun aH aI aD am an ao ab => ?_
 have ah := ab.fx 2 h9
 have aA := ab.ge 2 5 rfl
 have ap := ak.new_ ao
 obtain ⟨aB, ac, ad, aq, aE⟩ := s_many (P := Tryd.prog) (t := 29) (i := 0) [iv 3, iv 0, iv n, .bool false, sv none ([]) 0, sv none ([]) 0, iv 0] Tryd.sizeOf29 rfl rfl rfl ap lb
 have ar : Blk aB az 29 [iv 3, iv 0, iv n, .bool false, sv none ([]) 0, sv none ([]) 0, iv 0] := ad
 refine st_act rfl rfl fun aJ au => a_store' rfl ah aA ac (au _ _ trivial ?_)
 have av := an.trans aq (fun _ h b => by subst b; omega)
 refine st_nil (al _ _ ?_)
 refine wp_ret (ret_k am (v := vv (Vl.mk 3 0 n false [] [] 0) none 0 none 0) (res_c rfl ah (l_agg Tryd.isAgg29 Tryd.sizeOf29 ar rfl)) ?_)
 exact ⟨rfl, av⟩
def lbig_c_P (x : Nat) (w : World) (en : Ending) (w' : World) : Prop := ∃ (Ar0 : Option Addr) (cr0 : Nat), en = .returned (vv (Vl.mk 4 0 0 false [x] [] 0) Ar0 cr0 none 0) ∧ SRow w' .u32 Ar0 ([x]) cr0 ∧ New w w'
theorem lbig_c (x : Nat) (w : World) (hx : x < 4294967296) : Calls Tryd.prog 24 #[.int .u32 (x : Int)] w (lbig_c_P x w) := by
 refine enter_abs Tryd.func24 rfl fun a0 af aI hp => ?_
 have af : a0.tmps.size = 7 := af
 have an : New w w := Upd.refl _ _
 have hp0 : a0.eval (.tmp 0) = .int .u32 (x : Int) := hp 0 _ rfl
 refine wp_seq_k fun K1 aJ => ?_
 refine wp_g [true] [] [] 7
   [IsNew w 29 [iv 0, iv 0, iv 0, .bool false, sv none ([]) 0, sv none ([]) 0, iv 0]]
   [0] (newsCons (fun v w h => IsNew.old h) newsNil) af (.nw (.nil)) ?_ (fun i h => by cases h) ?_
 exact .o2 (step_allocN (cs := [iv 0, iv 0, iv 0, .bool false, sv none ([]) 0, sv none ([]) 0, iv 0]) (t := 29) rfl (noG rfl) (fun _ w hn k => rfl) (fun q _ hq hb => ⟨q, rfl, hq, hb⟩)) .nil
 refine aftI af aI an fun a2 w3 ao aK ag aT ap => ?_
 have h8 := ap.fx 0 hp0
 obtain ⟨aL, h9, av, aw⟩ : IsNew _ _ _ _ _ := ap.got 0 2 rfl (by kernel_rfl)
 have aQ := Nat.le_trans an.size av
 refine st_nil (aJ _ _ (wp_seq_k fun aU ax => ?_))
 refine wp_g0 [true, true, true, true, false] [(4, false)] 7
   [ve (.int .u32 (x : Int)),
    (OP w3.heap.size 53 .u32 ([x])), (fun (v_ : Value) (W : World) => ∃ (A9 : Option Addr) (aa : Nat), v_ = .agg #[.bool false, sv A9 ([x]) aa] ∧ SOwn W w3.heap.size 53 .u32 A9 ([x]) aa), (fun (v_ : Value) (W : World) => ∃ (ab : Option Addr) (ac : Nat), v_ = vv (Vl.mk 4 0 0 false [x] [] 0) ab ac none 0 ∧ SOwn W w3.heap.size 53 .u32 ab ([x]) ac), vt] ao (.eq (.cons (fun _ _ _ n ⟨_, _, e, h⟩ => ⟨_, _, e, h.new_ n⟩) (.cons (fun v W W' hn ⟨A9, aa, he, h0⟩ => ⟨A9, aa, he, h0.new_ hn⟩) (.cons (fun _ _ _ n ⟨_, _, e, h⟩ => ⟨_, _, e, h.new_ n⟩) (.tt (.nil)))))) ?_ ?_
 refine .m (fun k => k.fx 0 h8) ?_
 refine .o1 (tkA rfl (noG rfl) fun _ w hn k => (by
       exact x_bslice (k := .u32) (ps := [(0, .int .u32 (x : Int))]) [x] rfl (parts1 (k.eq1 0 3 rfl)) elW rfl (by omega) (by omega) (by first | kernel_rfl | (simp only [enc, List.map_cons, List.map_nil, Int.toNat_natCast, Int.toNat_of_nonneg (by omega : (0 : Int) ≤ _)]; kernel_rfl)) fun A1 c2 W' hmo => ⟨A1, c2, rfl, (hmo.more hn.size)⟩)) ?_
 refine .o1 (tk rfl rfl fun _ w hn k => (by
       obtain ⟨A5, c6, e7, aM⟩ : (OP w3.heap.size 53 .u32 ([x])) _ _ := k.dep 1 4 (by kernel_rfl) (by kernel_rfl)
       exact ⟨_, v_build (ps := [(1, sv A5 ([x]) c6)]) rfl (parts1 e7) (by kernel_rfl), ⟨A5, c6, rfl, aM⟩⟩)) ?_
 refine .o1 (tk rfl rfl fun _ w hn k => (by
       obtain ⟨aq, ar, aN, ay⟩ : (fun (v_ : Value) (W : World) => ∃ (A9 : Option Addr) (aa : Nat), v_ = .agg #[.bool false, sv A9 ([x]) aa] ∧ SOwn W w3.heap.size 53 .u32 A9 ([x]) aa) _ _ := k.dep 2 5 (by kernel_rfl) (by kernel_rfl)
       exact ⟨_, v_build (ps := [(0, iv 4), (2, .agg #[.bool false, sv aq ([x]) ar])]) rfl (parts2 rfl aN) (by kernel_rfl), ⟨aq, ar, rfl, ay⟩⟩)) ?_
 exact .off .nil
 refine aftI ao aK ag fun aO aV aR az aA aB ah => ?_
 have au := ah.fx 2 h9
 obtain ⟨ae, ad, ai, aC⟩ : (fun (v_ : Value) (W : World) => ∃ (ab : Option Addr) (ac : Nat), v_ = vv (Vl.mk 4 0 0 false [x] [] 0) ab ac none 0 ∧ SOwn W w3.heap.size 53 .u32 ab ([x]) ac) _ _ := ah.got 3 6 rfl (by kernel_rfl)
 have ai : aO.eval (.tmp 6) = vv (Vl.mk 4 0 0 false [x] [] 0) ae ad none 0 := ai
 have aj := aw.new_ aB
 have aD := aC.more ag.size
 obtain ⟨aP, al, am, ak, aS⟩ := s_many (P := Tryd.prog) (t := 29) (i := 0) [iv 4, iv 0, iv 0, .bool false, sv ae ([x]) ad, sv none ([]) 0, iv 0] Tryd.sizeOf29 rfl rfl rfl aj lb
 have aE : Blk aP aL 29 [iv 4, iv 0, iv 0, .bool false, sv ae ([x]) ad, sv none ([]) 0, iv 0] := am
 refine st_act rfl rfl fun aW aF => a_store' rfl au ai al (aF _ _ trivial ?_)
 have aG := aD.far aj ak (by decide)
 have aH := aA.trans ak (fun _ h b => by subst b; omega)
 refine st_nil (ax _ _ ?_)
 refine wp_ret (ret_k az (v := vv (Vl.mk 4 0 0 false [x] [] 0) ae ad none 0) (res_c rfl au (l_agg Tryd.isAgg29 Tryd.sizeOf29 aE rfl)) ?_)
 exact ⟨ae, ad, rfl, aG.row, aH⟩
theorem VOk.str (s : ByteArray) (h : s.size ≤ 20000) : VOk ⟨5, 0, 0, false, [], asc s, 0⟩ := ⟨Limbs.nil, U16s.asc s, Nat.zero_le _, by rw [asc_len]; exact h, (show (-9223372036854775808 : Int) ≤ 0 by decide), (show (0 : Int) ≤ 9223372036854775807 by decide), (show (-9223372036854775808 : Int) ≤ 0 by decide), (show (0 : Int) ≤ 9223372036854775807 by decide)⟩
theorem VOk.whole {n : Int} (h1 : -9223372036854775808 ≤ n) (h2 : n ≤ 9223372036854775807) : VOk ⟨3, 0, n, false, [], [], 0⟩ := ⟨Limbs.nil, U16s.nil, Nat.zero_le _, Nat.zero_le _, h1, h2, (show (-9223372036854775808 : Int) ≤ 0 by decide), (show (0 : Int) ≤ 9223372036854775807 by decide)⟩
theorem VOk.big {x : Nat} (h : x < 4294967296) : VOk ⟨4, 0, 0, false, [x], [], 0⟩ := ⟨Limbs.cons h Limbs.nil, U16s.nil, (show (1 : Nat) ≤ 40 by decide), Nat.zero_le _, (show (-9223372036854775808 : Int) ≤ 0 by decide), (show (0 : Int) ≤ 9223372036854775807 by decide), (show (-9223372036854775808 : Int) ≤ 0 by decide), (show (0 : Int) ≤ 9223372036854775807 by decide)⟩
theorem VOk.null : VOk ⟨1, 0, 0, false, [], [], 0⟩ := ⟨Limbs.nil, U16s.nil, by decide, by decide, by decide, by decide, by decide, by decide⟩
theorem VOk.truth (t : Bool) : VOk (truthV t) := by cases t <;> exact ⟨Limbs.nil, U16s.nil, by decide, by decide, by decide, by decide, by decide, by decide⟩
theorem few_ok {v : Vl} (h : (decide ((v.s.length : Int) ≤ 20000) && decide ((v.mag.length : Int) ≤ 40)) = true) (hl : Limbs v.mag) (hu : U16s v.s) (h1 : -9223372036854775808 ≤ v.nn) (h2 : v.nn ≤ 9223372036854775807) (h3 : -9223372036854775808 ≤ v.ref) (h4 : v.ref ≤ 9223372036854775807) : VOk v := by
  simp only [Bool.and_eq_true, decide_eq_true_eq] at h
  exact ⟨hl, hu, by omega, by omega, h1, h2, h3, h4⟩
set_option maxRecDepth 100000 in
theorem first_n1 (A0 : Option Addr) (c0 : Nat) (B0 : Option Addr) (d0 : Nat) (w : World) (hm0 : SRow w .u32 A0 [] c0) (hs0 : SRow w .u16 B0 (asc ⟨#[49, 50]⟩) d0) : Calls Tryd.prog 12 #[vv (Vl.mk 5 0 0 false [] (asc ⟨#[49, 50]⟩) 0) A0 c0 B0 d0] w (IsRet (.tuple #[nv (Nm.mk 0 12), iv 0]) w) := by
  have h := cnumber_c (Vl.mk 5 0 0 false [] (asc ⟨#[49, 50]⟩) 0) A0 c0 B0 d0 w hm0 hs0 (VOk.str ⟨#[49, 50]⟩ (by first | omega | decide))
  rw [show numberV (Vl.mk 5 0 0 false [] (asc ⟨#[49, 50]⟩) 0) = (⟨0, 12⟩, 0) from by decide +kernel] at h
  exact h
set_option maxRecDepth 100000 in
theorem first_n2 (A0 : Option Addr) (c0 : Nat) (B0 : Option Addr) (d0 : Nat) (w : World) (hm0 : SRow w .u32 A0 [] c0) (hs0 : SRow w .u16 B0 (asc ⟨#[49, 46, 53]⟩) d0) : Calls Tryd.prog 12 #[vv (Vl.mk 5 0 0 false [] (asc ⟨#[49, 46, 53]⟩) 0) A0 c0 B0 d0] w (IsRet (.tuple #[nv (Nm.mk 0 0), iv 3]) w) := by
  have h := cnumber_c (Vl.mk 5 0 0 false [] (asc ⟨#[49, 46, 53]⟩) 0) A0 c0 B0 d0 w hm0 hs0 (VOk.str ⟨#[49, 46, 53]⟩ (by first | omega | decide))
  rw [show numberV (Vl.mk 5 0 0 false [] (asc ⟨#[49, 46, 53]⟩) 0) = (⟨0, 0⟩, 3) from by decide +kernel] at h
  exact h
set_option maxRecDepth 100000 in
theorem first_n3 (A0 : Option Addr) (c0 : Nat) (B0 : Option Addr) (d0 : Nat) (w : World) (hm0 : SRow w .u32 A0 [5] c0) (hs0 : SRow w .u16 B0 [] d0) : Calls Tryd.prog 12 #[vv (Vl.mk 4 0 0 false [5] [] 0) A0 c0 B0 d0] w (IsRet (.tuple #[nv (Nm.mk 0 0), iv 1]) w) := by
  have h := cnumber_c (Vl.mk 4 0 0 false [5] [] 0) A0 c0 B0 d0 w hm0 hs0 (VOk.big (by omega))
  rw [show numberV (Vl.mk 4 0 0 false [5] [] 0) = (⟨0, 0⟩, 1) from by decide +kernel] at h
  exact h
set_option maxRecDepth 100000 in
theorem first_l2 (A0 : Option Addr) (c0 : Nat) (B0 : Option Addr) (d0 : Nat) (A1 : Option Addr) (c1 : Nat) (B1 : Option Addr) (d1 : Nat) (w : World) (hm0 : SRow w .u32 A0 [2] c0) (hs0 : SRow w .u16 B0 [] d0) (hm1 : SRow w .u32 A1 [] c1) (hs1 : SRow w .u16 B1 [] d1) : Calls Tryd.prog 8 #[vv (Vl.mk 4 0 0 false [2] [] 0) A0 c0 B0 d0, vv (Vl.mk 3 0 2 false [] [] 0) A1 c1 B1 d1] w (IsRet (.tuple #[.bool true, iv 0]) w) := by
  have h := cloose_c (Vl.mk 4 0 0 false [2] [] 0) A0 c0 B0 d0 (Vl.mk 3 0 2 false [] [] 0) A1 c1 B1 d1 w hm0 hs0 hm1 hs1 (VOk.big (by omega)) (VOk.whole (by omega) (by omega))
  rw [show looseV (Vl.mk 4 0 0 false [2] [] 0) (Vl.mk 3 0 2 false [] [] 0) = (true, 0) from by decide +kernel] at h
  exact h
set_option maxRecDepth 100000 in
theorem first_l3 (A0 : Option Addr) (c0 : Nat) (B0 : Option Addr) (d0 : Nat) (A1 : Option Addr) (c1 : Nat) (B1 : Option Addr) (d1 : Nat) (w : World) (hm0 : SRow w .u32 A0 [] c0) (hs0 : SRow w .u16 B0 [] d0) (hm1 : SRow w .u32 A1 [] c1) (hs1 : SRow w .u16 B1 [] d1) : Calls Tryd.prog 8 #[vv (Vl.mk 1 0 0 false [] [] 0) A0 c0 B0 d0, vv (Vl.mk 3 0 0 false [] [] 0) A1 c1 B1 d1] w (IsRet (.tuple #[.bool false, iv 0]) w) := by
  have h := cloose_c (Vl.mk 1 0 0 false [] [] 0) A0 c0 B0 d0 (Vl.mk 3 0 0 false [] [] 0) A1 c1 B1 d1 w hm0 hs0 hm1 hs1 VOk.null (VOk.whole (by omega) (by omega))
  rw [show looseV (Vl.mk 1 0 0 false [] [] 0) (Vl.mk 3 0 0 false [] [] 0) = (false, 0) from by decide +kernel] at h
  exact h
set_option maxRecDepth 100000 in
theorem first_l1 (A0 : Option Addr) (c0 : Nat) (B0 : Option Addr) (d0 : Nat) (A1 : Option Addr) (c1 : Nat) (B1 : Option Addr) (d1 : Nat) (w : World) (hm0 : SRow w .u32 A0 [] c0) (hs0 : SRow w .u16 B0 (asc ⟨#[49]⟩) d0) (hm1 : SRow w .u32 A1 (truthV true).mag c1) (hs1 : SRow w .u16 B1 (truthV true).s d1) : Calls Tryd.prog 8 #[vv (Vl.mk 5 0 0 false [] (asc ⟨#[49]⟩) 0) A0 c0 B0 d0, vv (truthV true) A1 c1 B1 d1] w (IsRet (.tuple #[.bool true, iv 0]) w) := by
  have h := cloose_c (Vl.mk 5 0 0 false [] (asc ⟨#[49]⟩) 0) A0 c0 B0 d0 (truthV true) A1 c1 B1 d1 w hm0 hs0 hm1 hs1 (VOk.str ⟨#[49]⟩ (by first | omega | decide)) (VOk.truth _)
  rw [show looseV (Vl.mk 5 0 0 false [] (asc ⟨#[49]⟩) 0) (truthV true) = (true, 0) from by decide +kernel] at h
  exact h
set_option maxRecDepth 100000 in
theorem first_i1 (A0 : Option Addr) (c0 : Nat) (B0 : Option Addr) (d0 : Nat) (w : World) (hm0 : SRow w .u32 A0 [] c0) (hs0 : SRow w .u16 B0 [] d0) : Calls Tryd.prog 16 #[vv (Vl.mk 3 0 (-1) false [] [] 0) A0 c0 B0 d0] w (IsRet (.tuple #[iv 0, iv 2]) w) := by
  have h := cindex_c (Vl.mk 3 0 (-1) false [] [] 0) A0 c0 B0 d0 w hm0 hs0 (VOk.whole (by omega) (by omega))
  rw [show indexV (Vl.mk 3 0 (-1) false [] [] 0) = (0, 2) from by decide +kernel] at h
  exact h
theorem first_c  (w : World) : Calls Tryd.prog 6 #[] w (IsRet (.bool true) w) := by
 refine enter_abs Tryd.func6 rfl fun a0 au cM hp => ?_
 have au : a0.tmps.size = 94 := au
 have cN : New w w := Upd.refl _ _
 refine wp_seq_k fun K1 cO => ?_
 refine wp_g0 [true] [] 94
   [vF] au (.eq (.nil)) ?_ ?_
 exact .t (fun _ w hn k => ⟨_, v_assign rfl rfl, rfl⟩) .nil
 refine aftI au cM cN fun a2 w3 bm cP bn ea eb => ?_
 refine st_nil (cO _ _ (wp_seq_k fun K9 cQ => ?_))
 refine wp_g [true, true, true, true, true, true, false, false] [4] [(6, false), (7, true)] 94
   [(fun (v_ : Value) (W : World) => ∃ (A3 : Option Addr) (c4 : Nat), v_ = vv (Vl.mk 5 0 0 false [] (asc ⟨#[49, 50]⟩) 0) none 0 A3 c4 ∧ SRow W .u16 A3 (asc ⟨#[49, 50]⟩) c4), ve (.tuple #[nv (Nm.mk 0 12), iv 0]), ve (.tuple #[nv (Nm.mk 0 12), iv 0]), ve (nv (Nm.mk 0 12)), ve (iv 0), IsNew w3 23 [iv 0, iv 0], vt, vt]
   [5] (newsCons (fun v w h => IsNew.old h) newsNil) bm (.cons (fun _ _ _ n ⟨_, _, e, h⟩ => ⟨_, _, e, h.new_ n⟩) (.eq (.eq (.eq (.eq (.nw (.tt (.tt (.nil))))))))) ?_ ?_ ?_
 refine .o1 (tkC rfl (noG rfl) rfl fun _ w hn k => (by
       refine ⟨#[.string ⟨#[49, 50]⟩], _, args1 rfl, fun w => by kernel_rfl, lstr_c ⟨#[49, 50]⟩ _ (by first | omega | (show (_ : Nat) ≤ _; decide)), ?_⟩
       rintro e w' ⟨A1, c2, rfl, hmo0, hm⟩
       exact ⟨_, rfl, hm, ⟨A1, c2, rfl, hmo0⟩⟩)) ?_
 refine .o1 (tkC rfl (noG rfl) rfl fun _ w hn k => (by
       obtain ⟨A5, c6, e7, cR⟩ : (fun (v_ : Value) (W : World) => ∃ (A3 : Option Addr) (c4 : Nat), v_ = vv (Vl.mk 5 0 0 false [] (asc ⟨#[49, 50]⟩) 0) none 0 A3 c4 ∧ SRow W .u16 A3 (asc ⟨#[49, 50]⟩) c4) _ _ := k.dep 0 16 (by kernel_rfl) (by kernel_rfl)
       refine ⟨#[vv (Vl.mk 5 0 0 false [] (asc ⟨#[49, 50]⟩) 0) none 0 A5 c6], _, args1 e7, fun w => by kernel_rfl, first_n1 _ _ _ _ _ (SRow.nil _ _) cR, ?_⟩
       rintro e w' ⟨rfl, hm⟩
       exact ⟨_, rfl, hm, rfl⟩)) ?_
 refine .m (fun k => k.eq1 1 17 rfl) <| .t (fun _ w hn k => ⟨_, v_extract rfl (k.eq1 2 15 rfl) rfl, rfl⟩) ?_
 refine .o3 ?_
 exact .o2 (step_allocN (cs := [iv 0, iv 0]) (t := 23) rfl (noG rfl) (fun _ w hn k => rfl) (fun q _ hq hb => ⟨q, rfl, hq, hb⟩)) <| .off <| .off .nil
 intro i h
 simp only [List.contains_eq_mem, List.mem_cons, List.not_mem_nil, or_false, decide_eq_true_eq] at h
 subst h
 exact eager_take rfl rfl fun _ w hn k => ⟨iv 0, fun w => v_extract rfl (k.eq1 2 15 rfl) rfl, rfl⟩
 refine aftI bm cP bn fun bo ec aA bB bC dL ar => ?_
 have bp := ar.ge 3 18 rfl
 have bq := ar.ge 4 19 rfl
 obtain ⟨aB, br, bD, bE⟩ : IsNew _ _ _ _ _ := ar.got 5 1 rfl (by kernel_rfl)
 have dM := Nat.le_trans bn.size bD
 obtain ⟨cS, -, aM, aC, bF, dN⟩ := s_two (v0 := iv 0) (v1 := iv 12) Tryd.sizeOf23 rfl rfl rfl bE
 refine st_act rfl rfl fun ed bG => a_store' rfl br bp aM (bG _ _ trivial ?_)
 have aD := bC.trans bF (fun _ h b => by subst b; omega)
 refine st_take rfl rfl (y_assign (v := iv 0) rfl bq) rfl ?_
 obtain ⟨cT, ag⟩ : ∃ a', a' = bo.put (some 2) (iv 0) := ⟨_, rfl⟩
 have aE := pz ag aA
 have bH := pd ag bB
 have ee := pn ag bp (by decide)
 have ef := pn ag bq (by decide)
 have cU := pn ag br (by decide)
 have cV : cT.eval (.tmp 2) = iv 0 := by rw [ag]; exact put_same _ _ _ (by rw [aA]; decide)
 show stepsTo _ _ _ _ _ (bo.put (some 2) (iv 0)) _
 rw [← ag]
 refine st_nil (cQ _ _ (wp_seq_k fun eg bI => ?_))
 refine wp_g [true, true, true, true, true, true, false, false] [4] [(6, false), (7, true)] 94
   [(fun (v_ : Value) (W : World) => ∃ (ai : Option Addr) (aj : Nat), v_ = vv (Vl.mk 5 0 0 false [] (asc ⟨#[49, 46, 53]⟩) 0) none 0 ai aj ∧ SRow W .u16 ai (asc ⟨#[49, 46, 53]⟩) aj), ve (.tuple #[nv (Nm.mk 0 0), iv 3]), ve (.tuple #[nv (Nm.mk 0 0), iv 3]), ve (nv (Nm.mk 0 0)), ve (iv 3), IsNew cS 23 [iv 0, iv 0], vt, vt]
   [5] (newsCons (fun v w h => IsNew.old h) newsNil) aE (.cons (fun _ _ _ n ⟨_, _, e, h⟩ => ⟨_, _, e, h.new_ n⟩) (.eq (.eq (.eq (.eq (.nw (.tt (.tt (.nil))))))))) ?_ ?_ ?_
 refine .o1 (tkC rfl (noG rfl) rfl fun _ w hn k => (by
       refine ⟨#[.string ⟨#[49, 46, 53]⟩], _, args1 rfl, fun w => by kernel_rfl, lstr_c ⟨#[49, 46, 53]⟩ _ (by first | omega | (show (_ : Nat) ≤ _; decide)), ?_⟩
       rintro e w' ⟨A9, cW, rfl, hmo0, hm⟩
       exact ⟨_, rfl, hm, ⟨A9, cW, rfl, hmo0⟩⟩)) ?_
 refine .o1 (tkC rfl (noG rfl) rfl fun _ w hn k => (by
       obtain ⟨cX, cY, cZ, bJ⟩ : (fun (v_ : Value) (W : World) => ∃ (ai : Option Addr) (aj : Nat), v_ = vv (Vl.mk 5 0 0 false [] (asc ⟨#[49, 46, 53]⟩) 0) none 0 ai aj ∧ SRow W .u16 ai (asc ⟨#[49, 46, 53]⟩) aj) _ _ := k.dep 0 21 (by kernel_rfl) (by kernel_rfl)
       refine ⟨#[vv (Vl.mk 5 0 0 false [] (asc ⟨#[49, 46, 53]⟩) 0) none 0 cX cY], _, args1 cZ, fun w => by kernel_rfl, first_n2 _ _ _ _ _ (SRow.nil _ _) bJ, ?_⟩
       rintro e w' ⟨rfl, hm⟩
       exact ⟨_, rfl, hm, rfl⟩)) ?_
 refine .m (fun k => k.eq1 1 22 rfl) <| .t (fun _ w hn k => ⟨_, v_extract rfl (k.eq1 2 20 rfl) rfl, rfl⟩) ?_
 refine .o3 ?_
 exact .o2 (step_allocN (cs := [iv 0, iv 0]) (t := 23) rfl (noG rfl) (fun _ w hn k => rfl) (fun q _ hq hb => ⟨q, rfl, hq, hb⟩)) <| .off <| .off .nil
 intro i h
 simp only [List.contains_eq_mem, List.mem_cons, List.not_mem_nil, or_false, decide_eq_true_eq] at h
 subst h
 exact eager_take rfl rfl fun _ w hn k => ⟨iv 3, fun w => v_extract rfl (k.eq1 2 20 rfl) rfl, rfl⟩
 refine aftI aE bH aD fun bs eh aF bK bL bM ak => ?_
 have c0 := ak.fx 1 cU
 have c1 := ak.fx 2 cV
 have bt := ak.ge 3 23 rfl
 have bu := ak.ge 4 24 rfl
 obtain ⟨c3, bv, aG, bN⟩ : IsNew _ _ _ _ _ := ak.got 5 3 rfl (by kernel_rfl)
 have bO := aC.new_ bM
 have hne56 : aB ≠ c3 := by have h1 := aC.lt; have h2 := aG; omega
 have dO := Nat.le_trans aD.size aG
 obtain ⟨c5, -, aN, dP, bP, bQ⟩ := s_two (v0 := iv 0) (v1 := iv 0) Tryd.sizeOf23 rfl rfl rfl bN
 refine st_act rfl rfl fun ei bR => a_store' rfl bv bt aN (bR _ _ trivial ?_)
 have aH := bQ _ _ _ (hne56) bO
 have aI := bL.trans bP (fun _ h b => by subst b; omega)
 refine st_take rfl rfl (y_assign (v := iv 3) rfl bu) rfl ?_
 obtain ⟨c7, ae⟩ : ∃ a', a' = bs.put (some 4) (iv 3) := ⟨_, rfl⟩
 have aJ := pz ae aF
 have bS := pd ae bK
 have c8 := pn ae c0 (by decide)
 have c9 := pn ae c1 (by decide)
 have ej := pn ae bt (by decide)
 have ek := pn ae bu (by decide)
 have el := pn ae bv (by decide)
 have da : c7.eval (.tmp 4) = iv 3 := by rw [ae]; exact put_same _ _ _ (by rw [aF]; decide)
 show stepsTo _ _ _ _ _ (bs.put (some 4) (iv 3)) _
 rw [← ae]
 refine st_nil (bI _ _ (wp_seq_k fun em bT => ?_))
 refine wp_g [true, true, true, true, true, true, false, false] [4] [(6, false), (7, true)] 94
   [(fun (v_ : Value) (W : World) => ∃ (al : Option Addr) (am : Nat), v_ = vv (Vl.mk 4 0 0 false [5] [] 0) al am none 0 ∧ SRow W .u32 al ([5]) am), ve (.tuple #[nv (Nm.mk 0 0), iv 1]), ve (.tuple #[nv (Nm.mk 0 0), iv 1]), ve (nv (Nm.mk 0 0)), ve (iv 1), IsNew c5 23 [iv 0, iv 0], vt, vt]
   [5] (newsCons (fun v w h => IsNew.old h) newsNil) aJ (.cons (fun _ _ _ n ⟨_, _, e, h⟩ => ⟨_, _, e, h.new_ n⟩) (.eq (.eq (.eq (.eq (.nw (.tt (.tt (.nil))))))))) ?_ ?_ ?_
 refine .o1 (tkC rfl (noG rfl) rfl fun _ w hn k => (by
       refine ⟨#[.int .u32 5], _, args1 rfl, fun w => by kernel_rfl, lbig_c 5 _ (by omega), ?_⟩
       rintro e w' ⟨db, dc, rfl, hmo0, hm⟩
       exact ⟨_, rfl, hm, ⟨db, dc, rfl, hmo0⟩⟩)) ?_
 refine .o1 (tkC rfl (noG rfl) rfl fun _ w hn k => (by
       obtain ⟨dd, de, df, bU⟩ : (fun (v_ : Value) (W : World) => ∃ (al : Option Addr) (am : Nat), v_ = vv (Vl.mk 4 0 0 false [5] [] 0) al am none 0 ∧ SRow W .u32 al ([5]) am) _ _ := k.dep 0 26 (by kernel_rfl) (by kernel_rfl)
       refine ⟨#[vv (Vl.mk 4 0 0 false [5] [] 0) dd de none 0], _, args1 df, fun w => by kernel_rfl, first_n3 _ _ _ _ _ bU (SRow.nil _ _), ?_⟩
       rintro e w' ⟨rfl, hm⟩
       exact ⟨_, rfl, hm, rfl⟩)) ?_
 refine .m (fun k => k.eq1 1 27 rfl) <| .t (fun _ w hn k => ⟨_, v_extract rfl (k.eq1 2 25 rfl) rfl, rfl⟩) ?_
 refine .o3 ?_
 exact .o2 (step_allocN (cs := [iv 0, iv 0]) (t := 23) rfl (noG rfl) (fun _ w hn k => rfl) (fun q _ hq hb => ⟨q, rfl, hq, hb⟩)) <| .off <| .off .nil
 intro i h
 simp only [List.contains_eq_mem, List.mem_cons, List.not_mem_nil, or_false, decide_eq_true_eq] at h
 subst h
 exact eager_take rfl rfl fun _ w hn k => ⟨iv 1, fun w => v_extract rfl (k.eq1 2 25 rfl) rfl, rfl⟩
 refine aftI aJ bS aI fun bw en aK bV bW bX ah => ?_
 have dg := ah.fx 1 c8
 have dh := ah.fx 2 c9
 have di := ah.fx 4 da
 have bx := ah.ge 3 28 rfl
 have bz := ah.ge 4 29 rfl
 obtain ⟨dj, bA, aL, bY⟩ : IsNew _ _ _ _ _ := ah.got 5 5 rfl (by kernel_rfl)
 have bZ := aH.new_ bX
 have hne95 : aB ≠ dj := by have h1 := aH.lt; have h2 := aL; omega
 have dQ := Nat.le_trans aI.size aL
 obtain ⟨eo, -, aO, dI, aP, aQ⟩ := s_two (v0 := iv 0) (v1 := iv 0) Tryd.sizeOf23 rfl rfl rfl bY
 refine st_act rfl rfl fun dR aR => a_store' rfl bA bx aO (aR _ _ trivial ?_)
 have aS := aQ _ _ _ (hne95) bZ
 have aT := bW.trans aP (fun _ h b => by subst b; omega)
 refine st_take rfl rfl (y_assign (v := iv 1) rfl bz) rfl ?_
 obtain ⟨b0, ab⟩ : ∃ a', a' = bw.put (some 6) (iv 1) := ⟨_, rfl⟩
 have av := pz ab aK
 have aU := pd ab bV
 have b1 := pn ab dg (by decide)
 have b2 := pn ab dh (by decide)
 have b3 := pn ab di (by decide)
 have dS := pn ab bx (by decide)
 have dT := pn ab bz (by decide)
 have dU := pn ab bA (by decide)
 have b4 : b0.eval (.tmp 6) = iv 1 := by rw [ab]; exact put_same _ _ _ (by rw [aK]; decide)
 show stepsTo _ _ _ _ _ (bw.put (some 6) (iv 1)) _
 rw [← ab]
 refine st_nil (bT _ _ (wp_seq_k fun dV aV => ?_))
 refine wp_g0 (.replicate 8 true) [] 94
   [(fun (v_ : Value) (W : World) => ∃ (an : Option Addr) (ao : Nat), v_ = vv (Vl.mk 5 0 0 false [] (asc ⟨#[49]⟩) 0) none 0 an ao ∧ SRow W .u16 an (asc ⟨#[49]⟩) ao),
    (VP (truthV true)), ve (.tuple #[.bool true, iv 0]), ve (.tuple #[.bool true, iv 0]), vT, ve (iv 0), vT, ve (iv 0)] av (.cons (fun _ _ _ n ⟨_, _, e, h⟩ => ⟨_, _, e, h.new_ n⟩) (.cons (fun v W W' hn ⟨dk, dl, dm, dn, he, h0, h1⟩ => ⟨dk, dl, dm, dn, he, h0.new_ hn, h1.new_ hn⟩) (.eq (.eq (.eq (.eq (.eq (.eq (.nil))))))))) ?_ ?_
 refine .o1 (tkC rfl (noG rfl) rfl fun _ w hn k => (by
       refine ⟨#[.string ⟨#[49]⟩], _, args1 rfl, fun w => by kernel_rfl, lstr_c ⟨#[49]⟩ _ (by first | omega | (show (_ : Nat) ≤ _; decide)), ?_⟩
       rintro e w' ⟨dp, dq, rfl, hmo0, hm⟩
       exact ⟨_, rfl, hm, ⟨dp, dq, rfl, hmo0⟩⟩)) ?_
 refine .o1 (tkC rfl (noG rfl) rfl fun _ w hn k => (by
       refine ⟨#[.bool true], _, args1 rfl, fun w => by kernel_rfl, truth_c true _ , ?_⟩
       rintro e w' ⟨dr, ds, dt, du, rfl, hmo0, hmo1, hm⟩
       exact ⟨_, rfl, hm, ⟨dr, ds, dt, du, rfl, hmo0, hmo1⟩⟩)) ?_
 refine .o1 (tkC rfl (noG rfl) rfl fun _ w hn k => (by
       obtain ⟨dv, dw, dx, b5⟩ : (fun (v_ : Value) (W : World) => ∃ (an : Option Addr) (ao : Nat), v_ = vv (Vl.mk 5 0 0 false [] (asc ⟨#[49]⟩) 0) none 0 an ao ∧ SRow W .u16 an (asc ⟨#[49]⟩) ao) _ _ := k.dep 0 31 (by kernel_rfl) (by kernel_rfl)
       obtain ⟨dy, dz, dA, dB, dC, b6, b7⟩ : (VP (truthV true)) _ _ := k.dep 1 32 (by kernel_rfl) (by kernel_rfl)
       refine ⟨#[vv (Vl.mk 5 0 0 false [] (asc ⟨#[49]⟩) 0) none 0 dv dw, vv (truthV true) dy dz dA dB], _, args2 dx dC, fun w => by kernel_rfl, first_l1 _ _ _ _ _ _ _ _ _ (SRow.nil _ _) b5 b6 b7, ?_⟩
       rintro e w' ⟨rfl, hm⟩
       exact ⟨_, rfl, hm, rfl⟩)) ?_
 exact .m (fun k => k.eq1 2 33 rfl) <| .t (fun _ w hn k => ⟨_, v_extract rfl (k.eq1 3 30 rfl) rfl, rfl⟩) <| .t (fun _ w hn k => ⟨_, v_extract rfl (k.eq1 3 30 rfl) rfl, rfl⟩) <| .a (fun k => k.eq1 4 34 rfl) <| .a (fun k => k.eq1 5 35 rfl) .nil
 refine aftI av aU aT fun dW dX aw aW aX aY af => ?_
 have b8 := af.fx 1 b1
 have b9 := af.fx 2 b2
 have ca := af.fx 4 b3
 have cb := af.fx 6 b4
 have cc := af.ge 6 7 rfl
 have cd := af.ge 7 8 rfl
 have aZ := aS.new_ aY
 refine st_nil (aV _ _ (wp_seq_k fun dY a1 => ?_))
 refine wp_g0 (.replicate 8 true) [] 94
   [(fun (v_ : Value) (W : World) => ∃ (ap : Option Addr) (aq : Nat), v_ = vv (Vl.mk 4 0 0 false [2] [] 0) ap aq none 0 ∧ SRow W .u32 ap ([2]) aq), ve (vv (Vl.mk 3 0 2 false [] [] 0) none 0 none 0), ve (.tuple #[.bool true, iv 0]), ve (.tuple #[.bool true, iv 0]), vT, ve (iv 0), vT, ve (iv 0)] aw (.cons (fun _ _ _ n ⟨_, _, e, h⟩ => ⟨_, _, e, h.new_ n⟩) (.eq (.eq (.eq (.eq (.eq (.eq (.eq (.nil))))))))) ?_ ?_
 refine .o1 (tkC rfl (noG rfl) rfl fun _ w hn k => (by
       refine ⟨#[.int .u32 2], _, args1 rfl, fun w => by kernel_rfl, lbig_c 2 _ (by omega), ?_⟩
       rintro e w' ⟨dD, dE, rfl, hmo0, hm⟩
       exact ⟨_, rfl, hm, ⟨dD, dE, rfl, hmo0⟩⟩)) ?_
 refine .o1 (ck rfl rfl rfl (fun _ w hn k => ⟨#[iv 2], args1 rfl, fun _ => by kernel_rfl, lwhole_c 2 _ ⟩) fun _ => rfl) ?_
 refine .o1 (tkC rfl (noG rfl) rfl fun _ w hn k => (by
       obtain ⟨dF, dG, dH, ce⟩ : (fun (v_ : Value) (W : World) => ∃ (ap : Option Addr) (aq : Nat), v_ = vv (Vl.mk 4 0 0 false [2] [] 0) ap aq none 0 ∧ SRow W .u32 ap ([2]) aq) _ _ := k.dep 0 37 (by kernel_rfl) (by kernel_rfl)
       refine ⟨#[vv (Vl.mk 4 0 0 false [2] [] 0) dF dG none 0, vv (Vl.mk 3 0 2 false [] [] 0) none 0 none 0], _, args2 dH (k.eq1 1 38 rfl), fun w => by kernel_rfl, first_l2 _ _ _ _ _ _ _ _ _ ce (SRow.nil _ _) (SRow.nil _ _) (SRow.nil _ _), ?_⟩
       rintro e w' ⟨rfl, hm⟩
       exact ⟨_, rfl, hm, rfl⟩)) ?_
 exact .m (fun k => k.eq1 2 39 rfl) <| .t (fun _ w hn k => ⟨_, v_extract rfl (k.eq1 3 36 rfl) rfl, rfl⟩) <| .t (fun _ w hn k => ⟨_, v_extract rfl (k.eq1 3 36 rfl) rfl, rfl⟩) <| .a (fun k => k.eq1 4 40 rfl) <| .a (fun k => k.eq1 5 41 rfl) .nil
 refine aftI aw aW aX fun dZ d0 ax a3 a4 a5 ad => ?_
 have cf := ad.fx 1 b8
 have ch := ad.fx 2 b9
 have ci := ad.fx 4 ca
 have cj := ad.fx 6 cb
 have cl := ad.fx 7 cc
 have cm := ad.fx 8 cd
 have cn := ad.ge 6 9 rfl
 have co := ad.ge 7 10 rfl
 have a6 := aZ.new_ a5
 refine st_nil (a1 _ _ (wp_seq_k fun d1 a7 => ?_))
 refine wp_g0 (.replicate 8 true) [] 94
   [ve (vv (Vl.mk 1 0 0 false [] [] 0) none 0 none 0), ve (vv (Vl.mk 3 0 0 false [] [] 0) none 0 none 0), ve (.tuple #[.bool false, iv 0]), ve (.tuple #[.bool false, iv 0]), vF, ve (iv 0), vF, ve (iv 0)] ax (.eq (.eq (.eq (.eq (.eq (.eq (.eq (.eq (.nil))))))))) ?_ ?_
 exact .t (fun _ w hn k => ⟨_, v_build (ps := [(0, iv 1)]) rfl (parts1 rfl) (by kernel_rfl), rfl⟩) <| .o1 (ck rfl rfl rfl (fun _ w hn k => ⟨#[iv 0], args1 rfl, fun _ => by kernel_rfl, lwhole_c 0 _ ⟩) fun _ => rfl) <| .o1 (ck rfl rfl rfl (fun _ w hn k => ⟨#[vv (Vl.mk 1 0 0 false [] [] 0) none 0 none 0, vv (Vl.mk 3 0 0 false [] [] 0) none 0 none 0], args2 (k.eq1 0 43 rfl) (k.eq1 1 44 rfl), fun _ => by kernel_rfl, first_l3 _ _ _ _ _ _ _ _ _ (SRow.nil _ _) (SRow.nil _ _) (SRow.nil _ _) (SRow.nil _ _)⟩) fun _ => rfl) <| .m (fun k => k.eq1 2 45 rfl) <| .t (fun _ w hn k => ⟨_, v_extract rfl (k.eq1 3 42 rfl) rfl, rfl⟩) <| .t (fun _ w hn k => ⟨_, v_extract rfl (k.eq1 3 42 rfl) rfl, rfl⟩) <| .a (fun k => k.eq1 4 46 rfl) <| .a (fun k => k.eq1 5 47 rfl) .nil
 refine aftI ax a3 a4 fun d2 d3 ay a8 a9 ba ac => ?_
 have cp := ac.fx 1 cf
 have cq := ac.fx 2 ch
 have cr := ac.fx 4 ci
 have ct := ac.fx 6 cj
 have cu := ac.fx 7 cl
 have cv := ac.fx 8 cm
 have cw := ac.fx 9 cn
 have cx := ac.fx 10 co
 have cy := ac.ge 6 11 rfl
 have cz := ac.ge 7 12 rfl
 have bb := a6.new_ ba
 refine st_nil (a7 _ _ (wp_seq_k fun d4 bd => ?_))
 refine wp_g0 [true, true, true, true, true, true, true] [] 94
   [ve (vv (Vl.mk 3 0 (-1) false [] [] 0) none 0 none 0), ve (.tuple #[iv 0, iv 2]), ve (.tuple #[iv 0, iv 2]), ve (iv 0), ve (iv 2), ve (iv 0), ve (iv 2)] ay (.eq (.eq (.eq (.eq (.eq (.eq (.eq (.nil)))))))) ?_ ?_
 exact .o1 (ck rfl rfl rfl (fun _ w hn k => ⟨#[iv (-1)], args1 rfl, fun _ => by kernel_rfl, lwhole_c (-1) _ ⟩) fun _ => rfl) <| .o1 (ck rfl rfl rfl (fun _ w hn k => ⟨#[vv (Vl.mk 3 0 (-1) false [] [] 0) none 0 none 0], args1 (k.eq1 0 49 rfl), fun _ => by kernel_rfl, first_i1 _ _ _ _ _ (SRow.nil _ _) (SRow.nil _ _)⟩) fun _ => rfl) <| .m (fun k => k.eq1 1 50 rfl) <| .t (fun _ w hn k => ⟨_, v_extract rfl (k.eq1 2 48 rfl) rfl, rfl⟩) <| .t (fun _ w hn k => ⟨_, v_extract rfl (k.eq1 2 48 rfl) rfl, rfl⟩) <| .a (fun k => k.eq1 3 51 rfl) <| .a (fun k => k.eq1 4 52 rfl) .nil
 refine aftI ay a8 a9 fun d5 d6 az be bf bg aa => ?_
 have cA := aa.fx 1 cp
 have cB := aa.fx 2 cq
 have cC := aa.fx 4 cr
 have cD := aa.fx 6 ct
 have cE := aa.fx 7 cu
 have cF := aa.fx 8 cv
 have cG := aa.fx 9 cw
 have cH := aa.fx 10 cx
 have cI := aa.fx 11 cy
 have cJ := aa.fx 12 cz
 have cK := aa.ge 6 14 rfl
 have bh := bb.new_ bg
 refine st_nil (bd _ _ (wp_seq_k fun d7 bi => ?_))
 refine wp_g0 (.replicate 42 true) [] 94
   [ve (iv 0), vT, vT, ve (.pointer (some ⟨aB, 1, none⟩)), ve (iv 12), vT, vT, vT, ve (iv 3), vT, vT, vT, ve (iv 1), vT, vT, vT, ve (iv 0), vT, vT, vT, vT, vT, vT, ve (iv 0), vT, vT, vT, vT, vT, vT, ve (iv 0), vT, vT, vT, vF, vT, vT, vT, ve (iv 2), vT, vT, vT] az (.eq (.eq (.eq (.eq (.eq (.eq (.eq (.eq (.eq (.eq (.eq (.eq (.eq (.eq (.eq (.eq (.eq (.eq (.eq (.eq (.eq (.eq (.eq (.eq (.eq (.eq (.eq (.eq (.eq (.eq (.eq (.eq (.eq (.eq (.eq (.eq (.eq (.eq (.eq (.eq (.eq (.eq (.nil))))))))))))))))))))))))))))))))))))))))))) ?_ ?_
 exact .m (fun k => k.fx 2 cB) <| .t (fun _ w hn k => ⟨_, v_bin rfl (k.eq1 0 53 rfl) rfl (fun _ => rfl) (fun w => by kernel_rfl), rfl⟩) <| .m (fun k => k.eq1 1 54 rfl) <| .gf (fun k => k.eq1 2 55 rfl) (fun k => k.fx 1 cA) <| .g (fun k => k.eq1 2 55 rfl) (fun _ w hn k => ⟨_, v_load rfl (k.eq1 3 56 rfl) (l_one Tryd.isAgg3 ((bh.new_ hn).cell 1)), rfl⟩) <| .g (fun k => k.eq1 2 55 rfl) (fun _ w hn k => ⟨_, v_bin rfl (k.eq1 4 57 rfl) rfl (fun _ => rfl) (fun w => by kernel_rfl), rfl⟩) <| .t (fun _ w hn k => ⟨_, v_pickT rfl (k.eq1 2 55 rfl) (k.eq1 5 58 rfl), rfl⟩) <| .m (fun k => k.eq1 6 59 rfl) <| .gm (fun k => k.eq1 7 60 rfl) (fun k => k.fx 4 cC) <| .g (fun k => k.eq1 7 60 rfl) (fun _ w hn k => ⟨_, v_bin rfl (k.eq1 8 61 rfl) rfl (fun _ => rfl) (fun w => by kernel_rfl), rfl⟩) <| .t (fun _ w hn k => ⟨_, v_pickT rfl (k.eq1 7 60 rfl) (k.eq1 9 62 rfl), rfl⟩) <| .m (fun k => k.eq1 10 63 rfl) <| .gm (fun k => k.eq1 11 64 rfl) (fun k => k.fx 6 cD) <| .g (fun k => k.eq1 11 64 rfl) (fun _ w hn k => ⟨_, v_bin rfl (k.eq1 12 65 rfl) rfl (fun _ => rfl) (fun w => by kernel_rfl), rfl⟩) <| .t (fun _ w hn k => ⟨_, v_pickT rfl (k.eq1 11 64 rfl) (k.eq1 13 66 rfl), rfl⟩) <| .m (fun k => k.eq1 14 67 rfl) <| .gm (fun k => k.eq1 15 68 rfl) (fun k => k.fx 8 cF) <| .g (fun k => k.eq1 15 68 rfl) (fun _ w hn k => ⟨_, v_bin rfl (k.eq1 16 69 rfl) rfl (fun _ => rfl) (fun w => by kernel_rfl), rfl⟩) <| .t (fun _ w hn k => ⟨_, v_pickT rfl (k.eq1 15 68 rfl) (k.eq1 17 70 rfl), rfl⟩) <| .m (fun k => k.eq1 18 71 rfl) <| .gm (fun k => k.eq1 19 72 rfl) (fun k => k.fx 7 cE) <| .t (fun _ w hn k => ⟨_, v_pickT rfl (k.eq1 19 72 rfl) (k.eq1 20 73 rfl), rfl⟩) <| .m (fun k => k.eq1 21 74 rfl) <| .gm (fun k => k.eq1 22 75 rfl) (fun k => k.fx 10 cH) <| .g (fun k => k.eq1 22 75 rfl) (fun _ w hn k => ⟨_, v_bin rfl (k.eq1 23 76 rfl) rfl (fun _ => rfl) (fun w => by kernel_rfl), rfl⟩) <| .t (fun _ w hn k => ⟨_, v_pickT rfl (k.eq1 22 75 rfl) (k.eq1 24 77 rfl), rfl⟩) <| .m (fun k => k.eq1 25 78 rfl) <| .gm (fun k => k.eq1 26 79 rfl) (fun k => k.fx 9 cG) <| .t (fun _ w hn k => ⟨_, v_pickT rfl (k.eq1 26 79 rfl) (k.eq1 27 80 rfl), rfl⟩) <| .m (fun k => k.eq1 28 81 rfl) <| .gm (fun k => k.eq1 29 82 rfl) (fun k => k.fx 12 cJ) <| .g (fun k => k.eq1 29 82 rfl) (fun _ w hn k => ⟨_, v_bin rfl (k.eq1 30 83 rfl) rfl (fun _ => rfl) (fun w => by kernel_rfl), rfl⟩) <| .t (fun _ w hn k => ⟨_, v_pickT rfl (k.eq1 29 82 rfl) (k.eq1 31 84 rfl), rfl⟩) <| .m (fun k => k.eq1 32 85 rfl) <| .gm (fun k => k.eq1 33 86 rfl) (fun k => k.fx 11 cI) <| .g (fun k => k.eq1 33 86 rfl) (fun _ w hn k => ⟨_, v_not rfl (k.eq1 34 87 rfl), rfl⟩) <| .t (fun _ w hn k => ⟨_, v_pickT rfl (k.eq1 33 86 rfl) (k.eq1 35 88 rfl), rfl⟩) <| .m (fun k => k.eq1 36 89 rfl) <| .gm (fun k => k.eq1 37 90 rfl) (fun k => k.fx 14 cK) <| .g (fun k => k.eq1 37 90 rfl) (fun _ w hn k => ⟨_, v_bin rfl (k.eq1 38 91 rfl) rfl (fun _ => rfl) (fun w => by kernel_rfl), rfl⟩) <| .t (fun _ w hn k => ⟨_, v_pickT rfl (k.eq1 37 90 rfl) (k.eq1 39 92 rfl), rfl⟩) <| .a (fun k => k.eq1 40 93 rfl) .nil
 refine aftI az be bf fun d8 d9 dJ bj bk dK bl => ?_
 have cL := bl.ge 41 0 rfl
 refine st_nil (bi _ _ ?_)
 refine wp_ret (ret_k bj (v := .bool true) (res_t rfl cL _) ?_)
 exact ⟨rfl, bk⟩
theorem text_units {v : Vl} (h : VOk v) : U16s (textV v).1 := by
  unfold textV
  repeat' split
  all_goals first | exact U16s.asc _ | exact h.clean.units | exact U16s.nil
theorem text_len {v : Vl} (h : VOk v) : (textV v).1.length ≤ 20000 := by
  have h1 := textM_size (cleanV v).num
  have h2 := textI_size (b := (cleanV v).neg) h.clean.limbs
  have h3 := h.clean.slen
  unfold textV
  repeat' split
  all_goals first | exact h3 | exact Nat.zero_le _ | (show (asc _).length ≤ 20000; rw [asc_len]; first | (show (_ : Nat) ≤ _; decide) | (show (_ : Nat) ≤ _; omega))
theorem VOk.str4 {u : List Nat} (h : U16s u) (_ : u.length ≤ 20000) : VOk (strV u) := ⟨Limbs.nil, h.take _, Nat.zero_le _, by show (u.take 4096).length ≤ 20000; rw [List.length_take]; omega, (by decide : (-9223372036854775808 : Int) ≤ 0), (by decide : (0 : Int) ≤ 9223372036854775807), (by decide : (-9223372036854775808 : Int) ≤ 0), (by decide : (0 : Int) ≤ 9223372036854775807)⟩
theorem may_w (v : Vl) (Av : Option Addr) (cv : Nat) (Bv : Option Addr) (dv : Nat) (w : World) (hmv : SRow w .u32 Av v.mag cv) (hsv : SRow w .u16 Bv v.s dv) (hlv : Limbs v.mag) (huv : U16s v.s) (hbv : -9223372036854775808 ≤ v.nn ∧ v.nn ≤ 9223372036854775807 ∧ -9223372036854775808 ≤ v.ref ∧ v.ref ≤ 9223372036854775807) (HT : ItoaOk w) : Calls Tryd.prog 5 #[vv v Av cv Bv dv] w (IsRet (.bool true) w) := by
 refine enter_abs Tryd.func5 rfl fun a0 bZ gu hp => ?_
 have bZ : a0.tmps.size = 90 := bZ
 have eH : New w w := Upd.refl _ _
 have hp0 : a0.eval (.tmp 0) = vv v Av cv Bv dv := hp 0 _ rfl
 refine wp_seq_k fun K1 gv => ?_
 refine wp_g [true, true] [] [] 90
   [IsNew w 29 [iv v.k, iv v.nk, iv v.nn, .bool v.neg, sv Av v.mag cv, sv Bv v.s dv, iv v.ref], vF]
   [0] (newsCons (fun v w h => IsNew.old h) newsNil) bZ (.nw (.eq (.nil))) ?_ (fun i h => by cases h) ?_
 exact .o2 (step_allocN (cs := [iv v.k, iv v.nk, iv v.nn, .bool v.neg, sv Av v.mag cv, sv Bv v.s dv, iv v.ref]) (t := 29) rfl (noG rfl) (fun _ w hn k => v_box rfl (k.fx 0 hp0) (fun w => rfl)) (fun q _ hq hb => ⟨q, rfl, hq, hb⟩)) <| .t (fun _ w hn k => ⟨_, v_assign rfl rfl, rfl⟩) .nil
 refine aftI bZ gu eH fun a2 w3 eI gw eR iU gx => ?_
 obtain ⟨q9, h8, eS, eT⟩ : IsNew _ _ _ _ _ := gx.got 0 1 rfl (by kernel_rfl)
 have hP := Nat.le_trans eH.size eS
 refine st_nil (gv _ _ (wp_seq_k fun iV eU => ?_))
 refine wp_seq_k fun iW eV => ?_
 refine wp_g0 [true, true] [] 90
   [vT, vF] eI (.eq (.eq (.nil))) ?_ ?_
 exact .o1 (ck rfl rfl rfl (fun _ w hn k => ⟨#[], rfl, fun _ => by kernel_rfl, first_c _⟩) fun _ => rfl) <| .t (fun _ w hn k => ⟨_, v_not rfl (k.eq1 0 11 rfl), rfl⟩) .nil
 refine aftI eI gw eR fun iX iY cA eW bS eX cB => ?_
 have eJ := cB.fx 1 h8
 have gy := cB.ge 1 12 rfl
 have cC := eT.new_ eX
 refine st_nil (eV _ _ ?_)
 refine wp_cond_false gy ?_
 refine wp_skip ?_
 refine eU _ _ ?_
 refine wp_seq_k fun iZ eY => ?_
 refine wp_seq_k fun i0 eZ => ?_
 refine wp_g0 [true, true, true] [] 90
   [ve (vv v Av cv Bv dv), ve (.bool (decide ((v.s.length : Int) ≤ 20000) && decide ((v.mag.length : Int) ≤ 40))), ve (.bool (!(decide ((v.s.length : Int) ≤ 20000) && decide ((v.mag.length : Int) ≤ 40))))] cA (.eq (.eq (.eq (.nil)))) ?_ ?_
 exact .t (fun _ w hn k => ⟨_, v_load rfl (k.fx 1 eJ) (l_agg Tryd.isAgg29 Tryd.sizeOf29 (cC.new_ hn) rfl), rfl⟩) <| .o1 (ck rfl rfl rfl (fun _ w hn k => ⟨#[vv v Av cv Bv dv], args1 (k.eq1 0 13 rfl), fun _ => by kernel_rfl, few_c v _ _ _ _ _ (hmv.new_ (bS.transNew hn)) (hsv.new_ (bS.transNew hn))⟩) fun _ => rfl) <| .t (fun _ w hn k => ⟨_, v_not rfl (k.eq1 1 14 rfl), rfl⟩) .nil
 refine aftI cA eW bS fun eK gz bw cD bh e0 cE => ?_
 have eL := cE.fx 1 eJ
 have eM := cE.ge 2 15 rfl
 have bT := cC.new_ e0
 refine st_nil (eZ _ _ ?_)
 rcases bc (decide ((v.s.length : Int) ≤ 20000) && decide ((v.mag.length : Int) ≤ 40)) with bi | bi
 have e1 : eK.eval (.tmp 15) = .bool false := eM.trans (congrArg Value.bool (by rw [bi]; rfl))
 refine wp_cond_false e1 ?_
 refine wp_skip ?_
 refine eY _ _ ?_
 refine wp_seq_k fun i1 e2 => ?_
 have hvv : VOk v := few_ok (v := v) (by first | exact bi | simpa using bi) hlv huv hbv.1 hbv.2.1 hbv.2.2.1 hbv.2.2.2
 refine wp_gS (fun W => True) (fun W W' hn h => trivial) trivial [true, true, true, true, true, true, false, false] [4] [(6, false), (7, true)] 90
   [ve (vv v Av cv Bv dv), (fun (v_ : Value) (W : World) => ∃ (A5 : Option Addr) (c6 : Nat) (A7 : Option Addr) (c8 : Nat), v_ = .tuple #[vv (numericV v).1 A5 c6 A7 c8, iv ((numericV v).2)] ∧ SRow W .u32 A5 ((numericV v).1.mag) c6 ∧ SRow W .u16 A7 ((numericV v).1.s) c8), (fun (v_ : Value) (W : World) => ∃ (aO : Option Addr) (aP : Nat) (aQ : Option Addr) (aR : Nat), v_ = .tuple #[vv (numericV v).1 aO aP aQ aR, iv ((numericV v).2)] ∧ SRow W .u32 aO ((numericV v).1.mag) aP ∧ SRow W .u16 aQ ((numericV v).1.s) aR), (fun (v_ : Value) (W : World) => ∃ (bj : Option Addr) (bk : Nat) (bl : Option Addr) (bm : Nat), v_ = vv (numericV v).1 bj bk bl bm ∧ SRow W .u32 bj ((numericV v).1.mag) bk ∧ SRow W .u16 bl ((numericV v).1.s) bm), ve (iv ((numericV v).2)), IsNew gz 29 [iv 0, iv 0, iv 0, .bool false, sv none ([]) 0, sv none ([]) 0, iv 0], vt, vt]
   [5] (newsCons (fun v w h => IsNew.old h) newsNil) bw (.eq (.cons (fun v W W' hn ⟨A5, c6, A7, c8, he, h0, h1⟩ => ⟨A5, c6, A7, c8, he, h0.new_ hn, h1.new_ hn⟩) (.cons (fun v W W' hn ⟨aO, aP, aQ, aR, he, h0, h1⟩ => ⟨aO, aP, aQ, aR, he, h0.new_ hn, h1.new_ hn⟩) (.cons (fun v W W' hn ⟨bj, bk, bl, bm, he, h0, h1⟩ => ⟨bj, bk, bl, bm, he, h0.new_ hn, h1.new_ hn⟩) (.eq (.nw (.tt (.tt (.nil))))))))) ?_ ?_ ?_
 refine .t (fun _ w hn k => ⟨_, v_load rfl (k.fx 1 eL) (l_agg Tryd.isAgg29 Tryd.sizeOf29 (bT.new_ hn) rfl), rfl⟩) ?_
 refine .o1 (tkC rfl (noG rfl) rfl fun _ w hn k => (by
       refine ⟨#[vv v Av cv Bv dv], _, args1 (k.eq1 0 18 rfl), fun w => by kernel_rfl, cnumeric_c v _ _ _ _ _ (hmv.new_ (bh.transNew hn)) (hsv.new_ (bh.transNew hn)) hvv, ?_⟩
       rintro e w' ⟨A1, c2, A3, c4, rfl, hmo0, hmo1, hm⟩
       exact ⟨_, rfl, hm, ⟨A1, c2, A3, c4, rfl, hmo0, hmo1⟩⟩)) ?_
 refine .o1 (tk rfl rfl fun _ w hn k => (by
       obtain ⟨A9, gA, gB, gC, gD, e3, e4⟩ : (fun (v_ : Value) (W : World) => ∃ (A5 : Option Addr) (c6 : Nat) (A7 : Option Addr) (c8 : Nat), v_ = .tuple #[vv (numericV v).1 A5 c6 A7 c8, iv ((numericV v).2)] ∧ SRow W .u32 A5 ((numericV v).1.mag) c6 ∧ SRow W .u16 A7 ((numericV v).1.s) c8) _ _ := k.dep 1 19 (by kernel_rfl) (by kernel_rfl)
       exact ⟨_, v_move rfl gD, ⟨A9, gA, gB, gC, rfl, e3, e4⟩⟩)) ?_
 refine .o1 (tk rfl rfl fun _ w hn k => (by
       obtain ⟨gE, gF, gG, gH, gI, e5, e6⟩ : (fun (v_ : Value) (W : World) => ∃ (aO : Option Addr) (aP : Nat) (aQ : Option Addr) (aR : Nat), v_ = .tuple #[vv (numericV v).1 aO aP aQ aR, iv ((numericV v).2)] ∧ SRow W .u32 aO ((numericV v).1.mag) aP ∧ SRow W .u16 aQ ((numericV v).1.s) aR) _ _ := k.dep 2 17 (by kernel_rfl) (by kernel_rfl)
       exact ⟨_, v_extract rfl gI rfl, ⟨gE, gF, gG, gH, rfl, e5, e6⟩⟩)) ?_
 refine .o3 ?_
 exact .o2 (step_allocN (cs := [iv 0, iv 0, iv 0, .bool false, sv none ([]) 0, sv none ([]) 0, iv 0]) (t := 29) rfl (noG rfl) (fun _ w hn k => rfl) (fun q _ hq hb => ⟨q, rfl, hq, hb⟩)) <| .off <| .off .nil
 intro i h
 simp only [List.contains_eq_mem, List.mem_cons, List.not_mem_nil, or_false, decide_eq_true_eq] at h
 subst h
 exact eager_takeG rfl (noG rfl) fun _ w hn k => (by
     obtain ⟨i2, i3, i4, i5, gJ, hQ, hR⟩ : (fun (v_ : Value) (W : World) => ∃ (aO : Option Addr) (aP : Nat) (aQ : Option Addr) (aR : Nat), v_ = .tuple #[vv (numericV v).1 aO aP aQ aR, iv ((numericV v).2)] ∧ SRow W .u32 aO ((numericV v).1.mag) aP ∧ SRow W .u16 aQ ((numericV v).1.s) aR) _ _ := k.dep 2 17 (by kernel_rfl) (by kernel_rfl)
     exact ⟨_, fun w hS => v_extract rfl gJ rfl, rfl⟩)
 intro cF i6 _ cG bn
 obtain ⟨cH, e7, e8⟩ := aft bn bw cD bh cG
 have gK := bn.fx 1 eL
 obtain ⟨ad, ab, af, ac, b0, e9, fa⟩ : (fun (v_ : Value) (W : World) => ∃ (bj : Option Addr) (bk : Nat) (bl : Option Addr) (bm : Nat), v_ = vv (numericV v).1 bj bk bl bm ∧ SRow W .u32 bj ((numericV v).1.mag) bk ∧ SRow W .u16 bl ((numericV v).1.s) bm) _ _ := bn.got 3 20 rfl (by kernel_rfl)
 have b0 : cF.eval (.tmp 20) = vv (numericV v).1 ad ab af ac := b0
 have eN := bn.ge 4 21 rfl
 obtain ⟨cI, eO, cJ, bU⟩ : IsNew _ _ _ _ _ := bn.got 5 3 rfl (by kernel_rfl)
 have fb := bT.new_ cG
 have hne61 : q9 ≠ cI := by have h1 := bT.lt; have h2 := cJ; omega
 have hT := Nat.le_trans bh.size cJ
 obtain ⟨gL, c9, da, bV, fc⟩ := s_many (P := Tryd.prog) (t := 29) (i := 0) [iv ((numericV v).1.k), iv ((numericV v).1.nk), iv ((numericV v).1.nn), .bool ((numericV v).1.neg), sv ad ((numericV v).1.mag) ab, sv af ((numericV v).1.s) ac, iv ((numericV v).1.ref)] Tryd.sizeOf29 rfl rfl rfl bU lb
 have fd : Blk gL cI 29 [iv ((numericV v).1.k), iv ((numericV v).1.nk), iv ((numericV v).1.nn), .bool ((numericV v).1.neg), sv ad ((numericV v).1.mag) ab, sv af ((numericV v).1.s) ac, iv ((numericV v).1.ref)] := da
 refine st_act rfl rfl fun i7 fe => a_store' rfl eO b0 c9 (fe _ _ trivial ?_)
 have ff := e9.far bU bV (by first | rfl | decide | simp [notK])
 have fg := fa.far bU bV (by first | rfl | decide | simp [notK])
 have cK := fc _ _ _ (hne61) fb
 have bx := e8.trans bV (fun _ h b => by subst b; omega)
 refine st_take rfl rfl (y_assign (v := iv ((numericV v).2)) rfl eN) rfl ?_
 obtain ⟨gM, aB⟩ : ∃ a', a' = cF.put (some 4) (iv ((numericV v).2)) := ⟨_, rfl⟩
 have cL := pz aB cH
 have fh := pd aB e7
 have eP := pn aB gK (by decide)
 have i8 := pn aB b0 (by decide)
 have i9 := pn aB eN (by decide)
 have gN := pn aB eO (by decide)
 have gO : gM.eval (.tmp 4) = iv ((numericV v).2) := by rw [aB]; exact put_same _ _ _ (by rw [cH]; decide)
 show stepsTo _ _ _ _ _ (cF.put (some 4) (iv ((numericV v).2))) _
 rw [← aB]
 refine st_nil (e2 _ _ (wp_seq_k fun ja fi => ?_))
 refine wp_g0 [true, true, true, true, true, true, true] [] 90
   [ve (vv v Av cv Bv dv), (fun (v_ : Value) (W : World) => ∃ (bo : Option Addr) (bp : Nat), v_ = .tuple #[sv bo ((textV v).1) bp, iv ((textV v).2)] ∧ SRow W .u16 bo ((textV v).1) bp), (fun (v_ : Value) (W : World) => ∃ (aS : Option Addr) (aT : Nat), v_ = .tuple #[sv aS ((textV v).1) aT, iv ((textV v).2)] ∧ SRow W .u16 aS ((textV v).1) aT),
    (RP .u16 ((textV v).1)), ve (iv ((textV v).2)),
    (RP .u16 ((textV v).1)), ve (iv ((textV v).2))] cL (.eq (.cons (fun _ _ _ n ⟨_, _, e, h⟩ => ⟨_, _, e, h.new_ n⟩) (.cons (fun v W W' hn ⟨aS, aT, he, h0⟩ => ⟨aS, aT, he, h0.new_ hn⟩) (.cons (fun _ _ _ n ⟨_, _, e, h⟩ => ⟨_, _, e, h.new_ n⟩) (.eq (.cons (fun _ _ _ n ⟨_, _, e, h⟩ => ⟨_, _, e, h.new_ n⟩) (.eq (.nil)))))))) ?_ ?_
 refine .t (fun _ w hn k => ⟨_, v_load rfl (k.fx 1 eP) (l_agg Tryd.isAgg29 Tryd.sizeOf29 (cK.new_ hn) rfl), rfl⟩) ?_
 refine .o1 (tkC rfl (noG rfl) rfl fun _ w hn k => (by
       refine ⟨#[vv v Av cv Bv dv], _, args1 (k.eq1 0 23 rfl), fun w => by kernel_rfl, ctext_c v _ _ _ _ _ (hmv.new_ (bx.transNew hn)) (hsv.new_ (bx.transNew hn)) hvv (HT.up (bx.transNew hn)), ?_⟩
       rintro e w' ⟨gT, gU, rfl, hmo0, hm⟩
       exact ⟨_, rfl, hm, ⟨gT, gU, rfl, hmo0⟩⟩)) ?_
 refine .o1 (tk rfl rfl fun _ w hn k => (by
       obtain ⟨ad, gV, gW, fj⟩ : (fun (v_ : Value) (W : World) => ∃ (bo : Option Addr) (bp : Nat), v_ = .tuple #[sv bo ((textV v).1) bp, iv ((textV v).2)] ∧ SRow W .u16 bo ((textV v).1) bp) _ _ := k.dep 1 24 (by kernel_rfl) (by kernel_rfl)
       exact ⟨_, v_move rfl gW, ⟨ad, gV, rfl, fj⟩⟩)) ?_
 refine .o1 (tk rfl rfl fun _ w hn k => (by
       obtain ⟨gX, gY, gZ, fk⟩ : (fun (v_ : Value) (W : World) => ∃ (aS : Option Addr) (aT : Nat), v_ = .tuple #[sv aS ((textV v).1) aT, iv ((textV v).2)] ∧ SRow W .u16 aS ((textV v).1) aT) _ _ := k.dep 2 22 (by kernel_rfl) (by kernel_rfl)
       exact ⟨_, v_extract rfl gZ rfl, ⟨gX, gY, rfl, fk⟩⟩)) ?_
 refine .o1 (tk rfl rfl fun _ w hn k => (by
       obtain ⟨jb, jc, g0, hU⟩ : (fun (v_ : Value) (W : World) => ∃ (aS : Option Addr) (aT : Nat), v_ = .tuple #[sv aS ((textV v).1) aT, iv ((textV v).2)] ∧ SRow W .u16 aS ((textV v).1) aT) _ _ := k.dep 2 22 (by kernel_rfl) (by kernel_rfl)
       exact ⟨_, v_extract rfl g0 rfl, rfl⟩)) ?_
 refine .o1 (tk rfl rfl fun _ w hn k => (by
       obtain ⟨g1, g2, g3, fl⟩ : (RP .u16 ((textV v).1)) _ _ := k.dep 3 25 (by kernel_rfl) (by kernel_rfl)
       exact ⟨_, v_assign rfl g3, ⟨g1, g2, rfl, fl⟩⟩)) ?_
 exact .a (fun k => k.eq1 4 26 rfl) .nil
 refine aftI cL fh bx fun g4 g5 cM fm a8 bz bq => ?_
 have eQ := bq.fx 1 eP
 have g6 := bq.fx 3 gN
 have g7 := bq.fx 4 gO
 obtain ⟨aC, aA, cN, fn⟩ : (RP .u16 ((textV v).1)) _ _ := bq.got 5 5 rfl (by kernel_rfl)
 have cN : g4.eval (.tmp 5) = sv aC ((textV v).1) aA := cN
 have g8 := bq.ge 6 6 rfl
 have bW := cK.new_ bz
 have b1 := fd.new_ bz
 have db := ff.new_ bz
 have dc := fg.new_ bz
 refine st_nil (fi _ _ (wp_seq_k fun hV dd => ?_))
 refine wp_gS (fun W => True) (fun W W' hn h => trivial) trivial [true, true, true, true, true, true, false, false] [4] [(6, false), (7, true)] 90
   [ve (vv v Av cv Bv dv), (fun (v_ : Value) (W : World) => ∃ (br : Option Addr) (bs : Nat), v_ = .tuple #[.agg #[.bool ((bigintV v).1), sv br ((bigintV v).2.1) bs], iv ((bigintV v).2.2)] ∧ SRow W .u32 br ((bigintV v).2.1) bs), (fun (v_ : Value) (W : World) => ∃ (aU : Option Addr) (aV : Nat), v_ = .tuple #[.agg #[.bool ((bigintV v).1), sv aU ((bigintV v).2.1) aV], iv ((bigintV v).2.2)] ∧ SRow W .u32 aU ((bigintV v).2.1) aV), (fun (v_ : Value) (W : World) => ∃ (bt : Option Addr) (bu : Nat), v_ = .agg #[.bool ((bigintV v).1), sv bt ((bigintV v).2.1) bu] ∧ SRow W .u32 bt ((bigintV v).2.1) bu), ve (iv ((bigintV v).2.2)), IsNew g5 26 [.bool false, sv none ([]) 0], vt, vt]
   [5] (newsCons (fun v w h => IsNew.old h) newsNil) cM (.eq (.cons (fun _ _ _ n ⟨_, _, e, h⟩ => ⟨_, _, e, h.new_ n⟩) (.cons (fun v W W' hn ⟨aU, aV, he, h0⟩ => ⟨aU, aV, he, h0.new_ hn⟩) (.cons (fun _ _ _ n ⟨_, _, e, h⟩ => ⟨_, _, e, h.new_ n⟩) (.eq (.nw (.tt (.tt (.nil))))))))) ?_ ?_ ?_
 refine .t (fun _ w hn k => ⟨_, v_load rfl (k.fx 1 eQ) (l_agg Tryd.isAgg29 Tryd.sizeOf29 (bW.new_ hn) rfl), rfl⟩) ?_
 refine .o1 (tkC rfl (noG rfl) rfl fun _ w hn k => (by
       refine ⟨#[vv v Av cv Bv dv], _, args1 (k.eq1 0 28 rfl), fun w => by kernel_rfl, cbigint_c v _ _ _ _ _ (hmv.new_ (a8.transNew hn)) (hsv.new_ (a8.transNew hn)) hvv, ?_⟩
       rintro e w' ⟨g9, ha, rfl, hmo0, hm⟩
       exact ⟨_, rfl, hm, ⟨g9, ha, rfl, hmo0⟩⟩)) ?_
 refine .o1 (tk rfl rfl fun _ w hn k => (by
       obtain ⟨hc, hd, hf, fo⟩ : (fun (v_ : Value) (W : World) => ∃ (br : Option Addr) (bs : Nat), v_ = .tuple #[.agg #[.bool ((bigintV v).1), sv br ((bigintV v).2.1) bs], iv ((bigintV v).2.2)] ∧ SRow W .u32 br ((bigintV v).2.1) bs) _ _ := k.dep 1 29 (by kernel_rfl) (by kernel_rfl)
       exact ⟨_, v_move rfl hf, ⟨hc, hd, rfl, fo⟩⟩)) ?_
 refine .o1 (tk rfl rfl fun _ w hn k => (by
       obtain ⟨hg, hh, hi, fp⟩ : (fun (v_ : Value) (W : World) => ∃ (aU : Option Addr) (aV : Nat), v_ = .tuple #[.agg #[.bool ((bigintV v).1), sv aU ((bigintV v).2.1) aV], iv ((bigintV v).2.2)] ∧ SRow W .u32 aU ((bigintV v).2.1) aV) _ _ := k.dep 2 27 (by kernel_rfl) (by kernel_rfl)
       exact ⟨_, v_extract rfl hi rfl, ⟨hg, hh, rfl, fp⟩⟩)) ?_
 refine .o3 ?_
 exact .o2 (step_allocN (cs := [.bool false, sv none ([]) 0]) (t := 26) rfl (noG rfl) (fun _ w hn k => rfl) (fun q _ hq hb => ⟨q, rfl, hq, hb⟩)) <| .off <| .off .nil
 intro i h
 simp only [List.contains_eq_mem, List.mem_cons, List.not_mem_nil, or_false, decide_eq_true_eq] at h
 subst h
 exact eager_takeG rfl (noG rfl) fun _ w hn k => (by
     obtain ⟨jd, je, hj, hW⟩ : (fun (v_ : Value) (W : World) => ∃ (aU : Option Addr) (aV : Nat), v_ = .tuple #[.agg #[.bool ((bigintV v).1), sv aU ((bigintV v).2.1) aV], iv ((bigintV v).2.2)] ∧ SRow W .u32 aU ((bigintV v).2.1) aV) _ _ := k.dep 2 27 (by kernel_rfl) (by kernel_rfl)
     exact ⟨_, fun w hS => v_extract rfl hj rfl, rfl⟩)
 intro bX hX _ aH an
 obtain ⟨b2, de, df⟩ := aft an cM fm a8 aH
 have fq := an.fx 1 eQ
 have fr := an.fx 3 g6
 have fs := an.fx 4 g7
 have ft := an.fx 5 cN
 have fu := an.fx 6 g8
 obtain ⟨a6, aI, bA, dg⟩ : (fun (v_ : Value) (W : World) => ∃ (bt : Option Addr) (bu : Nat), v_ = .agg #[.bool ((bigintV v).1), sv bt ((bigintV v).2.1) bu] ∧ SRow W .u32 bt ((bigintV v).2.1) bu) _ _ := an.got 3 30 rfl (by kernel_rfl)
 have bA : bX.eval (.tmp 30) = .agg #[.bool ((bigintV v).1), sv a6 ((bigintV v).2.1) aI] := bA
 have cO := an.ge 4 31 rfl
 obtain ⟨a7, cP, bB, a1⟩ : IsNew _ _ _ _ _ := an.got 5 7 rfl (by kernel_rfl)
 have dh := bW.new_ aH
 have di := b1.new_ aH
 have hne127 : q9 ≠ a7 := by have h1 := bW.lt; have h2 := bB; omega
 have hne128 : cI ≠ a7 := by have h1 := b1.lt; have h2 := bB; omega
 have hA := Nat.le_trans a8.size bB
 have dj := db.new_ aH
 have dk := dc.new_ aH
 have dl := fn.new_ aH
 obtain ⟨hY, -, cQ, a9, a3, b3⟩ := s_two (v0 := .bool ((bigintV v).1)) (v1 := sv a6 ((bigintV v).2.1) aI) Tryd.sizeOf26 rfl rfl rfl a1
 refine st_act rfl rfl fun hZ dm => a_store' rfl cP bA cQ (dm _ _ trivial ?_)
 have ag := dj.far a1 a3 (by first | rfl | decide | simp [notK])
 have ah := dk.far a1 a3 (by first | rfl | decide | simp [notK])
 have ao := dl.far a1 a3 (by first | rfl | decide | simp [notK])
 have hC := dg.far a1 a3 (by first | rfl | decide | simp [notK])
 have ap := b3 _ _ _ (hne127) dh
 have ai := b3 _ _ _ (hne128) di
 have aq := df.trans a3 (fun _ h b => by subst b; omega)
 refine st_take rfl rfl (y_assign (v := iv ((bigintV v).2.2)) rfl cO) rfl ?_
 obtain ⟨fv, aj⟩ : ∃ a', a' = bX.put (some 8) (iv ((bigintV v).2.2)) := ⟨_, rfl⟩
 have ae := pz aj b2
 have ar := pd aj de
 have aD := pn aj fq (by decide)
 have al := pn aj fr (by decide)
 have aE := pn aj fs (by decide)
 have am := pn aj ft (by decide)
 have aF := pn aj fu (by decide)
 have h3 := pn aj bA (by decide)
 have h4 := pn aj cO (by decide)
 have bC := pn aj cP (by decide)
 have aG : fv.eval (.tmp 8) = iv ((bigintV v).2.2) := by rw [aj]; exact put_same _ _ _ (by rw [b2]; decide)
 show stepsTo _ _ _ _ _ (bX.put (some 8) (iv ((bigintV v).2.2))) _
 rw [← aj]
 refine st_nil (dd _ _ (wp_seq_k fun h5 dn => ?_))
 refine wp_seq_j (fun (aa : Act) (ww : World) => aa.tmps.size = 90 ∧ aa.defers = [] ∧ New w ww ∧ aa.eval (.tmp 63) = .bool false ∧ aa.eval (.tmp 1) = pv q9 ∧ aa.eval (.tmp 5) = sv aC ((textV v).1) aA ∧ Blk ww q9 29 [iv v.k, iv v.nk, iv v.nn, .bool v.neg, sv Av v.mag cv, sv Bv v.s dv, iv v.ref] ∧ SRow ww .u16 aC ((textV v).1) aA) ?_ ?_
 rintro h6 h7 ⟨ba, b4, bb, fw, bv, cR, a4, b5⟩
 refine wp_cond_false fw ?_
 refine wp_skip ?_
 refine dn _ _ ?_
 refine wp_seq_k fun h9 dp => ?_
 refine wp_seq_k fun ia b6 => ?_
 rcases bc (decide (v.k = 4)) with aJ | aJ
 have cS := oT aJ
 refine wp_g0 (.replicate 8 true) [] 90
   [ve (pv q9), ve (iv v.k), vF, vF, ve (vv v Av cv Bv dv), ve (.bool (mayV v)), ve (.bool (!(mayV v))), ve (.bool (!(mayV v)))] ba (.eq (.eq (.eq (.eq (.eq (.eq (.eq (.eq (.nil))))))))) ?_ ?_
 exact .f (fun k => k.fx 1 bv) <| .t (fun _ w hn k => ⟨_, v_load rfl (k.eq1 0 64 rfl) (l_one Tryd.isAgg3 ((a4.new_ hn).cell 0)), rfl⟩) <| .t (fun _ w hn k => ⟨_, v_bin rfl (k.eq1 1 65 rfl) rfl (fun _ => rfl) (r_neq aJ), rfl⟩) <| .m (fun k => k.eq1 2 66 rfl) <| .g (fun k => k.eq1 3 67 rfl) (fun _ w hn k => ⟨_, v_load rfl (k.fx 1 bv) (l_agg Tryd.isAgg29 Tryd.sizeOf29 (a4.new_ hn) rfl), rfl⟩) <| .o1 (cg rfl rfl rfl (fun _ _ k => k.eq1 3 67 rfl) rfl (fun _ w hn k => ⟨#[vv v Av cv Bv dv], args1 (k.eq1 4 68 rfl), fun _ => by kernel_rfl, vmay_c v _ _ _ _ _ (hmv.new_ (bb.transNew hn)) (hsv.new_ (bb.transNew hn))⟩) fun _ => rfl) <| .g (fun k => k.eq1 3 67 rfl) (fun _ w hn k => ⟨_, v_not rfl (k.eq1 5 69 rfl), rfl⟩) <| .t (fun _ w hn k => ⟨_, v_pickF rfl (k.eq1 3 67 rfl) (k.eq1 6 70 rfl), rfl⟩) .nil
 refine aftI ba b4 bb fun cT fy bd b7 bD b8 bE => ?_
 have fz := bE.fx 1 bv
 have fA := bE.fx 5 cR
 have cU := bE.ge 7 71 rfl
 have b9 := a4.new_ b8
 have dq := b5.new_ b8
 refine st_nil (b6 _ _ ?_)
 rcases bc (mayV v) with be | be
 have dr : cT.eval (.tmp 71) = .bool false := cU.trans (congrArg Value.bool (by rw [be]; rfl))
 refine wp_cond_false dr ?_
 refine wp_skip ?_
 refine dp _ _ ?_
 refine wp_seq_k fun ib ds => ?_
 obtain ⟨hbb1, hbb2, hbb3⟩ := big_back be (oT aJ) hlv
 have htl := text_len hvv
 have htu := text_units hvv
 refine wp_gS (fun W => True) (fun W W' hn h => trivial) trivial [true, true, true, true, true, true, true, false, false] [5] [(7, false), (8, true)] 90
   [ve (sv aC ((textV v).1) aA),
    (VP (strV ((textV v).1))), (fun (v_ : Value) (W : World) => ∃ (aW : Option Addr) (aX : Nat), v_ = .tuple #[.agg #[.bool ((bigintV (strV ((textV v).1))).1), sv aW ((bigintV (strV ((textV v).1))).2.1) aX], iv ((bigintV (strV ((textV v).1))).2.2)] ∧ SRow W .u32 aW ((bigintV (strV ((textV v).1))).2.1) aX), (fun (v_ : Value) (W : World) => ∃ (ay : Option Addr) (az : Nat), v_ = .tuple #[.agg #[.bool ((bigintV (strV ((textV v).1))).1), sv ay ((bigintV (strV ((textV v).1))).2.1) az], iv ((bigintV (strV ((textV v).1))).2.2)] ∧ SRow W .u32 ay ((bigintV (strV ((textV v).1))).2.1) az), (fun (v_ : Value) (W : World) => ∃ (aY : Option Addr) (aZ : Nat), v_ = .agg #[.bool ((bigintV (strV ((textV v).1))).1), sv aY ((bigintV (strV ((textV v).1))).2.1) aZ] ∧ SRow W .u32 aY ((bigintV (strV ((textV v).1))).2.1) aZ), ve (iv ((bigintV (strV ((textV v).1))).2.2)), IsNew fy 26 [.bool false, sv none ([]) 0], vt, vt]
   [6] (newsCons (fun v w h => IsNew.old h) newsNil) bd (.eq (.cons (fun v W W' hn ⟨hl, fB, fC, fD, he, h0, h1⟩ => ⟨hl, fB, fC, fD, he, h0.new_ hn, h1.new_ hn⟩) (.cons (fun _ _ _ n ⟨_, _, e, h⟩ => ⟨_, _, e, h.new_ n⟩) (.cons (fun v W W' hn ⟨ay, az, he, h0⟩ => ⟨ay, az, he, h0.new_ hn⟩) (.cons (fun _ _ _ n ⟨_, _, e, h⟩ => ⟨_, _, e, h.new_ n⟩) (.eq (.nw (.tt (.tt (.nil)))))))))) ?_ ?_ ?_
 refine .m (fun k => k.fx 5 fA) ?_
 refine .o1 (tkC rfl (noG rfl) rfl fun _ w hn k => (by
       refine ⟨#[sv aC ((textV v).1) aA], _, args1 (k.eq1 0 74 rfl), fun w => by kernel_rfl, cstr_c _ ((textV v).1) _ _ (dq.new_ hn) (by first | omega | (simp only [List.length_nil, List.length_take, List.length_drop]; omega) | (simp only [List.length_cons, List.length_nil]; omega)), ?_⟩
       rintro e w' ⟨aC, ho, hr, hs, rfl, hmo0, hmo1, hm⟩
       exact ⟨_, rfl, hm, ⟨aC, ho, hr, hs, rfl, hmo0, hmo1⟩⟩)) ?_
 refine .o1 (tkC rfl (noG rfl) rfl fun _ w hn k => (by
       obtain ⟨fE, fF, fG, fH, fI, dt, du⟩ : (VP (strV ((textV v).1))) _ _ := k.dep 1 75 (by kernel_rfl) (by kernel_rfl)
       refine ⟨#[vv (strV ((textV v).1)) fE fF fG fH], _, args1 fI, fun w => by kernel_rfl, cbigint_c (strV ((textV v).1)) _ _ _ _ _ dt du (VOk.str4 (text_units hvv) (by omega)), ?_⟩
       rintro e w' ⟨fJ, fK, rfl, hmo0, hm⟩
       exact ⟨_, rfl, hm, ⟨fJ, fK, rfl, hmo0⟩⟩)) ?_
 refine .o1 (tk rfl rfl fun _ w hn k => (by
       obtain ⟨fL, fM, fN, dw⟩ : (fun (v_ : Value) (W : World) => ∃ (aW : Option Addr) (aX : Nat), v_ = .tuple #[.agg #[.bool ((bigintV (strV ((textV v).1))).1), sv aW ((bigintV (strV ((textV v).1))).2.1) aX], iv ((bigintV (strV ((textV v).1))).2.2)] ∧ SRow W .u32 aW ((bigintV (strV ((textV v).1))).2.1) aX) _ _ := k.dep 2 76 (by kernel_rfl) (by kernel_rfl)
       exact ⟨_, v_move rfl fN, ⟨fL, fM, rfl, dw⟩⟩)) ?_
 refine .o1 (tk rfl rfl fun _ w hn k => (by
       obtain ⟨fO, fP, fQ, dx⟩ : (fun (v_ : Value) (W : World) => ∃ (ay : Option Addr) (az : Nat), v_ = .tuple #[.agg #[.bool ((bigintV (strV ((textV v).1))).1), sv ay ((bigintV (strV ((textV v).1))).2.1) az], iv ((bigintV (strV ((textV v).1))).2.2)] ∧ SRow W .u32 ay ((bigintV (strV ((textV v).1))).2.1) az) _ _ := k.dep 3 73 (by kernel_rfl) (by kernel_rfl)
       exact ⟨_, v_extract rfl fQ rfl, ⟨fO, fP, rfl, dx⟩⟩)) ?_
 refine .o3 ?_
 exact .o2 (step_allocN (cs := [.bool false, sv none ([]) 0]) (t := 26) rfl (noG rfl) (fun _ w hn k => rfl) (fun q _ hq hb => ⟨q, rfl, hq, hb⟩)) <| .off <| .off .nil
 intro i h
 simp only [List.contains_eq_mem, List.mem_cons, List.not_mem_nil, or_false, decide_eq_true_eq] at h
 subst h
 exact eager_takeG rfl (noG rfl) fun _ w hn k => (by
     obtain ⟨ic, id, fR, hD⟩ : (fun (v_ : Value) (W : World) => ∃ (ay : Option Addr) (az : Nat), v_ = .tuple #[.agg #[.bool ((bigintV (strV ((textV v).1))).1), sv ay ((bigintV (strV ((textV v).1))).2.1) az], iv ((bigintV (strV ((textV v).1))).2.2)] ∧ SRow W .u32 ay ((bigintV (strV ((textV v).1))).2.1) az) _ _ := k.dep 3 73 (by kernel_rfl) (by kernel_rfl)
     exact ⟨_, fun w hS => v_extract rfl fR rfl, rfl⟩)
 intro bY ie _ ca a5
 obtain ⟨cb, dy, dz⟩ := aft a5 bd b7 bD ca
 have fS := a5.fx 1 fz
 obtain ⟨bF, bf, bG, dA⟩ : (fun (v_ : Value) (W : World) => ∃ (aY : Option Addr) (aZ : Nat), v_ = .agg #[.bool ((bigintV (strV ((textV v).1))).1), sv aY ((bigintV (strV ((textV v).1))).2.1) aZ] ∧ SRow W .u32 aY ((bigintV (strV ((textV v).1))).2.1) aZ) _ _ := a5.got 4 77 rfl (by kernel_rfl)
 have bG : bY.eval (.tmp 77) = .agg #[.bool ((bigintV (strV ((textV v).1))).1), sv bF ((bigintV (strV ((textV v).1))).2.1) bf] := bG
 have cV := a5.ge 5 78 rfl
 obtain ⟨fT, cW, cc, cd⟩ : IsNew _ _ _ _ _ := a5.got 6 9 rfl (by kernel_rfl)
 have dB := b9.new_ ca
 have hne207 : q9 ≠ fT := by have h1 := b9.lt; have h2 := cc; omega
 have hE := Nat.le_trans bD.size cc
 obtain ⟨ig, -, cX, dC, ce, dD⟩ := s_two (v0 := .bool ((bigintV (strV ((textV v).1))).1)) (v1 := sv bF ((bigintV (strV ((textV v).1))).2.1) bf) Tryd.sizeOf26 rfl rfl rfl cd
 refine st_act rfl rfl fun ih dE => a_store' rfl cW bG cX (dE _ _ trivial ?_)
 have dF := dA.far cd ce (by first | rfl | decide | simp [notK])
 have dG := dD _ _ _ (hne207) dB
 have cf := dz.trans ce (fun _ h b => by subst b; omega)
 refine st_take rfl rfl (y_assign (v := iv ((bigintV (strV ((textV v).1))).2.2)) rfl cV) rfl ?_
 obtain ⟨fU, au⟩ : ∃ a', a' = bY.put (some 10) (iv ((bigintV (strV ((textV v).1))).2.2)) := ⟨_, rfl⟩
 have ch := pz au cb
 have dH := pd au dy
 have fV := pn au fS (by decide)
 have ii := pn au bG (by decide)
 have ij := pn au cV (by decide)
 have fW := pn au cW (by decide)
 have fX : fU.eval (.tmp 10) = iv ((bigintV (strV ((textV v).1))).2.2) := by rw [au]; exact put_same _ _ _ (by rw [cb]; decide)
 show stepsTo _ _ _ _ _ (bY.put (some 10) (iv ((bigintV (strV ((textV v).1))).2.2))) _
 rw [← au]
 refine st_nil (ds _ _ (wp_seq_k fun ik dI => ?_))
 have ci : (decide (((bigintV (strV ((textV v).1))).2.2) = 0)) = true := decide_eq_true hbb1
 have ht := oT ci
 refine wp_g0 (.replicate 12 true) [] 90
   [vT, vT, ve (iv ((bigintV (strV ((textV v).1))).2.2)), vT, vT, vT, ve (.agg #[.bool ((bigintV (strV ((textV v).1))).1), sv bF ((bigintV (strV ((textV v).1))).2.1) bf]), ve (.pointer (some ⟨q9, 3, none⟩)), ve (.agg #[.bool v.neg, sv Av v.mag cv]), ve (.bool (decide (((bigintV (strV ((textV v).1))).1) = v.neg) && decide (((bigintV (strV ((textV v).1))).2.1) = v.mag))), ve (.bool (decide (((bigintV (strV ((textV v).1))).1) = v.neg) && decide (((bigintV (strV ((textV v).1))).2.1) = v.mag))), ve (.bool (decide (((bigintV (strV ((textV v).1))).1) = v.neg) && decide (((bigintV (strV ((textV v).1))).2.1) = v.mag)))] ch (.eq (.eq (.eq (.eq (.eq (.eq (.eq (.eq (.eq (.eq (.eq (.eq (.nil))))))))))))) ?_ ?_
 exact .o1 (ck rfl rfl rfl (fun _ w hn k => ⟨#[], rfl, fun _ => by kernel_rfl, first_c _⟩) fun _ => rfl) <| .m (fun k => k.eq1 0 79 rfl) <| .gm (fun k => k.eq1 1 80 rfl) (fun k => k.fx 10 fX) <| .g (fun k => k.eq1 1 80 rfl) (fun _ w hn k => ⟨_, v_bin rfl (k.eq1 2 81 rfl) rfl (fun _ => rfl) (r_eql ci), rfl⟩) <| .t (fun _ w hn k => ⟨_, v_pickT rfl (k.eq1 1 80 rfl) (k.eq1 3 82 rfl), rfl⟩) <| .m (fun k => k.eq1 4 83 rfl) <| .g (fun k => k.eq1 5 84 rfl) (fun _ w hn k => ⟨_, v_load rfl (k.fx 9 fW) (l_two Tryd.isAgg26 Tryd.sizeOf26 (dC.new_ hn)), rfl⟩) <| .gf (fun k => k.eq1 5 84 rfl) (fun k => k.fx 1 fV) <| .g (fun k => k.eq1 5 84 rfl) (fun _ w hn k => ⟨_, v_load rfl (k.eq1 7 86 rfl) (l_part Tryd.isAgg26 Tryd.sizeOf26 (dG.new_ hn) lb), rfl⟩) <| .o1 (cg rfl rfl rfl (fun _ _ k => k.eq1 5 84 rfl) rfl (fun _ w hn k => ⟨#[.agg #[.bool ((bigintV (strV ((textV v).1))).1), sv bF ((bigintV (strV ((textV v).1))).2.1) bf], .agg #[.bool v.neg, sv Av v.mag cv]], args2 (k.eq1 6 85 rfl) (k.eq1 8 87 rfl), fun _ => by kernel_rfl, rbig_c ((bigintV (strV ((textV v).1))).1) _ ((bigintV (strV ((textV v).1))).2.1) _ v.neg _ v.mag _ _ (dF.new_ hn) (hmv.new_ (cf.transNew hn))⟩) fun _ => rfl) <| .t (fun _ w hn k => ⟨_, v_pickT rfl (k.eq1 5 84 rfl) (k.eq1 9 88 rfl), rfl⟩) <| .a (fun k => k.eq1 10 89 rfl) .nil
 refine aftI ch dH cf fun il im hF dJ dK hG dL => ?_
 have fY := dL.ge 11 2 rfl
 refine st_nil (dI _ _ ?_)
 refine wp_ret (ret_k dJ (v := .bool (decide (((bigintV (strV ((textV v).1))).1) = v.neg) && decide (((bigintV (strV ((textV v).1))).2.1) = v.mag))) (res_t rfl fY _) ?_)
 exact ⟨congrArg (fun b => Ending.returned (.bool b)) (show ((decide (((bigintV (strV ((textV v).1))).1) = v.neg) && decide (((bigintV (strV ((textV v).1))).2.1) = v.mag))) = true from by rw [hbb2, hbb3]; simp), dK⟩
 have dM : cT.eval (.tmp 71) = .bool true := cU.trans (congrArg Value.bool (by rw [be]; rfl))
 refine wp_cond_true dM ?_
 refine wp_seq_k fun io dN => ?_
 refine wp_g0 [true, true] [] 90
   [vT, vT] bd (.eq (.eq (.nil))) ?_ ?_
 exact .o1 (ck rfl rfl rfl (fun _ w hn k => ⟨#[], rfl, fun _ => by kernel_rfl, first_c _⟩) fun _ => rfl) <| .a (fun k => k.eq1 0 72 rfl) .nil
 refine aftI bd b7 bD fun ip iq hH dO dP hI dQ => ?_
 have fZ := dQ.ge 1 2 rfl
 refine st_nil (dN _ _ ?_)
 refine wp_ret (ret_k dO (v := .bool true) (res_t rfl fZ _) ?_)
 exact ⟨rfl, dP⟩
 have cS := oF aJ
 refine wp_g0 (.replicate 8 true) [] 90
   [ve (pv q9), ve (iv v.k), vT, vT, vU, vU, vU, vT] ba (.eq (.eq (.eq (.eq (.eq (.eq (.eq (.eq (.nil))))))))) ?_ ?_
 exact .f (fun k => k.fx 1 bv) <| .t (fun _ w hn k => ⟨_, v_load rfl (k.eq1 0 64 rfl) (l_one Tryd.isAgg3 ((a4.new_ hn).cell 0)), rfl⟩) <| .t (fun _ w hn k => ⟨_, v_bin rfl (k.eq1 1 65 rfl) rfl (fun _ => rfl) (r_neq aJ), rfl⟩) <| .m (fun k => k.eq1 2 66 rfl) <| .s (fun k => k.eq1 3 67 rfl) <| .s (fun k => k.eq1 3 67 rfl) <| .s (fun k => k.eq1 3 67 rfl) <| .t (fun _ w hn k => ⟨_, v_pickT rfl (k.eq1 3 67 rfl) rfl, rfl⟩) .nil
 refine aftI ba b4 bb fun ir it cj dR dS cl bH => ?_
 have iu := bH.fx 1 bv
 have iw := bH.fx 5 cR
 have f0 := bH.ge 7 71 rfl
 have hJ := a4.new_ cl
 have hK := b5.new_ cl
 refine st_nil (b6 _ _ ?_)
 refine wp_cond_true f0 ?_
 refine wp_seq_k fun ix dT => ?_
 refine wp_g0 [true, true] [] 90
   [vT, vT] cj (.eq (.eq (.nil))) ?_ ?_
 exact .o1 (ck rfl rfl rfl (fun _ w hn k => ⟨#[], rfl, fun _ => by kernel_rfl, first_c _⟩) fun _ => rfl) <| .a (fun k => k.eq1 0 72 rfl) .nil
 refine aftI cj dR dS fun iy iz hL dU dV hM dW => ?_
 have f1 := dW.ge 1 2 rfl
 refine st_nil (dT _ _ ?_)
 refine wp_ret (ret_k dU (v := .bool true) (res_t rfl f1 _) ?_)
 exact ⟨rfl, dV⟩
 intro iA av
 rcases bc (decide (((numericV v).2) = 0)) with ak | ak
 have cY := oT ak
 rcases bc (decide (((textV v).2) = 0)) with aw | aw
 have cZ := oT aw
 rcases bc (decide (((bigintV v).2.2) = 0)) with aK | aK
 have c0 := oT aK
 refine wp_g0 (.replicate 32 true) [] 90
   [ve (vv (numericV v).1 ad ab af ac), vT, vF, vF, ve (iv ((numericV v).2)), vF, vF, vU, vU, vU, vU, vF, vF, vF, ve (iv ((textV v).2)), vF, vF, vU, vU, vU, vF, vF, vF, ve (iv ((bigintV v).2.2)), vF, vF, vU, vU, vU, vU, vF, vF] ae (.eq (.eq (.eq (.eq (.eq (.eq (.eq (.eq (.eq (.eq (.eq (.eq (.eq (.eq (.eq (.eq (.eq (.eq (.eq (.eq (.eq (.eq (.eq (.eq (.eq (.eq (.eq (.eq (.eq (.eq (.eq (.eq (.nil))))))))))))))))))))))))))))))))) ?_ ?_
 exact .t (fun _ w hn k => ⟨_, v_load rfl (k.fx 3 al) (l_agg Tryd.isAgg29 Tryd.sizeOf29 (ai.new_ hn) rfl), rfl⟩) <| .o1 (ck rfl rfl rfl (fun _ w hn k => ⟨#[vv (numericV v).1 ad ab af ac], args1 (k.eq1 0 32 rfl), fun _ => by kernel_rfl, vmay_c ((numericV v).1) _ _ _ _ _ (ag.new_ hn) (ah.new_ hn)⟩) fun _ => congrArg Value.bool (numeric_may _)) <| .t (fun _ w hn k => ⟨_, v_not rfl (k.eq1 1 33 rfl), rfl⟩) <| .m (fun k => k.eq1 2 34 rfl) <| .gm (fun k => k.eq1 3 35 rfl) (fun k => k.fx 4 aE) <| .g (fun k => k.eq1 3 35 rfl) (fun _ w hn k => ⟨_, v_bin rfl (k.eq1 4 36 rfl) rfl (fun _ => rfl) (r_neq ak), rfl⟩) <| .gm (fun k => k.eq1 3 35 rfl) (fun k => k.eq1 5 37 rfl) <| .s (fun k => k.eq1 6 38 rfl) <| .s (fun k => k.eq1 6 38 rfl) <| .s (fun k => k.eq1 6 38 rfl) <| .s (fun k => k.eq1 6 38 rfl) <| .g (fun k => k.eq1 3 35 rfl) (fun _ w hn k => ⟨_, v_pickF rfl (k.eq1 6 38 rfl) rfl, rfl⟩) <| .t (fun _ w hn k => ⟨_, v_pickF rfl (k.eq1 3 35 rfl) (k.eq1 11 43 rfl), rfl⟩) <| .m (fun k => k.eq1 12 44 rfl) <| .gm (fun k => k.eq1 13 45 rfl) (fun k => k.fx 6 aF) <| .g (fun k => k.eq1 13 45 rfl) (fun _ w hn k => ⟨_, v_bin rfl (k.eq1 14 46 rfl) rfl (fun _ => rfl) (r_neq aw), rfl⟩) <| .gm (fun k => k.eq1 13 45 rfl) (fun k => k.eq1 15 47 rfl) <| .s (fun k => k.eq1 16 48 rfl) <| .s (fun k => k.eq1 16 48 rfl) <| .s (fun k => k.eq1 16 48 rfl) <| .g (fun k => k.eq1 13 45 rfl) (fun _ w hn k => ⟨_, v_pickF rfl (k.eq1 16 48 rfl) rfl, rfl⟩) <| .t (fun _ w hn k => ⟨_, v_pickF rfl (k.eq1 13 45 rfl) (k.eq1 20 52 rfl), rfl⟩) <| .m (fun k => k.eq1 21 53 rfl) <| .gm (fun k => k.eq1 22 54 rfl) (fun k => k.fx 8 aG) <| .g (fun k => k.eq1 22 54 rfl) (fun _ w hn k => ⟨_, v_bin rfl (k.eq1 23 55 rfl) rfl (fun _ => rfl) (r_neq aK), rfl⟩) <| .gm (fun k => k.eq1 22 54 rfl) (fun k => k.eq1 24 56 rfl) <| .s (fun k => k.eq1 25 57 rfl) <| .s (fun k => k.eq1 25 57 rfl) <| .s (fun k => k.eq1 25 57 rfl) <| .s (fun k => k.eq1 25 57 rfl) <| .g (fun k => k.eq1 22 54 rfl) (fun _ w hn k => ⟨_, v_pickF rfl (k.eq1 25 57 rfl) rfl, rfl⟩) <| .t (fun _ w hn k => ⟨_, v_pickF rfl (k.eq1 22 54 rfl) (k.eq1 30 62 rfl), rfl⟩) .nil
 refine aftI ae ar aq fun iB iC dX dY dZ cm bI => ?_
 have f2 := bI.fx 1 aD
 have f3 := bI.fx 5 am
 have f4 := bI.ge 31 63 rfl
 have d0 := ap.new_ cm
 have d1 := ao.new_ cm
 refine st_nil ?_
 exact av _ _ ⟨dX, dY, dZ, f4, f2, f3, d0, d1⟩
 have c0 := oF aK
 have cn : (decide ((((bigintV v).2.1).length : Int) = 0)) = true := by rw [bigint_no (oF aK)]; rfl
 have hu := oT cn
 refine wp_g0 (.replicate 32 true) [] 90
   [ve (vv (numericV v).1 ad ab af ac), vT, vF, vF, ve (iv ((numericV v).2)), vF, vF, vU, vU, vU, vU, vF, vF, vF, ve (iv ((textV v).2)), vF, vF, vU, vU, vU, vF, vF, vF, ve (iv ((bigintV v).2.2)), vT, vT, ve (.pointer (some ⟨a7, 1, none⟩)), ve (sv a6 ((bigintV v).2.1) aI), ve (iv (((bigintV v).2.1).length : Int)), vF, vF, vF] ae (.eq (.eq (.eq (.eq (.eq (.eq (.eq (.eq (.eq (.eq (.eq (.eq (.eq (.eq (.eq (.eq (.eq (.eq (.eq (.eq (.eq (.eq (.eq (.eq (.eq (.eq (.eq (.eq (.eq (.eq (.eq (.eq (.nil))))))))))))))))))))))))))))))))) ?_ ?_
 exact .t (fun _ w hn k => ⟨_, v_load rfl (k.fx 3 al) (l_agg Tryd.isAgg29 Tryd.sizeOf29 (ai.new_ hn) rfl), rfl⟩) <| .o1 (ck rfl rfl rfl (fun _ w hn k => ⟨#[vv (numericV v).1 ad ab af ac], args1 (k.eq1 0 32 rfl), fun _ => by kernel_rfl, vmay_c ((numericV v).1) _ _ _ _ _ (ag.new_ hn) (ah.new_ hn)⟩) fun _ => congrArg Value.bool (numeric_may _)) <| .t (fun _ w hn k => ⟨_, v_not rfl (k.eq1 1 33 rfl), rfl⟩) <| .m (fun k => k.eq1 2 34 rfl) <| .gm (fun k => k.eq1 3 35 rfl) (fun k => k.fx 4 aE) <| .g (fun k => k.eq1 3 35 rfl) (fun _ w hn k => ⟨_, v_bin rfl (k.eq1 4 36 rfl) rfl (fun _ => rfl) (r_neq ak), rfl⟩) <| .gm (fun k => k.eq1 3 35 rfl) (fun k => k.eq1 5 37 rfl) <| .s (fun k => k.eq1 6 38 rfl) <| .s (fun k => k.eq1 6 38 rfl) <| .s (fun k => k.eq1 6 38 rfl) <| .s (fun k => k.eq1 6 38 rfl) <| .g (fun k => k.eq1 3 35 rfl) (fun _ w hn k => ⟨_, v_pickF rfl (k.eq1 6 38 rfl) rfl, rfl⟩) <| .t (fun _ w hn k => ⟨_, v_pickF rfl (k.eq1 3 35 rfl) (k.eq1 11 43 rfl), rfl⟩) <| .m (fun k => k.eq1 12 44 rfl) <| .gm (fun k => k.eq1 13 45 rfl) (fun k => k.fx 6 aF) <| .g (fun k => k.eq1 13 45 rfl) (fun _ w hn k => ⟨_, v_bin rfl (k.eq1 14 46 rfl) rfl (fun _ => rfl) (r_neq aw), rfl⟩) <| .gm (fun k => k.eq1 13 45 rfl) (fun k => k.eq1 15 47 rfl) <| .s (fun k => k.eq1 16 48 rfl) <| .s (fun k => k.eq1 16 48 rfl) <| .s (fun k => k.eq1 16 48 rfl) <| .g (fun k => k.eq1 13 45 rfl) (fun _ w hn k => ⟨_, v_pickF rfl (k.eq1 16 48 rfl) rfl, rfl⟩) <| .t (fun _ w hn k => ⟨_, v_pickF rfl (k.eq1 13 45 rfl) (k.eq1 20 52 rfl), rfl⟩) <| .m (fun k => k.eq1 21 53 rfl) <| .gm (fun k => k.eq1 22 54 rfl) (fun k => k.fx 8 aG) <| .g (fun k => k.eq1 22 54 rfl) (fun _ w hn k => ⟨_, v_bin rfl (k.eq1 23 55 rfl) rfl (fun _ => rfl) (r_neq aK), rfl⟩) <| .gm (fun k => k.eq1 22 54 rfl) (fun k => k.eq1 24 56 rfl) <| .gf (fun k => k.eq1 25 57 rfl) (fun k => k.fx 7 bC) <| .g (fun k => k.eq1 25 57 rfl) (fun _ w hn k => ⟨_, v_load rfl (k.eq1 26 58 rfl) (l_one Tryd.isAgg24 ((a9.new_ hn).cell 1)), rfl⟩) <| .g (fun k => k.eq1 25 57 rfl) (fun _ w hn k => ⟨_, v_lenR rfl elW (k.eq1 27 59 rfl), rfl⟩) <| .g (fun k => k.eq1 25 57 rfl) (fun _ w hn k => ⟨_, v_bin rfl (k.eq1 28 60 rfl) rfl (fun _ => rfl) (r_neq cn), rfl⟩) <| .g (fun k => k.eq1 22 54 rfl) (fun _ w hn k => ⟨_, v_pickT rfl (k.eq1 25 57 rfl) (k.eq1 29 61 rfl), rfl⟩) <| .t (fun _ w hn k => ⟨_, v_pickF rfl (k.eq1 22 54 rfl) (k.eq1 30 62 rfl), rfl⟩) .nil
 refine aftI ae ar aq fun iD iE d2 d3 d4 co bJ => ?_
 have f5 := bJ.fx 1 aD
 have f6 := bJ.fx 5 am
 have f7 := bJ.ge 31 63 rfl
 have d5 := ap.new_ co
 have d6 := ao.new_ co
 refine st_nil ?_
 exact av _ _ ⟨d2, d3, d4, f7, f5, f6, d5, d6⟩
 have cZ := oF aw
 have bK : (decide ((((textV v).1).length : Int) = 0)) = true := by rw [text_no (oF aw)]; rfl
 have hv := oT bK
 rcases bc (decide (((bigintV v).2.2) = 0)) with aL | aL
 have c1 := oT aL
 refine wp_g0 (.replicate 32 true) [] 90
   [ve (vv (numericV v).1 ad ab af ac), vT, vF, vF, ve (iv ((numericV v).2)), vF, vF, vU, vU, vU, vU, vF, vF, vF, ve (iv ((textV v).2)), vT, vT, ve (sv aC ((textV v).1) aA), ve (iv (((textV v).1).length : Int)), vF, vF, vF, vF, ve (iv ((bigintV v).2.2)), vF, vF, vU, vU, vU, vU, vF, vF] ae (.eq (.eq (.eq (.eq (.eq (.eq (.eq (.eq (.eq (.eq (.eq (.eq (.eq (.eq (.eq (.eq (.eq (.eq (.eq (.eq (.eq (.eq (.eq (.eq (.eq (.eq (.eq (.eq (.eq (.eq (.eq (.eq (.nil))))))))))))))))))))))))))))))))) ?_ ?_
 exact .t (fun _ w hn k => ⟨_, v_load rfl (k.fx 3 al) (l_agg Tryd.isAgg29 Tryd.sizeOf29 (ai.new_ hn) rfl), rfl⟩) <| .o1 (ck rfl rfl rfl (fun _ w hn k => ⟨#[vv (numericV v).1 ad ab af ac], args1 (k.eq1 0 32 rfl), fun _ => by kernel_rfl, vmay_c ((numericV v).1) _ _ _ _ _ (ag.new_ hn) (ah.new_ hn)⟩) fun _ => congrArg Value.bool (numeric_may _)) <| .t (fun _ w hn k => ⟨_, v_not rfl (k.eq1 1 33 rfl), rfl⟩) <| .m (fun k => k.eq1 2 34 rfl) <| .gm (fun k => k.eq1 3 35 rfl) (fun k => k.fx 4 aE) <| .g (fun k => k.eq1 3 35 rfl) (fun _ w hn k => ⟨_, v_bin rfl (k.eq1 4 36 rfl) rfl (fun _ => rfl) (r_neq ak), rfl⟩) <| .gm (fun k => k.eq1 3 35 rfl) (fun k => k.eq1 5 37 rfl) <| .s (fun k => k.eq1 6 38 rfl) <| .s (fun k => k.eq1 6 38 rfl) <| .s (fun k => k.eq1 6 38 rfl) <| .s (fun k => k.eq1 6 38 rfl) <| .g (fun k => k.eq1 3 35 rfl) (fun _ w hn k => ⟨_, v_pickF rfl (k.eq1 6 38 rfl) rfl, rfl⟩) <| .t (fun _ w hn k => ⟨_, v_pickF rfl (k.eq1 3 35 rfl) (k.eq1 11 43 rfl), rfl⟩) <| .m (fun k => k.eq1 12 44 rfl) <| .gm (fun k => k.eq1 13 45 rfl) (fun k => k.fx 6 aF) <| .g (fun k => k.eq1 13 45 rfl) (fun _ w hn k => ⟨_, v_bin rfl (k.eq1 14 46 rfl) rfl (fun _ => rfl) (r_neq aw), rfl⟩) <| .gm (fun k => k.eq1 13 45 rfl) (fun k => k.eq1 15 47 rfl) <| .gm (fun k => k.eq1 16 48 rfl) (fun k => k.fx 5 am) <| .g (fun k => k.eq1 16 48 rfl) (fun _ w hn k => ⟨_, v_lenR rfl elU (k.eq1 17 49 rfl), rfl⟩) <| .g (fun k => k.eq1 16 48 rfl) (fun _ w hn k => ⟨_, v_bin rfl (k.eq1 18 50 rfl) rfl (fun _ => rfl) (r_neq bK), rfl⟩) <| .g (fun k => k.eq1 13 45 rfl) (fun _ w hn k => ⟨_, v_pickT rfl (k.eq1 16 48 rfl) (k.eq1 19 51 rfl), rfl⟩) <| .t (fun _ w hn k => ⟨_, v_pickF rfl (k.eq1 13 45 rfl) (k.eq1 20 52 rfl), rfl⟩) <| .m (fun k => k.eq1 21 53 rfl) <| .gm (fun k => k.eq1 22 54 rfl) (fun k => k.fx 8 aG) <| .g (fun k => k.eq1 22 54 rfl) (fun _ w hn k => ⟨_, v_bin rfl (k.eq1 23 55 rfl) rfl (fun _ => rfl) (r_neq aL), rfl⟩) <| .gm (fun k => k.eq1 22 54 rfl) (fun k => k.eq1 24 56 rfl) <| .s (fun k => k.eq1 25 57 rfl) <| .s (fun k => k.eq1 25 57 rfl) <| .s (fun k => k.eq1 25 57 rfl) <| .s (fun k => k.eq1 25 57 rfl) <| .g (fun k => k.eq1 22 54 rfl) (fun _ w hn k => ⟨_, v_pickF rfl (k.eq1 25 57 rfl) rfl, rfl⟩) <| .t (fun _ w hn k => ⟨_, v_pickF rfl (k.eq1 22 54 rfl) (k.eq1 30 62 rfl), rfl⟩) .nil
 refine aftI ae ar aq fun iF iG d7 d8 d9 cp bL => ?_
 have f8 := bL.fx 1 aD
 have f9 := bL.fx 5 am
 have ga := bL.ge 31 63 rfl
 have ea := ap.new_ cp
 have eb := ao.new_ cp
 refine st_nil ?_
 exact av _ _ ⟨d7, d8, d9, ga, f8, f9, ea, eb⟩
 have c1 := oF aL
 have cq : (decide ((((bigintV v).2.1).length : Int) = 0)) = true := by rw [bigint_no (oF aL)]; rfl
 have hw := oT cq
 refine wp_g0 (.replicate 32 true) [] 90
   [ve (vv (numericV v).1 ad ab af ac), vT, vF, vF, ve (iv ((numericV v).2)), vF, vF, vU, vU, vU, vU, vF, vF, vF, ve (iv ((textV v).2)), vT, vT, ve (sv aC ((textV v).1) aA), ve (iv (((textV v).1).length : Int)), vF, vF, vF, vF, ve (iv ((bigintV v).2.2)), vT, vT, ve (.pointer (some ⟨a7, 1, none⟩)), ve (sv a6 ((bigintV v).2.1) aI), ve (iv (((bigintV v).2.1).length : Int)), vF, vF, vF] ae (.eq (.eq (.eq (.eq (.eq (.eq (.eq (.eq (.eq (.eq (.eq (.eq (.eq (.eq (.eq (.eq (.eq (.eq (.eq (.eq (.eq (.eq (.eq (.eq (.eq (.eq (.eq (.eq (.eq (.eq (.eq (.eq (.nil))))))))))))))))))))))))))))))))) ?_ ?_
 exact .t (fun _ w hn k => ⟨_, v_load rfl (k.fx 3 al) (l_agg Tryd.isAgg29 Tryd.sizeOf29 (ai.new_ hn) rfl), rfl⟩) <| .o1 (ck rfl rfl rfl (fun _ w hn k => ⟨#[vv (numericV v).1 ad ab af ac], args1 (k.eq1 0 32 rfl), fun _ => by kernel_rfl, vmay_c ((numericV v).1) _ _ _ _ _ (ag.new_ hn) (ah.new_ hn)⟩) fun _ => congrArg Value.bool (numeric_may _)) <| .t (fun _ w hn k => ⟨_, v_not rfl (k.eq1 1 33 rfl), rfl⟩) <| .m (fun k => k.eq1 2 34 rfl) <| .gm (fun k => k.eq1 3 35 rfl) (fun k => k.fx 4 aE) <| .g (fun k => k.eq1 3 35 rfl) (fun _ w hn k => ⟨_, v_bin rfl (k.eq1 4 36 rfl) rfl (fun _ => rfl) (r_neq ak), rfl⟩) <| .gm (fun k => k.eq1 3 35 rfl) (fun k => k.eq1 5 37 rfl) <| .s (fun k => k.eq1 6 38 rfl) <| .s (fun k => k.eq1 6 38 rfl) <| .s (fun k => k.eq1 6 38 rfl) <| .s (fun k => k.eq1 6 38 rfl) <| .g (fun k => k.eq1 3 35 rfl) (fun _ w hn k => ⟨_, v_pickF rfl (k.eq1 6 38 rfl) rfl, rfl⟩) <| .t (fun _ w hn k => ⟨_, v_pickF rfl (k.eq1 3 35 rfl) (k.eq1 11 43 rfl), rfl⟩) <| .m (fun k => k.eq1 12 44 rfl) <| .gm (fun k => k.eq1 13 45 rfl) (fun k => k.fx 6 aF) <| .g (fun k => k.eq1 13 45 rfl) (fun _ w hn k => ⟨_, v_bin rfl (k.eq1 14 46 rfl) rfl (fun _ => rfl) (r_neq aw), rfl⟩) <| .gm (fun k => k.eq1 13 45 rfl) (fun k => k.eq1 15 47 rfl) <| .gm (fun k => k.eq1 16 48 rfl) (fun k => k.fx 5 am) <| .g (fun k => k.eq1 16 48 rfl) (fun _ w hn k => ⟨_, v_lenR rfl elU (k.eq1 17 49 rfl), rfl⟩) <| .g (fun k => k.eq1 16 48 rfl) (fun _ w hn k => ⟨_, v_bin rfl (k.eq1 18 50 rfl) rfl (fun _ => rfl) (r_neq bK), rfl⟩) <| .g (fun k => k.eq1 13 45 rfl) (fun _ w hn k => ⟨_, v_pickT rfl (k.eq1 16 48 rfl) (k.eq1 19 51 rfl), rfl⟩) <| .t (fun _ w hn k => ⟨_, v_pickF rfl (k.eq1 13 45 rfl) (k.eq1 20 52 rfl), rfl⟩) <| .m (fun k => k.eq1 21 53 rfl) <| .gm (fun k => k.eq1 22 54 rfl) (fun k => k.fx 8 aG) <| .g (fun k => k.eq1 22 54 rfl) (fun _ w hn k => ⟨_, v_bin rfl (k.eq1 23 55 rfl) rfl (fun _ => rfl) (r_neq aL), rfl⟩) <| .gm (fun k => k.eq1 22 54 rfl) (fun k => k.eq1 24 56 rfl) <| .gf (fun k => k.eq1 25 57 rfl) (fun k => k.fx 7 bC) <| .g (fun k => k.eq1 25 57 rfl) (fun _ w hn k => ⟨_, v_load rfl (k.eq1 26 58 rfl) (l_one Tryd.isAgg24 ((a9.new_ hn).cell 1)), rfl⟩) <| .g (fun k => k.eq1 25 57 rfl) (fun _ w hn k => ⟨_, v_lenR rfl elW (k.eq1 27 59 rfl), rfl⟩) <| .g (fun k => k.eq1 25 57 rfl) (fun _ w hn k => ⟨_, v_bin rfl (k.eq1 28 60 rfl) rfl (fun _ => rfl) (r_neq cq), rfl⟩) <| .g (fun k => k.eq1 22 54 rfl) (fun _ w hn k => ⟨_, v_pickT rfl (k.eq1 25 57 rfl) (k.eq1 29 61 rfl), rfl⟩) <| .t (fun _ w hn k => ⟨_, v_pickF rfl (k.eq1 22 54 rfl) (k.eq1 30 62 rfl), rfl⟩) .nil
 refine aftI ae ar aq fun iH iI ec ed ee cr bM => ?_
 have gb := bM.fx 1 aD
 have gc := bM.fx 5 am
 have gd := bM.ge 31 63 rfl
 have ef := ap.new_ cr
 have eg := ao.new_ cr
 refine st_nil ?_
 exact av _ _ ⟨ec, ed, ee, gd, gb, gc, ef, eg⟩
 have cY := oF ak
 have bg : (!(sameV ((numericV v).1) (Vl.mk 0 0 0 false [] [] 0))) = false := by rw [show (sameV ((numericV v).1) (Vl.mk 0 0 0 false [] [] 0)) = true from by rw [numeric_no (oF ak)]; rfl]; rfl
 rcases bc (decide (((textV v).2) = 0)) with ax | ax
 have c3 := oT ax
 rcases bc (decide (((bigintV v).2.2) = 0)) with aM | aM
 have c5 := oT aM
 refine wp_g0 (.replicate 32 true) [] 90
   [ve (vv (numericV v).1 ad ab af ac), vT, vF, vF, ve (iv ((numericV v).2)), vT, vT, ve (vv (numericV v).1 ad ab af ac), ve (vv (Vl.mk 0 0 0 false [] [] 0) none 0 none 0), ve (.bool (sameV ((numericV v).1) (Vl.mk 0 0 0 false [] [] 0))), vF, vF, vF, vF, ve (iv ((textV v).2)), vF, vF, vU, vU, vU, vF, vF, vF, ve (iv ((bigintV v).2.2)), vF, vF, vU, vU, vU, vU, vF, vF] ae (.eq (.eq (.eq (.eq (.eq (.eq (.eq (.eq (.eq (.eq (.eq (.eq (.eq (.eq (.eq (.eq (.eq (.eq (.eq (.eq (.eq (.eq (.eq (.eq (.eq (.eq (.eq (.eq (.eq (.eq (.eq (.eq (.nil))))))))))))))))))))))))))))))))) ?_ ?_
 exact .t (fun _ w hn k => ⟨_, v_load rfl (k.fx 3 al) (l_agg Tryd.isAgg29 Tryd.sizeOf29 (ai.new_ hn) rfl), rfl⟩) <| .o1 (ck rfl rfl rfl (fun _ w hn k => ⟨#[vv (numericV v).1 ad ab af ac], args1 (k.eq1 0 32 rfl), fun _ => by kernel_rfl, vmay_c ((numericV v).1) _ _ _ _ _ (ag.new_ hn) (ah.new_ hn)⟩) fun _ => congrArg Value.bool (numeric_may _)) <| .t (fun _ w hn k => ⟨_, v_not rfl (k.eq1 1 33 rfl), rfl⟩) <| .m (fun k => k.eq1 2 34 rfl) <| .gm (fun k => k.eq1 3 35 rfl) (fun k => k.fx 4 aE) <| .g (fun k => k.eq1 3 35 rfl) (fun _ w hn k => ⟨_, v_bin rfl (k.eq1 4 36 rfl) rfl (fun _ => rfl) (r_neq ak), rfl⟩) <| .gm (fun k => k.eq1 3 35 rfl) (fun k => k.eq1 5 37 rfl) <| .g (fun k => k.eq1 6 38 rfl) (fun _ w hn k => ⟨_, v_load rfl (k.fx 3 al) (l_agg Tryd.isAgg29 Tryd.sizeOf29 (ai.new_ hn) rfl), rfl⟩) <| .g (fun k => k.eq1 6 38 rfl) (fun _ w hn k => ⟨_, v_build (ps := []) rfl parts0 (by kernel_rfl), rfl⟩) <| .o1 (cg rfl rfl rfl (fun _ _ k => k.eq1 6 38 rfl) rfl (fun _ w hn k => ⟨#[vv (numericV v).1 ad ab af ac, vv (Vl.mk 0 0 0 false [] [] 0) none 0 none 0], args2 (k.eq1 7 39 rfl) (k.eq1 8 40 rfl), fun _ => by kernel_rfl, vsame_c ((numericV v).1) _ _ _ _ (Vl.mk 0 0 0 false [] [] 0) _ _ _ _ _ (ag.new_ hn) (ah.new_ hn) (SRow.nil _ _) (SRow.nil _ _)⟩) fun _ => rfl) <| .o1 (tg rfl rfl rfl (fun _ _ k => k.eq1 6 38 rfl) fun _ w hn k => ⟨_, v_not rfl (k.eq1 9 41 rfl), congrArg Value.bool bg⟩) <| .g (fun k => k.eq1 3 35 rfl) (fun _ w hn k => ⟨_, v_pickT rfl (k.eq1 6 38 rfl) (k.eq1 10 42 rfl), rfl⟩) <| .t (fun _ w hn k => ⟨_, v_pickF rfl (k.eq1 3 35 rfl) (k.eq1 11 43 rfl), rfl⟩) <| .m (fun k => k.eq1 12 44 rfl) <| .gm (fun k => k.eq1 13 45 rfl) (fun k => k.fx 6 aF) <| .g (fun k => k.eq1 13 45 rfl) (fun _ w hn k => ⟨_, v_bin rfl (k.eq1 14 46 rfl) rfl (fun _ => rfl) (r_neq ax), rfl⟩) <| .gm (fun k => k.eq1 13 45 rfl) (fun k => k.eq1 15 47 rfl) <| .s (fun k => k.eq1 16 48 rfl) <| .s (fun k => k.eq1 16 48 rfl) <| .s (fun k => k.eq1 16 48 rfl) <| .g (fun k => k.eq1 13 45 rfl) (fun _ w hn k => ⟨_, v_pickF rfl (k.eq1 16 48 rfl) rfl, rfl⟩) <| .t (fun _ w hn k => ⟨_, v_pickF rfl (k.eq1 13 45 rfl) (k.eq1 20 52 rfl), rfl⟩) <| .m (fun k => k.eq1 21 53 rfl) <| .gm (fun k => k.eq1 22 54 rfl) (fun k => k.fx 8 aG) <| .g (fun k => k.eq1 22 54 rfl) (fun _ w hn k => ⟨_, v_bin rfl (k.eq1 23 55 rfl) rfl (fun _ => rfl) (r_neq aM), rfl⟩) <| .gm (fun k => k.eq1 22 54 rfl) (fun k => k.eq1 24 56 rfl) <| .s (fun k => k.eq1 25 57 rfl) <| .s (fun k => k.eq1 25 57 rfl) <| .s (fun k => k.eq1 25 57 rfl) <| .s (fun k => k.eq1 25 57 rfl) <| .g (fun k => k.eq1 22 54 rfl) (fun _ w hn k => ⟨_, v_pickF rfl (k.eq1 25 57 rfl) rfl, rfl⟩) <| .t (fun _ w hn k => ⟨_, v_pickF rfl (k.eq1 22 54 rfl) (k.eq1 30 62 rfl), rfl⟩) .nil
 refine aftI ae ar aq fun iJ iK eh ei ej ct bN => ?_
 have gg := bN.fx 1 aD
 have gh := bN.fx 5 am
 have gi := bN.ge 31 63 rfl
 have ek := ap.new_ ct
 have el := ao.new_ ct
 refine st_nil ?_
 exact av _ _ ⟨eh, ei, ej, gi, gg, gh, ek, el⟩
 have c5 := oF aM
 have cu : (decide ((((bigintV v).2.1).length : Int) = 0)) = true := by rw [bigint_no (oF aM)]; rfl
 have hx := oT cu
 refine wp_g0 (.replicate 32 true) [] 90
   [ve (vv (numericV v).1 ad ab af ac), vT, vF, vF, ve (iv ((numericV v).2)), vT, vT, ve (vv (numericV v).1 ad ab af ac), ve (vv (Vl.mk 0 0 0 false [] [] 0) none 0 none 0), ve (.bool (sameV ((numericV v).1) (Vl.mk 0 0 0 false [] [] 0))), vF, vF, vF, vF, ve (iv ((textV v).2)), vF, vF, vU, vU, vU, vF, vF, vF, ve (iv ((bigintV v).2.2)), vT, vT, ve (.pointer (some ⟨a7, 1, none⟩)), ve (sv a6 ((bigintV v).2.1) aI), ve (iv (((bigintV v).2.1).length : Int)), vF, vF, vF] ae (.eq (.eq (.eq (.eq (.eq (.eq (.eq (.eq (.eq (.eq (.eq (.eq (.eq (.eq (.eq (.eq (.eq (.eq (.eq (.eq (.eq (.eq (.eq (.eq (.eq (.eq (.eq (.eq (.eq (.eq (.eq (.eq (.nil))))))))))))))))))))))))))))))))) ?_ ?_
 exact .t (fun _ w hn k => ⟨_, v_load rfl (k.fx 3 al) (l_agg Tryd.isAgg29 Tryd.sizeOf29 (ai.new_ hn) rfl), rfl⟩) <| .o1 (ck rfl rfl rfl (fun _ w hn k => ⟨#[vv (numericV v).1 ad ab af ac], args1 (k.eq1 0 32 rfl), fun _ => by kernel_rfl, vmay_c ((numericV v).1) _ _ _ _ _ (ag.new_ hn) (ah.new_ hn)⟩) fun _ => congrArg Value.bool (numeric_may _)) <| .t (fun _ w hn k => ⟨_, v_not rfl (k.eq1 1 33 rfl), rfl⟩) <| .m (fun k => k.eq1 2 34 rfl) <| .gm (fun k => k.eq1 3 35 rfl) (fun k => k.fx 4 aE) <| .g (fun k => k.eq1 3 35 rfl) (fun _ w hn k => ⟨_, v_bin rfl (k.eq1 4 36 rfl) rfl (fun _ => rfl) (r_neq ak), rfl⟩) <| .gm (fun k => k.eq1 3 35 rfl) (fun k => k.eq1 5 37 rfl) <| .g (fun k => k.eq1 6 38 rfl) (fun _ w hn k => ⟨_, v_load rfl (k.fx 3 al) (l_agg Tryd.isAgg29 Tryd.sizeOf29 (ai.new_ hn) rfl), rfl⟩) <| .g (fun k => k.eq1 6 38 rfl) (fun _ w hn k => ⟨_, v_build (ps := []) rfl parts0 (by kernel_rfl), rfl⟩) <| .o1 (cg rfl rfl rfl (fun _ _ k => k.eq1 6 38 rfl) rfl (fun _ w hn k => ⟨#[vv (numericV v).1 ad ab af ac, vv (Vl.mk 0 0 0 false [] [] 0) none 0 none 0], args2 (k.eq1 7 39 rfl) (k.eq1 8 40 rfl), fun _ => by kernel_rfl, vsame_c ((numericV v).1) _ _ _ _ (Vl.mk 0 0 0 false [] [] 0) _ _ _ _ _ (ag.new_ hn) (ah.new_ hn) (SRow.nil _ _) (SRow.nil _ _)⟩) fun _ => rfl) <| .o1 (tg rfl rfl rfl (fun _ _ k => k.eq1 6 38 rfl) fun _ w hn k => ⟨_, v_not rfl (k.eq1 9 41 rfl), congrArg Value.bool bg⟩) <| .g (fun k => k.eq1 3 35 rfl) (fun _ w hn k => ⟨_, v_pickT rfl (k.eq1 6 38 rfl) (k.eq1 10 42 rfl), rfl⟩) <| .t (fun _ w hn k => ⟨_, v_pickF rfl (k.eq1 3 35 rfl) (k.eq1 11 43 rfl), rfl⟩) <| .m (fun k => k.eq1 12 44 rfl) <| .gm (fun k => k.eq1 13 45 rfl) (fun k => k.fx 6 aF) <| .g (fun k => k.eq1 13 45 rfl) (fun _ w hn k => ⟨_, v_bin rfl (k.eq1 14 46 rfl) rfl (fun _ => rfl) (r_neq ax), rfl⟩) <| .gm (fun k => k.eq1 13 45 rfl) (fun k => k.eq1 15 47 rfl) <| .s (fun k => k.eq1 16 48 rfl) <| .s (fun k => k.eq1 16 48 rfl) <| .s (fun k => k.eq1 16 48 rfl) <| .g (fun k => k.eq1 13 45 rfl) (fun _ w hn k => ⟨_, v_pickF rfl (k.eq1 16 48 rfl) rfl, rfl⟩) <| .t (fun _ w hn k => ⟨_, v_pickF rfl (k.eq1 13 45 rfl) (k.eq1 20 52 rfl), rfl⟩) <| .m (fun k => k.eq1 21 53 rfl) <| .gm (fun k => k.eq1 22 54 rfl) (fun k => k.fx 8 aG) <| .g (fun k => k.eq1 22 54 rfl) (fun _ w hn k => ⟨_, v_bin rfl (k.eq1 23 55 rfl) rfl (fun _ => rfl) (r_neq aM), rfl⟩) <| .gm (fun k => k.eq1 22 54 rfl) (fun k => k.eq1 24 56 rfl) <| .gf (fun k => k.eq1 25 57 rfl) (fun k => k.fx 7 bC) <| .g (fun k => k.eq1 25 57 rfl) (fun _ w hn k => ⟨_, v_load rfl (k.eq1 26 58 rfl) (l_one Tryd.isAgg24 ((a9.new_ hn).cell 1)), rfl⟩) <| .g (fun k => k.eq1 25 57 rfl) (fun _ w hn k => ⟨_, v_lenR rfl elW (k.eq1 27 59 rfl), rfl⟩) <| .g (fun k => k.eq1 25 57 rfl) (fun _ w hn k => ⟨_, v_bin rfl (k.eq1 28 60 rfl) rfl (fun _ => rfl) (r_neq cu), rfl⟩) <| .g (fun k => k.eq1 22 54 rfl) (fun _ w hn k => ⟨_, v_pickT rfl (k.eq1 25 57 rfl) (k.eq1 29 61 rfl), rfl⟩) <| .t (fun _ w hn k => ⟨_, v_pickF rfl (k.eq1 22 54 rfl) (k.eq1 30 62 rfl), rfl⟩) .nil
 refine aftI ae ar aq fun iL iM em en eo cw bO => ?_
 have gj := bO.fx 1 aD
 have gk := bO.fx 5 am
 have gl := bO.ge 31 63 rfl
 have ep := ap.new_ cw
 have er := ao.new_ cw
 refine st_nil ?_
 exact av _ _ ⟨em, en, eo, gl, gj, gk, ep, er⟩
 have c3 := oF ax
 have bP : (decide ((((textV v).1).length : Int) = 0)) = true := by rw [text_no (oF ax)]; rfl
 have hy := oT bP
 rcases bc (decide (((bigintV v).2.2) = 0)) with aN | aN
 have c7 := oT aN
 refine wp_g0 (.replicate 32 true) [] 90
   [ve (vv (numericV v).1 ad ab af ac), vT, vF, vF, ve (iv ((numericV v).2)), vT, vT, ve (vv (numericV v).1 ad ab af ac), ve (vv (Vl.mk 0 0 0 false [] [] 0) none 0 none 0), ve (.bool (sameV ((numericV v).1) (Vl.mk 0 0 0 false [] [] 0))), vF, vF, vF, vF, ve (iv ((textV v).2)), vT, vT, ve (sv aC ((textV v).1) aA), ve (iv (((textV v).1).length : Int)), vF, vF, vF, vF, ve (iv ((bigintV v).2.2)), vF, vF, vU, vU, vU, vU, vF, vF] ae (.eq (.eq (.eq (.eq (.eq (.eq (.eq (.eq (.eq (.eq (.eq (.eq (.eq (.eq (.eq (.eq (.eq (.eq (.eq (.eq (.eq (.eq (.eq (.eq (.eq (.eq (.eq (.eq (.eq (.eq (.eq (.eq (.nil))))))))))))))))))))))))))))))))) ?_ ?_
 exact .t (fun _ w hn k => ⟨_, v_load rfl (k.fx 3 al) (l_agg Tryd.isAgg29 Tryd.sizeOf29 (ai.new_ hn) rfl), rfl⟩) <| .o1 (ck rfl rfl rfl (fun _ w hn k => ⟨#[vv (numericV v).1 ad ab af ac], args1 (k.eq1 0 32 rfl), fun _ => by kernel_rfl, vmay_c ((numericV v).1) _ _ _ _ _ (ag.new_ hn) (ah.new_ hn)⟩) fun _ => congrArg Value.bool (numeric_may _)) <| .t (fun _ w hn k => ⟨_, v_not rfl (k.eq1 1 33 rfl), rfl⟩) <| .m (fun k => k.eq1 2 34 rfl) <| .gm (fun k => k.eq1 3 35 rfl) (fun k => k.fx 4 aE) <| .g (fun k => k.eq1 3 35 rfl) (fun _ w hn k => ⟨_, v_bin rfl (k.eq1 4 36 rfl) rfl (fun _ => rfl) (r_neq ak), rfl⟩) <| .gm (fun k => k.eq1 3 35 rfl) (fun k => k.eq1 5 37 rfl) <| .g (fun k => k.eq1 6 38 rfl) (fun _ w hn k => ⟨_, v_load rfl (k.fx 3 al) (l_agg Tryd.isAgg29 Tryd.sizeOf29 (ai.new_ hn) rfl), rfl⟩) <| .g (fun k => k.eq1 6 38 rfl) (fun _ w hn k => ⟨_, v_build (ps := []) rfl parts0 (by kernel_rfl), rfl⟩) <| .o1 (cg rfl rfl rfl (fun _ _ k => k.eq1 6 38 rfl) rfl (fun _ w hn k => ⟨#[vv (numericV v).1 ad ab af ac, vv (Vl.mk 0 0 0 false [] [] 0) none 0 none 0], args2 (k.eq1 7 39 rfl) (k.eq1 8 40 rfl), fun _ => by kernel_rfl, vsame_c ((numericV v).1) _ _ _ _ (Vl.mk 0 0 0 false [] [] 0) _ _ _ _ _ (ag.new_ hn) (ah.new_ hn) (SRow.nil _ _) (SRow.nil _ _)⟩) fun _ => rfl) <| .o1 (tg rfl rfl rfl (fun _ _ k => k.eq1 6 38 rfl) fun _ w hn k => ⟨_, v_not rfl (k.eq1 9 41 rfl), congrArg Value.bool bg⟩) <| .g (fun k => k.eq1 3 35 rfl) (fun _ w hn k => ⟨_, v_pickT rfl (k.eq1 6 38 rfl) (k.eq1 10 42 rfl), rfl⟩) <| .t (fun _ w hn k => ⟨_, v_pickF rfl (k.eq1 3 35 rfl) (k.eq1 11 43 rfl), rfl⟩) <| .m (fun k => k.eq1 12 44 rfl) <| .gm (fun k => k.eq1 13 45 rfl) (fun k => k.fx 6 aF) <| .g (fun k => k.eq1 13 45 rfl) (fun _ w hn k => ⟨_, v_bin rfl (k.eq1 14 46 rfl) rfl (fun _ => rfl) (r_neq ax), rfl⟩) <| .gm (fun k => k.eq1 13 45 rfl) (fun k => k.eq1 15 47 rfl) <| .gm (fun k => k.eq1 16 48 rfl) (fun k => k.fx 5 am) <| .g (fun k => k.eq1 16 48 rfl) (fun _ w hn k => ⟨_, v_lenR rfl elU (k.eq1 17 49 rfl), rfl⟩) <| .g (fun k => k.eq1 16 48 rfl) (fun _ w hn k => ⟨_, v_bin rfl (k.eq1 18 50 rfl) rfl (fun _ => rfl) (r_neq bP), rfl⟩) <| .g (fun k => k.eq1 13 45 rfl) (fun _ w hn k => ⟨_, v_pickT rfl (k.eq1 16 48 rfl) (k.eq1 19 51 rfl), rfl⟩) <| .t (fun _ w hn k => ⟨_, v_pickF rfl (k.eq1 13 45 rfl) (k.eq1 20 52 rfl), rfl⟩) <| .m (fun k => k.eq1 21 53 rfl) <| .gm (fun k => k.eq1 22 54 rfl) (fun k => k.fx 8 aG) <| .g (fun k => k.eq1 22 54 rfl) (fun _ w hn k => ⟨_, v_bin rfl (k.eq1 23 55 rfl) rfl (fun _ => rfl) (r_neq aN), rfl⟩) <| .gm (fun k => k.eq1 22 54 rfl) (fun k => k.eq1 24 56 rfl) <| .s (fun k => k.eq1 25 57 rfl) <| .s (fun k => k.eq1 25 57 rfl) <| .s (fun k => k.eq1 25 57 rfl) <| .s (fun k => k.eq1 25 57 rfl) <| .g (fun k => k.eq1 22 54 rfl) (fun _ w hn k => ⟨_, v_pickF rfl (k.eq1 25 57 rfl) rfl, rfl⟩) <| .t (fun _ w hn k => ⟨_, v_pickF rfl (k.eq1 22 54 rfl) (k.eq1 30 62 rfl), rfl⟩) .nil
 refine aftI ae ar aq fun iN iO es et eu cx bQ => ?_
 have gn := bQ.fx 1 aD
 have go := bQ.fx 5 am
 have gp := bQ.ge 31 63 rfl
 have ev := ap.new_ cx
 have ew := ao.new_ cx
 refine st_nil ?_
 exact av _ _ ⟨es, et, eu, gp, gn, go, ev, ew⟩
 have c7 := oF aN
 have cy : (decide ((((bigintV v).2.1).length : Int) = 0)) = true := by rw [bigint_no (oF aN)]; rfl
 have hz := oT cy
 refine wp_g0 (.replicate 32 true) [] 90
   [ve (vv (numericV v).1 ad ab af ac), vT, vF, vF, ve (iv ((numericV v).2)), vT, vT, ve (vv (numericV v).1 ad ab af ac), ve (vv (Vl.mk 0 0 0 false [] [] 0) none 0 none 0), ve (.bool (sameV ((numericV v).1) (Vl.mk 0 0 0 false [] [] 0))), vF, vF, vF, vF, ve (iv ((textV v).2)), vT, vT, ve (sv aC ((textV v).1) aA), ve (iv (((textV v).1).length : Int)), vF, vF, vF, vF, ve (iv ((bigintV v).2.2)), vT, vT, ve (.pointer (some ⟨a7, 1, none⟩)), ve (sv a6 ((bigintV v).2.1) aI), ve (iv (((bigintV v).2.1).length : Int)), vF, vF, vF] ae (.eq (.eq (.eq (.eq (.eq (.eq (.eq (.eq (.eq (.eq (.eq (.eq (.eq (.eq (.eq (.eq (.eq (.eq (.eq (.eq (.eq (.eq (.eq (.eq (.eq (.eq (.eq (.eq (.eq (.eq (.eq (.eq (.nil))))))))))))))))))))))))))))))))) ?_ ?_
 exact .t (fun _ w hn k => ⟨_, v_load rfl (k.fx 3 al) (l_agg Tryd.isAgg29 Tryd.sizeOf29 (ai.new_ hn) rfl), rfl⟩) <| .o1 (ck rfl rfl rfl (fun _ w hn k => ⟨#[vv (numericV v).1 ad ab af ac], args1 (k.eq1 0 32 rfl), fun _ => by kernel_rfl, vmay_c ((numericV v).1) _ _ _ _ _ (ag.new_ hn) (ah.new_ hn)⟩) fun _ => congrArg Value.bool (numeric_may _)) <| .t (fun _ w hn k => ⟨_, v_not rfl (k.eq1 1 33 rfl), rfl⟩) <| .m (fun k => k.eq1 2 34 rfl) <| .gm (fun k => k.eq1 3 35 rfl) (fun k => k.fx 4 aE) <| .g (fun k => k.eq1 3 35 rfl) (fun _ w hn k => ⟨_, v_bin rfl (k.eq1 4 36 rfl) rfl (fun _ => rfl) (r_neq ak), rfl⟩) <| .gm (fun k => k.eq1 3 35 rfl) (fun k => k.eq1 5 37 rfl) <| .g (fun k => k.eq1 6 38 rfl) (fun _ w hn k => ⟨_, v_load rfl (k.fx 3 al) (l_agg Tryd.isAgg29 Tryd.sizeOf29 (ai.new_ hn) rfl), rfl⟩) <| .g (fun k => k.eq1 6 38 rfl) (fun _ w hn k => ⟨_, v_build (ps := []) rfl parts0 (by kernel_rfl), rfl⟩) <| .o1 (cg rfl rfl rfl (fun _ _ k => k.eq1 6 38 rfl) rfl (fun _ w hn k => ⟨#[vv (numericV v).1 ad ab af ac, vv (Vl.mk 0 0 0 false [] [] 0) none 0 none 0], args2 (k.eq1 7 39 rfl) (k.eq1 8 40 rfl), fun _ => by kernel_rfl, vsame_c ((numericV v).1) _ _ _ _ (Vl.mk 0 0 0 false [] [] 0) _ _ _ _ _ (ag.new_ hn) (ah.new_ hn) (SRow.nil _ _) (SRow.nil _ _)⟩) fun _ => rfl) <| .o1 (tg rfl rfl rfl (fun _ _ k => k.eq1 6 38 rfl) fun _ w hn k => ⟨_, v_not rfl (k.eq1 9 41 rfl), congrArg Value.bool bg⟩) <| .g (fun k => k.eq1 3 35 rfl) (fun _ w hn k => ⟨_, v_pickT rfl (k.eq1 6 38 rfl) (k.eq1 10 42 rfl), rfl⟩) <| .t (fun _ w hn k => ⟨_, v_pickF rfl (k.eq1 3 35 rfl) (k.eq1 11 43 rfl), rfl⟩) <| .m (fun k => k.eq1 12 44 rfl) <| .gm (fun k => k.eq1 13 45 rfl) (fun k => k.fx 6 aF) <| .g (fun k => k.eq1 13 45 rfl) (fun _ w hn k => ⟨_, v_bin rfl (k.eq1 14 46 rfl) rfl (fun _ => rfl) (r_neq ax), rfl⟩) <| .gm (fun k => k.eq1 13 45 rfl) (fun k => k.eq1 15 47 rfl) <| .gm (fun k => k.eq1 16 48 rfl) (fun k => k.fx 5 am) <| .g (fun k => k.eq1 16 48 rfl) (fun _ w hn k => ⟨_, v_lenR rfl elU (k.eq1 17 49 rfl), rfl⟩) <| .g (fun k => k.eq1 16 48 rfl) (fun _ w hn k => ⟨_, v_bin rfl (k.eq1 18 50 rfl) rfl (fun _ => rfl) (r_neq bP), rfl⟩) <| .g (fun k => k.eq1 13 45 rfl) (fun _ w hn k => ⟨_, v_pickT rfl (k.eq1 16 48 rfl) (k.eq1 19 51 rfl), rfl⟩) <| .t (fun _ w hn k => ⟨_, v_pickF rfl (k.eq1 13 45 rfl) (k.eq1 20 52 rfl), rfl⟩) <| .m (fun k => k.eq1 21 53 rfl) <| .gm (fun k => k.eq1 22 54 rfl) (fun k => k.fx 8 aG) <| .g (fun k => k.eq1 22 54 rfl) (fun _ w hn k => ⟨_, v_bin rfl (k.eq1 23 55 rfl) rfl (fun _ => rfl) (r_neq aN), rfl⟩) <| .gm (fun k => k.eq1 22 54 rfl) (fun k => k.eq1 24 56 rfl) <| .gf (fun k => k.eq1 25 57 rfl) (fun k => k.fx 7 bC) <| .g (fun k => k.eq1 25 57 rfl) (fun _ w hn k => ⟨_, v_load rfl (k.eq1 26 58 rfl) (l_one Tryd.isAgg24 ((a9.new_ hn).cell 1)), rfl⟩) <| .g (fun k => k.eq1 25 57 rfl) (fun _ w hn k => ⟨_, v_lenR rfl elW (k.eq1 27 59 rfl), rfl⟩) <| .g (fun k => k.eq1 25 57 rfl) (fun _ w hn k => ⟨_, v_bin rfl (k.eq1 28 60 rfl) rfl (fun _ => rfl) (r_neq cy), rfl⟩) <| .g (fun k => k.eq1 22 54 rfl) (fun _ w hn k => ⟨_, v_pickT rfl (k.eq1 25 57 rfl) (k.eq1 29 61 rfl), rfl⟩) <| .t (fun _ w hn k => ⟨_, v_pickF rfl (k.eq1 22 54 rfl) (k.eq1 30 62 rfl), rfl⟩) .nil
 refine aftI ae ar aq fun iP iQ ex ey ez cz bR => ?_
 have gq := bR.fx 1 aD
 have gr := bR.fx 5 am
 have gs := bR.ge 31 63 rfl
 have eA := ap.new_ cz
 have eB := ao.new_ cz
 refine st_nil ?_
 exact av _ _ ⟨ex, ey, ez, gs, gq, gr, eA, eB⟩
 have eC : eK.eval (.tmp 15) = .bool true := eM.trans (congrArg Value.bool (by rw [bi]; rfl))
 refine wp_cond_true eC ?_
 refine wp_seq_k fun iR eD => ?_
 refine wp_g0 [true, true] [] 90
   [vT, vT] bw (.eq (.eq (.nil))) ?_ ?_
 exact .o1 (ck rfl rfl rfl (fun _ w hn k => ⟨#[], rfl, fun _ => by kernel_rfl, first_c _⟩) fun _ => rfl) <| .a (fun k => k.eq1 0 16 rfl) .nil
 refine aftI bw cD bh fun iS iT hN eE eF hO eG => ?_
 have gt := eG.ge 1 2 rfl
 refine st_nil (eD _ _ ?_)
 refine wp_ret (ret_k eE (v := .bool true) (res_t rfl gt _) ?_)
 exact ⟨rfl, eF⟩
end Go.Proofs.YtecgdgjlmlpcnaaDoor
