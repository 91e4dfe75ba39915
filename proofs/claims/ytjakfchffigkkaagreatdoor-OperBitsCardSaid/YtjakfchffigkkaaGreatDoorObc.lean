import Derived.Test.YtjakfchffigkkaaGreatDoorObb
namespace Go.Proofs.YtjakfchffigkkaaGreatDoor
open Go.RowKit
set_option linter.unusedSimpArgs false
set_option linter.unusedVariables false
set_option maxHeartbeats 16000000
set_option maxRecDepth 100000
theorem numbered_c (a : Nm) (b : Bool) (w : World) : Calls Tryz.prog 65 #[nv a, .bool b] w (IsRet (.tuple #[vv (Vl.mk (numberedV a b).1 (numberedV a b).2.1.k (numberedV a b).2.1.n false [] [] 0) none 0 none 0, iv ((numberedV a b).2.2)]) w) := by
 refine enter_abs Tryz.func65 rfl fun a0 af bf hp => ?_
 have af : a0.tmps.size = 11 := af
 have ah : New w w := Upd.refl _ _
 have hp0 : a0.eval (.tmp 0) = nv a := hp 0 _ rfl
 have hp1 : a0.eval (.tmp 1) = .bool b := hp 1 _ rfl
 refine wp_seq_k fun K1 bg => ?_
 refine wp_g [true, true, true] [] [] 11
   [IsNew w 23 [iv a.k, iv a.n], IsNew w 29 [iv 0, iv 0, iv 0, .bool false, sv none ([]) 0, sv none ([]) 0, iv 0], ve (iv 0)]
   [0, 1] (newsCons (fun v w h => IsNew.old h) (newsCons (fun v w h => IsNew.old h) newsNil)) af (.nw (.nw (.eq (.nil)))) ?_ (fun i h => by cases h) ?_
 exact .o2 (step_allocN (cs := [iv a.k, iv a.n]) (t := 23) rfl (noG rfl) (fun _ w hn k => v_box rfl (k.fx 0 hp0) (fun w => rfl)) (fun q _ hq hb => ⟨q, rfl, hq, hb⟩)) <| .o2 (step_allocN (cs := [iv 0, iv 0, iv 0, .bool false, sv none ([]) 0, sv none ([]) 0, iv 0]) (t := 29) rfl (noG rfl) (fun _ w hn k => rfl) (fun q _ hq hb => ⟨q, rfl, hq, hb⟩)) <| .t (fun _ w hn k => ⟨_, v_assign rfl rfl, rfl⟩) .nil
 refine aftI af bf ah fun a2 w3 ax bh aI bz ag => ?_
 have h8 := ag.fx 1 hp1
 obtain ⟨bi, h9, aJ, aK⟩ : IsNew _ _ _ _ _ := ag.got 0 2 rfl (by kernel_rfl)
 obtain ⟨ai, ay, aL, aM⟩ : IsNew _ _ _ _ _ := ag.got 1 4 rfl (by kernel_rfl)
 have hne17 : bi ≠ ai := ag.ne 0 1 2 4 h9 ay
 have bs := Nat.le_trans ah.size aJ
 have bt := Nat.le_trans ah.size aL
 refine st_nil (bg _ _ (wp_seq_k fun bA aN => ?_))
 refine wp_seq_k fun bB aO => ?_
 refine wp_g0 [true, true] [] 11
   [ve (.bool b), ve (.bool (!b))] ax (.eq (.eq (.nil))) ?_ ?_
 exact .m (fun k => k.fx 1 h8) <| .t (fun _ w hn k => ⟨_, v_not rfl (k.eq1 0 6 rfl), rfl⟩) .nil
 refine aftI ax bh aI fun az bC ad aj ak al ae => ?_
 have bj := ae.fx 2 h9
 have aA := ae.fx 4 ay
 have aB := ae.ge 1 7 rfl
 have aP := aK.new_ al
 have am := aM.new_ al
 refine st_nil (aO _ _ ?_)
 rcases bc (b) with ac | ac
 have aQ : az.eval (.tmp 7) = .bool false := aB.trans (congrArg Value.bool (by rw [ac]; rfl))
 refine wp_cond_false aQ ?_
 refine wp_skip ?_
 refine aN _ _ ?_
 refine wp_seq_k fun bD aR => ?_
 refine wp_g0 [true, true, false, false] [(2, false), (3, true)] 11
   [ve (nv a), ve (vv (Vl.mk 3 a.k a.n false [] [] 0) none 0 none 0), vt, vt] ad (.eq (.eq (.tt (.tt (.nil))))) ?_ ?_
 exact .t (fun _ w hn k => ⟨_, v_load rfl (k.fx 2 bj) (l_two Tryz.isAgg23 Tryz.sizeOf23 (aP.new_ hn)), rfl⟩) <| .o1 (ck rfl rfl rfl (fun _ w hn k => ⟨#[nv a], args1 (k.eq1 0 9 rfl), fun _ => by kernel_rfl, cnum_c a _ ⟩) fun _ => rfl) <| .off <| .off .nil
 refine aftI ad aj ak fun aC bE an aS aT aU ao => ?_
 have aD := ao.fx 4 aA
 have aE := ao.ge 1 10 rfl
 have aV := am.new_ aU
 obtain ⟨bk, ar, au, aW, bu⟩ := s_many (P := Tryz.prog) (t := 29) (i := 0) [iv 3, iv a.k, iv a.n, .bool false, sv none ([]) 0, sv none ([]) 0, iv 0] Tryz.sizeOf29 rfl rfl rfl aV lb
 have aX : Blk bk ai 29 [iv 3, iv a.k, iv a.n, .bool false, sv none ([]) 0, sv none ([]) 0, iv 0] := au
 refine st_act rfl rfl fun bF aY => a_store' rfl aD aE ar (aY _ _ trivial ?_)
 have aZ := aT.trans aW (fun _ h b => by subst b; omega)
 refine st_take rfl rfl (y_assign (v := iv 0) rfl rfl) rfl ?_
 obtain ⟨bl, aa⟩ : ∃ a', a' = aC.put (some 5) (iv 0) := ⟨_, rfl⟩
 have bv := pz aa an
 have a1 := pd aa aS
 have bm := pn aa aD (by decide)
 have bG := pn aa aE (by decide)
 have bn : bl.eval (.tmp 5) = iv 0 := by rw [aa]; exact put_same _ _ _ (by rw [an]; decide)
 show stepsTo _ _ _ _ _ (aC.put (some 5) (iv 0)) _
 rw [← aa]
 refine st_nil (aR _ _ ?_)
 refine wp_ret (ret_k a1 (v := .tuple #[vv (Vl.mk 3 a.k a.n false [] [] 0) none 0 none 0, iv 0]) (res_ct rfl bm bn (l_agg Tryz.isAgg29 Tryz.sizeOf29 aX rfl)) ?_)
 refine ⟨?_, aZ⟩
 show Ending.returned (.tuple #[vv (Vl.mk 3 a.k a.n false [] [] 0) none 0 none 0, iv 0]) = Ending.returned (.tuple #[vv (Vl.mk (numberedV a b).1 (numberedV a b).2.1.k (numberedV a b).2.1.n false [] [] 0) none 0 none 0, iv ((numberedV a b).2.2)])
 first | rfl | (simp only [numberedV, ac, bsm] <;> rfl) | (exfalso; omega)
 have a3 : az.eval (.tmp 7) = .bool true := aB.trans (congrArg Value.bool (by rw [ac]; rfl))
 refine wp_cond_true a3 ?_
 refine wp_seq_k fun bH a4 => ?_
 refine wp_g0 [true, false, false] [(1, false), (2, true)] 11
   [ve (vv (Vl.mk 0 0 0 false [] [] 0) none 0 none 0), vt, vt] ad (.eq (.tt (.tt (.nil)))) ?_ ?_
 exact .t (fun _ w hn k => ⟨_, v_build (ps := []) rfl parts0 (by kernel_rfl), rfl⟩) <| .off <| .off .nil
 refine aftI ad aj ak fun aF bI ap a5 a6 a7 aq => ?_
 have aG := aq.fx 4 aA
 have aH := aq.ge 0 8 rfl
 have a8 := am.new_ a7
 obtain ⟨bo, av, aw, a9, bw⟩ := s_many (P := Tryz.prog) (t := 29) (i := 0) [iv 0, iv 0, iv 0, .bool false, sv none ([]) 0, sv none ([]) 0, iv 0] Tryz.sizeOf29 rfl rfl rfl a8 lb
 have ba : Blk bo ai 29 [iv 0, iv 0, iv 0, .bool false, sv none ([]) 0, sv none ([]) 0, iv 0] := aw
 refine st_act rfl rfl fun bJ bb => a_store' rfl aG aH av (bb _ _ trivial ?_)
 have bd := a6.trans a9 (fun _ h b => by subst b; omega)
 refine st_take rfl rfl (y_assign (v := iv 3) rfl rfl) rfl ?_
 obtain ⟨bp, ab⟩ : ∃ a', a' = aF.put (some 5) (iv 3) := ⟨_, rfl⟩
 have bx := pz ab ap
 have be := pd ab a5
 have bq := pn ab aG (by decide)
 have bK := pn ab aH (by decide)
 have br : bp.eval (.tmp 5) = iv 3 := by rw [ab]; exact put_same _ _ _ (by rw [ap]; decide)
 show stepsTo _ _ _ _ _ (aF.put (some 5) (iv 3)) _
 rw [← ab]
 refine st_nil (a4 _ _ ?_)
 refine wp_ret (ret_k be (v := .tuple #[vv (Vl.mk 0 0 0 false [] [] 0) none 0 none 0, iv 3]) (res_ct rfl bq br (l_agg Tryz.isAgg29 Tryz.sizeOf29 ba rfl)) ?_)
 refine ⟨?_, bd⟩
 show Ending.returned (.tuple #[vv (Vl.mk 0 0 0 false [] [] 0) none 0 none 0, iv 3]) = Ending.returned (.tuple #[vv (Vl.mk (numberedV a b).1 (numberedV a b).2.1.k (numberedV a b).2.1.n false [] [] 0) none 0 none 0, iv ((numberedV a b).2.2)])
 first | rfl | (simp only [numberedV, ac, bsm] <;> rfl) | (exfalso; omega)
def numerics_c_P (v : Vl) (Av : Option Addr) (cv : Nat) (Bv : Option Addr) (dv : Nat) (u : Vl) (Au : Option Addr) (cu : Nat) (Bu : Option Addr) (du : Nat) (w : World) (en : Ending) (w' : World) : Prop := ∃ (Ar0 : Option Addr) (cr0 : Nat) (Ar1 : Option Addr) (cr1 : Nat) (Ar2 : Option Addr) (cr2 : Nat) (Ar3 : Option Addr) (cr3 : Nat), en = .returned (.tuple #[vv (numericsV v u).1 Ar0 cr0 Ar1 cr1, vv (numericsV v u).2.1 Ar2 cr2 Ar3 cr3, iv ((numericsV v u).2.2)]) ∧ SRow w' .u32 Ar0 ((numericsV v u).1.mag) cr0 ∧ SRow w' .u16 Ar1 ((numericsV v u).1.s) cr1 ∧ SRow w' .u32 Ar2 ((numericsV v u).2.1.mag) cr2 ∧ SRow w' .u16 Ar3 ((numericsV v u).2.1.s) cr3 ∧ New w w'
theorem numerics_c (v : Vl) (Av : Option Addr) (cv : Nat) (Bv : Option Addr) (dv : Nat) (u : Vl) (Au : Option Addr) (cu : Nat) (Bu : Option Addr) (du : Nat) (w : World) (hmv : SRow w .u32 Av v.mag cv) (hsv : SRow w .u16 Bv v.s dv) (hmu : SRow w .u32 Au u.mag cu) (hsu : SRow w .u16 Bu u.s du) (hvv : VOk v) (hvu : VOk u) : Calls Tryz.prog 74 #[vv v Av cv Bv dv, vv u Au cu Bu du] w (numerics_c_P v Av cv Bv dv u Au cu Bu du w) := by
 refine enter_abs Tryz.func74 rfl fun a0 bM gY hp => ?_
 have bM : a0.tmps.size = 41 := bM
 have bH : New w w := Upd.refl _ _
 have hp0 : a0.eval (.tmp 0) = vv v Av cv Bv dv := hp 0 _ rfl
 have hp1 : a0.eval (.tmp 1) = vv u Au cu Bu du := hp 1 _ rfl
 refine wp_seq_k fun K1 gZ => ?_
 refine wp_g [true, true, true, true, true] [] [] 41
   [IsNew w 29 [iv v.k, iv v.nk, iv v.nn, .bool v.neg, sv Av v.mag cv, sv Bv v.s dv, iv v.ref], IsNew w 29 [iv u.k, iv u.nk, iv u.nn, .bool u.neg, sv Au u.mag cu, sv Bu u.s du, iv u.ref], IsNew w 29 [iv 0, iv 0, iv 0, .bool false, sv none ([]) 0, sv none ([]) 0, iv 0], IsNew w 29 [iv 0, iv 0, iv 0, .bool false, sv none ([]) 0, sv none ([]) 0, iv 0], ve (iv 0)]
   [0, 1, 2, 3] (newsCons (fun v w h => IsNew.old h) (newsCons (fun v w h => IsNew.old h) (newsCons (fun v w h => IsNew.old h) (newsCons (fun v w h => IsNew.old h) newsNil)))) bM (.nw (.nw (.nw (.nw (.eq (.nil)))))) ?_ (fun i h => by cases h) ?_
 exact .o2 (step_allocN (cs := [iv v.k, iv v.nk, iv v.nn, .bool v.neg, sv Av v.mag cv, sv Bv v.s dv, iv v.ref]) (t := 29) rfl (noG rfl) (fun _ w hn k => v_box rfl (k.fx 0 hp0) (fun w => rfl)) (fun q _ hq hb => ⟨q, rfl, hq, hb⟩)) <| .o2 (step_allocN (cs := [iv u.k, iv u.nk, iv u.nn, .bool u.neg, sv Au u.mag cu, sv Bu u.s du, iv u.ref]) (t := 29) rfl (noG rfl) (fun _ w hn k => v_box rfl (k.fx 1 hp1) (fun w => rfl)) (fun q _ hq hb => ⟨q, rfl, hq, hb⟩)) <| .o2 (step_allocN (cs := [iv 0, iv 0, iv 0, .bool false, sv none ([]) 0, sv none ([]) 0, iv 0]) (t := 29) rfl (noG rfl) (fun _ w hn k => rfl) (fun q _ hq hb => ⟨q, rfl, hq, hb⟩)) <| .o2 (step_allocN (cs := [iv 0, iv 0, iv 0, .bool false, sv none ([]) 0, sv none ([]) 0, iv 0]) (t := 29) rfl (noG rfl) (fun _ w hn k => rfl) (fun q _ hq hb => ⟨q, rfl, hq, hb⟩)) <| .t (fun _ w hn k => ⟨_, v_assign rfl rfl, rfl⟩) .nil
 refine aftI bM gY bH fun a2 w3 fF g0 bv ja aS => ?_
 obtain ⟨q9, h8, fM, fN⟩ : IsNew _ _ _ _ _ := aS.got 0 2 rfl (by kernel_rfl)
 obtain ⟨cy, cz, fO, cA⟩ : IsNew _ _ _ _ _ := aS.got 1 3 rfl (by kernel_rfl)
 obtain ⟨aT, bN, fP, cB⟩ : IsNew _ _ _ _ _ := aS.got 2 4 rfl (by kernel_rfl)
 obtain ⟨aU, bO, fQ, cC⟩ : IsNew _ _ _ _ _ := aS.got 3 5 rfl (by kernel_rfl)
 have hne24 : q9 ≠ aT := aS.ne 0 2 2 4 h8 bN
 have hne25 : q9 ≠ aU := aS.ne 0 3 2 5 h8 bO
 have hne26 : cy ≠ aT := aS.ne 1 2 3 4 cz bN
 have hne27 : cy ≠ aU := aS.ne 1 3 3 5 cz bO
 have hne28 : aT ≠ aU := aS.ne 2 3 4 5 bN bO
 have h6 := Nat.le_trans bH.size fM
 have h7 := Nat.le_trans bH.size fO
 have h9 := Nat.le_trans bH.size fP
 have ia := Nat.le_trans bH.size fQ
 refine st_nil (gZ _ _ (wp_seq_k fun jb fR => ?_))
 refine wp_gS (fun W => True) (fun W W' hn h => trivial) trivial [true, true, true, true, true, true, false, false] [4] [(6, false), (7, true)] 41
   [ve (vv v Av cv Bv dv), (fun (v_ : Value) (W : World) => ∃ (A5 : Option Addr) (c6 : Nat) (A7 : Option Addr) (c8 : Nat), v_ = .tuple #[vv (numericV v).1 A5 c6 A7 c8, iv ((numericV v).2)] ∧ SRow W .u32 A5 ((numericV v).1.mag) c6 ∧ SRow W .u16 A7 ((numericV v).1.s) c8), (fun (v_ : Value) (W : World) => ∃ (aH : Option Addr) (aI : Nat) (aJ : Option Addr) (aK : Nat), v_ = .tuple #[vv (numericV v).1 aH aI aJ aK, iv ((numericV v).2)] ∧ SRow W .u32 aH ((numericV v).1.mag) aI ∧ SRow W .u16 aJ ((numericV v).1.s) aK), (fun (v_ : Value) (W : World) => ∃ (bi : Option Addr) (bj : Nat) (bk : Option Addr) (bl : Nat), v_ = vv (numericV v).1 bi bj bk bl ∧ SRow W .u32 bi ((numericV v).1.mag) bj ∧ SRow W .u16 bk ((numericV v).1.s) bl), ve (iv ((numericV v).2)), IsNew w3 29 [iv 0, iv 0, iv 0, .bool false, sv none ([]) 0, sv none ([]) 0, iv 0], vt, vt]
   [5] (newsCons (fun v w h => IsNew.old h) newsNil) fF (.eq (.cons (fun v W W' hn ⟨A5, c6, A7, c8, he, h0, h1⟩ => ⟨A5, c6, A7, c8, he, h0.new_ hn, h1.new_ hn⟩) (.cons (fun v W W' hn ⟨aH, aI, aJ, aK, he, h0, h1⟩ => ⟨aH, aI, aJ, aK, he, h0.new_ hn, h1.new_ hn⟩) (.cons (fun v W W' hn ⟨bi, bj, bk, bl, he, h0, h1⟩ => ⟨bi, bj, bk, bl, he, h0.new_ hn, h1.new_ hn⟩) (.eq (.nw (.tt (.tt (.nil))))))))) ?_ ?_ ?_
 refine .t (fun _ w hn k => ⟨_, v_load rfl (k.fx 2 h8) (l_agg Tryz.isAgg29 Tryz.sizeOf29 (fN.new_ hn) rfl), rfl⟩) ?_
 refine .o1 (tkC rfl (noG rfl) rfl fun _ w hn k => (by
       refine ⟨#[vv v Av cv Bv dv], _, args1 (k.eq1 0 11 rfl), fun w => by kernel_rfl, cnumeric_c v _ _ _ _ _ (hmv.new_ (bv.transNew hn)) (hsv.new_ (bv.transNew hn)) hvv, ?_⟩
       rintro e w' ⟨A1, c2, A3, c4, rfl, hmo0, hmo1, hm⟩
       exact ⟨_, rfl, hm, ⟨A1, c2, A3, c4, rfl, hmo0, hmo1⟩⟩)) ?_
 refine .o1 (tk rfl rfl fun _ w hn k => (by
       obtain ⟨A9, g1, g2, g3, g4, fS, fT⟩ : (fun (v_ : Value) (W : World) => ∃ (A5 : Option Addr) (c6 : Nat) (A7 : Option Addr) (c8 : Nat), v_ = .tuple #[vv (numericV v).1 A5 c6 A7 c8, iv ((numericV v).2)] ∧ SRow W .u32 A5 ((numericV v).1.mag) c6 ∧ SRow W .u16 A7 ((numericV v).1.s) c8) _ _ := k.dep 1 12 (by kernel_rfl) (by kernel_rfl)
       exact ⟨_, v_move rfl g4, ⟨A9, g1, g2, g3, rfl, fS, fT⟩⟩)) ?_
 refine .o1 (tk rfl rfl fun _ w hn k => (by
       obtain ⟨g5, g6, g7, g8, g9, fU, fV⟩ : (fun (v_ : Value) (W : World) => ∃ (aH : Option Addr) (aI : Nat) (aJ : Option Addr) (aK : Nat), v_ = .tuple #[vv (numericV v).1 aH aI aJ aK, iv ((numericV v).2)] ∧ SRow W .u32 aH ((numericV v).1.mag) aI ∧ SRow W .u16 aJ ((numericV v).1.s) aK) _ _ := k.dep 2 10 (by kernel_rfl) (by kernel_rfl)
       exact ⟨_, v_extract rfl g9 rfl, ⟨g5, g6, g7, g8, rfl, fU, fV⟩⟩)) ?_
 refine .o3 ?_
 exact .o2 (step_allocN (cs := [iv 0, iv 0, iv 0, .bool false, sv none ([]) 0, sv none ([]) 0, iv 0]) (t := 29) rfl (noG rfl) (fun _ w hn k => rfl) (fun q _ hq hb => ⟨q, rfl, hq, hb⟩)) <| .off <| .off .nil
 intro i h
 simp only [List.contains_eq_mem, List.mem_cons, List.not_mem_nil, or_false, decide_eq_true_eq] at h
 subst h
 exact eager_takeG rfl (noG rfl) fun _ w hn k => (by
     obtain ⟨jc, jd, je, jf, ha, ib, ic⟩ : (fun (v_ : Value) (W : World) => ∃ (aH : Option Addr) (aI : Nat) (aJ : Option Addr) (aK : Nat), v_ = .tuple #[vv (numericV v).1 aH aI aJ aK, iv ((numericV v).2)] ∧ SRow W .u32 aH ((numericV v).1.mag) aI ∧ SRow W .u16 aJ ((numericV v).1.s) aK) _ _ := k.dep 2 10 (by kernel_rfl) (by kernel_rfl)
     exact ⟨_, fun w hS => v_extract rfl ha rfl, rfl⟩)
 intro cD jg _ bw aQ
 obtain ⟨cE, fW, fX⟩ := aft aQ fF g0 bv bw
 have hc := aQ.fx 3 cz
 have hd := aQ.fx 4 bN
 have hf := aQ.fx 5 bO
 obtain ⟨ax, au, aL, av, bP, fY, fZ⟩ : (fun (v_ : Value) (W : World) => ∃ (bi : Option Addr) (bj : Nat) (bk : Option Addr) (bl : Nat), v_ = vv (numericV v).1 bi bj bk bl ∧ SRow W .u32 bi ((numericV v).1.mag) bj ∧ SRow W .u16 bk ((numericV v).1.s) bl) _ _ := aQ.got 3 13 rfl (by kernel_rfl)
 have bP : cD.eval (.tmp 13) = vv (numericV v).1 ax au aL av := bP
 have fG := aQ.ge 4 14 rfl
 obtain ⟨bm, fH, bx, bI⟩ : IsNew _ _ _ _ _ := aQ.got 5 7 rfl (by kernel_rfl)
 have f0 := cA.new_ bw
 have f1 := cB.new_ bw
 have f2 := cC.new_ bw
 have hne59 : cy ≠ bm := by have h1 := cA.lt; have h2 := bx; omega
 have hne60 : aT ≠ bm := by have h1 := cB.lt; have h2 := bx; omega
 have hne61 : aU ≠ bm := by have h1 := cC.lt; have h2 := bx; omega
 have id := Nat.le_trans bv.size bx
 obtain ⟨hg, dK, dL, bJ, bK⟩ := s_many (P := Tryz.prog) (t := 29) (i := 0) [iv ((numericV v).1.k), iv ((numericV v).1.nk), iv ((numericV v).1.nn), .bool ((numericV v).1.neg), sv ax ((numericV v).1.mag) au, sv aL ((numericV v).1.s) av, iv ((numericV v).1.ref)] Tryz.sizeOf29 rfl rfl rfl bI lb
 have cF : Blk hg bm 29 [iv ((numericV v).1.k), iv ((numericV v).1.nk), iv ((numericV v).1.nn), .bool ((numericV v).1.neg), sv ax ((numericV v).1.mag) au, sv aL ((numericV v).1.s) av, iv ((numericV v).1.ref)] := dL
 refine st_act rfl rfl fun jh f3 => a_store' rfl fH bP dK (f3 _ _ trivial ?_)
 have cG := fY.far bI bJ (by first | rfl | decide | simp [notK])
 have cH := fZ.far bI bJ (by first | rfl | decide | simp [notK])
 have cI := bK _ _ _ (hne59) f0
 have cJ := bK _ _ _ (hne60) f1
 have cK := bK _ _ _ (hne61) f2
 have cL := fX.trans bJ (fun _ h b => by subst b; omega)
 refine st_take rfl rfl (y_assign (v := iv ((numericV v).2)) rfl fG) rfl ?_
 obtain ⟨hh, aw⟩ : ∃ a', a' = cD.put (some 8) (iv ((numericV v).2)) := ⟨_, rfl⟩
 have bz := pz aw cE
 have cM := pd aw fW
 have fI := pn aw hc (by decide)
 have fJ := pn aw hd (by decide)
 have fK := pn aw hf (by decide)
 have ji := pn aw bP (by decide)
 have jj := pn aw fG (by decide)
 have fL := pn aw fH (by decide)
 have bQ : hh.eval (.tmp 8) = iv ((numericV v).2) := by rw [aw]; exact put_same _ _ _ (by rw [cE]; decide)
 show stepsTo _ _ _ _ _ (cD.put (some 8) (iv ((numericV v).2))) _
 rw [← aw]
 refine st_nil (fR _ _ (wp_seq_k fun jk f4 => ?_))
 refine wp_seq_k fun jl cN => ?_
 rcases bc (decide (((numericV v).2) = 0)) with ab | ab
 have dM := oT ab
 refine wp_g0 [true, true] [] 41
   [ve (iv ((numericV v).2)), vF] bz (.eq (.eq (.nil))) ?_ ?_
 exact .m (fun k => k.fx 8 bQ) <| .t (fun _ w hn k => ⟨_, v_bin rfl (k.eq1 0 15 rfl) rfl (fun _ => rfl) (r_neq ab), rfl⟩) .nil
 refine aftI bz cM cL fun jm hi cO f5 ba a8 a9 => ?_
 have hj := a9.fx 3 fI
 have hl := a9.fx 4 fJ
 have ho := a9.fx 5 fK
 have f6 := a9.fx 7 fL
 have f7 := a9.fx 8 bQ
 have f8 := a9.ge 1 16 rfl
 have dN := cI.new_ a8
 have bR := cJ.new_ a8
 have bS := cK.new_ a8
 have bT := cF.new_ a8
 have dO := cG.new_ a8
 have dP := cH.new_ a8
 refine st_nil (cN _ _ ?_)
 refine wp_cond_false f8 ?_
 refine wp_skip ?_
 refine f4 _ _ ?_
 refine wp_seq_k fun ie dQ => ?_
 refine wp_gS (fun W => True) (fun W W' hn h => trivial) trivial [true, true, true, true, true, true, false, false] [4] [(6, false), (7, true)] 41
   [ve (vv u Au cu Bu du), (fun (v_ : Value) (W : World) => ∃ (bn : Option Addr) (bo : Nat) (bp : Option Addr) (bq : Nat), v_ = .tuple #[vv (numericV u).1 bn bo bp bq, iv ((numericV u).2)] ∧ SRow W .u32 bn ((numericV u).1.mag) bo ∧ SRow W .u16 bp ((numericV u).1.s) bq), (fun (v_ : Value) (W : World) => ∃ (aM : Option Addr) (aN : Nat) (aO : Option Addr) (aP : Nat), v_ = .tuple #[vv (numericV u).1 aM aN aO aP, iv ((numericV u).2)] ∧ SRow W .u32 aM ((numericV u).1.mag) aN ∧ SRow W .u16 aO ((numericV u).1.s) aP), (fun (v_ : Value) (W : World) => ∃ (br : Option Addr) (bs : Nat) (bt : Option Addr) (bu : Nat), v_ = vv (numericV u).1 br bs bt bu ∧ SRow W .u32 br ((numericV u).1.mag) bs ∧ SRow W .u16 bt ((numericV u).1.s) bu), ve (iv ((numericV u).2)), IsNew hi 29 [iv 0, iv 0, iv 0, .bool false, sv none ([]) 0, sv none ([]) 0, iv 0], vt, vt]
   [5] (newsCons (fun v w h => IsNew.old h) newsNil) cO (.eq (.cons (fun v W W' hn ⟨bn, bo, bp, bq, he, h0, h1⟩ => ⟨bn, bo, bp, bq, he, h0.new_ hn, h1.new_ hn⟩) (.cons (fun v W W' hn ⟨aM, aN, aO, aP, he, h0, h1⟩ => ⟨aM, aN, aO, aP, he, h0.new_ hn, h1.new_ hn⟩) (.cons (fun v W W' hn ⟨br, bs, bt, bu, he, h0, h1⟩ => ⟨br, bs, bt, bu, he, h0.new_ hn, h1.new_ hn⟩) (.eq (.nw (.tt (.tt (.nil))))))))) ?_ ?_ ?_
 refine .t (fun _ w hn k => ⟨_, v_load rfl (k.fx 3 hj) (l_agg Tryz.isAgg29 Tryz.sizeOf29 (dN.new_ hn) rfl), rfl⟩) ?_
 refine .o1 (tkC rfl (noG rfl) rfl fun _ w hn k => (by
       refine ⟨#[vv u Au cu Bu du], _, args1 (k.eq1 0 21 rfl), fun w => by kernel_rfl, cnumeric_c u _ _ _ _ _ (hmu.new_ (ba.transNew hn)) (hsu.new_ (ba.transNew hn)) hvu, ?_⟩
       rintro e w' ⟨ax, hr, hs, ht, rfl, hmo0, hmo1, hm⟩
       exact ⟨_, rfl, hm, ⟨ax, hr, hs, ht, rfl, hmo0, hmo1⟩⟩)) ?_
 refine .o1 (tk rfl rfl fun _ w hn k => (by
       obtain ⟨hu, hv, hw, hx, hy, f9, ga⟩ : (fun (v_ : Value) (W : World) => ∃ (bn : Option Addr) (bo : Nat) (bp : Option Addr) (bq : Nat), v_ = .tuple #[vv (numericV u).1 bn bo bp bq, iv ((numericV u).2)] ∧ SRow W .u32 bn ((numericV u).1.mag) bo ∧ SRow W .u16 bp ((numericV u).1.s) bq) _ _ := k.dep 1 22 (by kernel_rfl) (by kernel_rfl)
       exact ⟨_, v_move rfl hy, ⟨hu, hv, hw, hx, rfl, f9, ga⟩⟩)) ?_
 refine .o1 (tk rfl rfl fun _ w hn k => (by
       obtain ⟨hz, hA, hC, hD, hE, gb, gc⟩ : (fun (v_ : Value) (W : World) => ∃ (aM : Option Addr) (aN : Nat) (aO : Option Addr) (aP : Nat), v_ = .tuple #[vv (numericV u).1 aM aN aO aP, iv ((numericV u).2)] ∧ SRow W .u32 aM ((numericV u).1.mag) aN ∧ SRow W .u16 aO ((numericV u).1.s) aP) _ _ := k.dep 2 20 (by kernel_rfl) (by kernel_rfl)
       exact ⟨_, v_extract rfl hE rfl, ⟨hz, hA, hC, hD, rfl, gb, gc⟩⟩)) ?_
 refine .o3 ?_
 exact .o2 (step_allocN (cs := [iv 0, iv 0, iv 0, .bool false, sv none ([]) 0, sv none ([]) 0, iv 0]) (t := 29) rfl (noG rfl) (fun _ w hn k => rfl) (fun q _ hq hb => ⟨q, rfl, hq, hb⟩)) <| .off <| .off .nil
 intro i h
 simp only [List.contains_eq_mem, List.mem_cons, List.not_mem_nil, or_false, decide_eq_true_eq] at h
 subst h
 exact eager_takeG rfl (noG rfl) fun _ w hn k => (by
     obtain ⟨jn, jo, jp, jq, hF, ig, ih⟩ : (fun (v_ : Value) (W : World) => ∃ (aM : Option Addr) (aN : Nat) (aO : Option Addr) (aP : Nat), v_ = .tuple #[vv (numericV u).1 aM aN aO aP, iv ((numericV u).2)] ∧ SRow W .u32 aM ((numericV u).1.mag) aN ∧ SRow W .u16 aO ((numericV u).1.s) aP) _ _ := k.dep 2 20 (by kernel_rfl) (by kernel_rfl)
     exact ⟨_, fun w hS => v_extract rfl hF rfl, rfl⟩)
 intro bL ii _ aC ak
 obtain ⟨bU, dR, dS⟩ := aft ak cO f5 ba aC
 have gd := ak.fx 4 hl
 have gf := ak.fx 5 ho
 have gg := ak.fx 7 f6
 have ij := ak.fx 8 f7
 obtain ⟨ai, ad, aj, ae, bA, dT, dU⟩ : (fun (v_ : Value) (W : World) => ∃ (br : Option Addr) (bs : Nat) (bt : Option Addr) (bu : Nat), v_ = vv (numericV u).1 br bs bt bu ∧ SRow W .u32 br ((numericV u).1.mag) bs ∧ SRow W .u16 bt ((numericV u).1.s) bu) _ _ := ak.got 3 23 rfl (by kernel_rfl)
 have bA : bL.eval (.tmp 23) = vv (numericV u).1 ai ad aj ae := bA
 have cP := ak.ge 4 24 rfl
 obtain ⟨aR, cQ, bb, aV⟩ : IsNew _ _ _ _ _ := ak.got 5 9 rfl (by kernel_rfl)
 have dV := bR.new_ aC
 have dW := bS.new_ aC
 have dX := bT.new_ aC
 have hne136 : aT ≠ aR := by have h1 := bR.lt; have h2 := bb; omega
 have hne137 : aU ≠ aR := by have h1 := bS.lt; have h2 := bb; omega
 have hne138 : bm ≠ aR := by have h1 := bT.lt; have h2 := bb; omega
 have hG := Nat.le_trans ba.size bb
 have dY := dO.new_ aC
 have dZ := dP.new_ aC
 obtain ⟨gh, cR, cS, aW, bB⟩ := s_many (P := Tryz.prog) (t := 29) (i := 0) [iv ((numericV u).1.k), iv ((numericV u).1.nk), iv ((numericV u).1.nn), .bool ((numericV u).1.neg), sv ai ((numericV u).1.mag) ad, sv aj ((numericV u).1.s) ae, iv ((numericV u).1.ref)] Tryz.sizeOf29 rfl rfl rfl aV lb
 have bV : Blk gh aR 29 [iv ((numericV u).1.k), iv ((numericV u).1.nk), iv ((numericV u).1.nn), .bool ((numericV u).1.neg), sv ai ((numericV u).1.mag) ad, sv aj ((numericV u).1.s) ae, iv ((numericV u).1.ref)] := cS
 refine st_act rfl rfl fun ik d0 => a_store' rfl cQ bA cR (d0 _ _ trivial ?_)
 have bW := dY.far aV aW (by first | rfl | decide | simp [notK])
 have bX := dZ.far aV aW (by first | rfl | decide | simp [notK])
 have bY := dT.far aV aW (by first | rfl | decide | simp [notK])
 have bZ := dU.far aV aW (by first | rfl | decide | simp [notK])
 have b0 := bB _ _ _ (hne136) dV
 have b1 := bB _ _ _ (hne137) dW
 have b2 := bB _ _ _ (hne138) dX
 have b3 := dS.trans aW (fun _ h b => by subst b; omega)
 refine st_take rfl rfl (y_assign (v := iv ((numericV u).2)) rfl cP) rfl ?_
 obtain ⟨gi, af⟩ : ∃ a', a' = bL.put (some 8) (iv ((numericV u).2)) := ⟨_, rfl⟩
 have bd := pz af bU
 have b4 := pd af dR
 have cT := pn af gd (by decide)
 have cU := pn af gf (by decide)
 have cV := pn af gg (by decide)
 have il := pn af bA (by decide)
 have im := pn af cP (by decide)
 have cW := pn af cQ (by decide)
 have bC : gi.eval (.tmp 8) = iv ((numericV u).2) := by rw [af]; exact put_same _ _ _ (by rw [bU]; decide)
 show stepsTo _ _ _ _ _ (bL.put (some 8) (iv ((numericV u).2))) _
 rw [← af]
 refine st_nil (dQ _ _ (wp_seq_k fun io d1 => ?_))
 refine wp_block ?_
 refine wp_seq_k fun ip b5 => ?_
 rcases bc (decide (((numericV u).2) = 0)) with aa | aa
 have cX := oT aa
 refine wp_g0 [true, true, true] [] 41
   [ve (iv ((numericV u).2)), vF, vF] bd (.eq (.eq (.eq (.nil)))) ?_ ?_
 exact .m (fun k => k.fx 8 bC) <| .t (fun _ w hn k => ⟨_, v_bin rfl (k.eq1 0 26 rfl) rfl (fun _ => rfl) (r_neq aa), rfl⟩) <| .a (fun k => k.eq1 1 27 rfl) .nil
 refine aftI bd b4 b3 fun iq ir be b6 b7 al aD => ?_
 have cY := aD.fx 4 cT
 have cZ := aD.fx 5 cU
 have bD := aD.fx 7 cV
 have bE := aD.fx 9 cW
 have it := aD.fx 8 bC
 have gj := aD.ge 2 25 rfl
 have b8 := b0.new_ al
 have b9 := b1.new_ al
 have bf := b2.new_ al
 have bg := bV.new_ al
 have ca := bW.new_ al
 have cb := bX.new_ al
 have cc := bY.new_ al
 have cd := bZ.new_ al
 refine st_nil (b5 _ _ ?_)
 refine wp_cond_false gj ?_
 refine wp_seq_k fun iu ce => ?_
 rcases bc (decide (((numericV v).1.k) = ((numericV u).1.k))) with ac | ac
 have c0 := oT ac
 refine wp_g0 [true, true, true, true, true, true] [] 41
   [ve (pv bm), ve (iv ((numericV v).1.k)), ve (pv aR), ve (iv ((numericV u).1.k)), vF, vF] be (.eq (.eq (.eq (.eq (.eq (.eq (.nil))))))) ?_ ?_
 exact .f (fun k => k.fx 7 bD) <| .t (fun _ w hn k => ⟨_, v_load rfl (k.eq1 0 32 rfl) (l_one Tryz.isAgg3 ((bf.new_ hn).cell 0)), rfl⟩) <| .f (fun k => k.fx 9 bE) <| .t (fun _ w hn k => ⟨_, v_load rfl (k.eq1 2 34 rfl) (l_one Tryz.isAgg3 ((bg.new_ hn).cell 0)), rfl⟩) <| .t (fun _ w hn k => ⟨_, v_bin rfl (k.eq1 1 33 rfl) (k.eq1 3 35 rfl) (fun _ => rfl) (r_neq ac), rfl⟩) <| .a (fun k => k.eq1 4 36 rfl) .nil
 refine aftI be b6 b7 fun iw ix cf d2 d3 am aX => ?_
 have gk := aX.fx 4 cY
 have gl := aX.fx 5 cZ
 have gm := aX.fx 7 bD
 have gn := aX.fx 9 bE
 have go := aX.ge 5 31 rfl
 have d4 := b8.new_ am
 have d5 := b9.new_ am
 have d6 := bf.new_ am
 have ch := bg.new_ am
 have d7 := ca.new_ am
 have d8 := cb.new_ am
 have d9 := cc.new_ am
 have ea := cd.new_ am
 refine st_nil (ce _ _ ?_)
 refine wp_cond_false go ?_
 refine wp_skip ?_
 refine d1 _ _ ?_
 refine wp_seq_k fun iy eb => ?_
 refine wp_gS (fun W => Blk W aR 29 [iv ((numericV u).1.k), iv ((numericV u).1.nk), iv ((numericV u).1.nn), .bool ((numericV u).1.neg), sv ai ((numericV u).1.mag) ad, sv aj ((numericV u).1.s) ae, iv ((numericV u).1.ref)] ∧ True) (fun W W' hn h => ⟨Blk.new_ h.1 hn, trivial⟩) ⟨ch, trivial⟩ [true, true, false, false, false] [1] [(2, false), (3, false), (4, true)] 41
   [ve (vv (numericV v).1 ax au aL av), ve (vv (numericV u).1 ai ad aj ae), vt, vt, vt]
   [] newsNil cf (.eq (.eq (.tt (.tt (.tt (.nil)))))) ?_ ?_ ?_
 refine .t (fun _ w hn k => ⟨_, v_load rfl (k.fx 7 gm) (l_agg Tryz.isAgg29 Tryz.sizeOf29 (d6.new_ hn) rfl), rfl⟩) ?_
 refine .o3 ?_
 exact .off <| .off <| .off .nil
 intro i h
 simp only [List.contains_eq_mem, List.mem_cons, List.not_mem_nil, or_false, decide_eq_true_eq] at h
 subst h
 exact eager_takeG rfl (noG rfl) fun _ w hn k => (by
     exact ⟨_, fun w hS => v_load rfl (k.fx 9 gn) (l_agg Tryz.isAgg29 Tryz.sizeOf29 hS.1 rfl), rfl⟩)
 intro c1 iz _ an aY
 obtain ⟨ci, ec, ed⟩ := aft aY cf d2 d3 an
 have c3 := aY.fx 4 gk
 have c5 := aY.fx 5 gl
 have c7 := aY.ge 0 39 rfl
 have c9 := aY.ge 1 40 rfl
 have aZ := d4.new_ an
 have ee := d5.new_ an
 have cj := ch.new_ an
 have ef := d7.new_ an
 have eg := d8.new_ an
 have eh := d9.new_ an
 have ei := ea.new_ an
 obtain ⟨gp, da, db, a1, bF⟩ := s_many (P := Tryz.prog) (t := 29) (i := 0) [iv ((numericV v).1.k), iv ((numericV v).1.nk), iv ((numericV v).1.nn), .bool ((numericV v).1.neg), sv ax ((numericV v).1.mag) au, sv aL ((numericV v).1.s) av, iv ((numericV v).1.ref)] Tryz.sizeOf29 rfl rfl rfl aZ lb
 have ej : Blk gp aT 29 [iv ((numericV v).1.k), iv ((numericV v).1.nk), iv ((numericV v).1.nn), .bool ((numericV v).1.neg), sv ax ((numericV v).1.mag) au, sv aL ((numericV v).1.s) av, iv ((numericV v).1.ref)] := db
 refine st_act rfl rfl fun iA ek => a_store' rfl c3 c7 da (ek _ _ ⟨(bF _ _ _ (fun h => hne136 h.symm) cj), trivial⟩ ?_)
 have el := ef.far aZ a1 (by first | rfl | decide | simp [notK])
 have em := eg.far aZ a1 (by first | rfl | decide | simp [notK])
 have en := eh.far aZ a1 (by first | rfl | decide | simp [notK])
 have eo := ei.far aZ a1 (by first | rfl | decide | simp [notK])
 have a3 := bF _ _ _ (fun h => hne28 h.symm) ee
 have cl := bF _ _ _ (fun h => hne136 h.symm) cj
 have ep := ed.trans a1 (fun _ h b => by subst b; omega)
 obtain ⟨gq, dc, dd, a4, bG⟩ := s_many (P := Tryz.prog) (t := 29) (i := 0) [iv ((numericV u).1.k), iv ((numericV u).1.nk), iv ((numericV u).1.nn), .bool ((numericV u).1.neg), sv ai ((numericV u).1.mag) ad, sv aj ((numericV u).1.s) ae, iv ((numericV u).1.ref)] Tryz.sizeOf29 rfl rfl rfl a3 lb
 have er : Blk gq aU 29 [iv ((numericV u).1.k), iv ((numericV u).1.nk), iv ((numericV u).1.nn), .bool ((numericV u).1.neg), sv ai ((numericV u).1.mag) ad, sv aj ((numericV u).1.s) ae, iv ((numericV u).1.ref)] := dd
 refine st_act rfl rfl fun iB es => a_store' rfl c5 c9 dc (es _ _ ⟨(bG _ _ _ (fun h => hne137 h.symm) cl), trivial⟩ ?_)
 have et := el.far a3 a4 (by first | rfl | decide | simp [notK])
 have eu := em.far a3 a4 (by first | rfl | decide | simp [notK])
 have ev := en.far a3 a4 (by first | rfl | decide | simp [notK])
 have ew := eo.far a3 a4 (by first | rfl | decide | simp [notK])
 have ex := bG _ _ _ (hne28) ej
 have hH := bG _ _ _ (fun h => hne137 h.symm) cl
 have ey := ep.trans a4 (fun _ h b => by subst b; omega)
 refine st_take rfl rfl (y_assign (v := iv 0) rfl rfl) rfl ?_
 obtain ⟨gr, ao⟩ : ∃ a', a' = c1.put (some 6) (iv 0) := ⟨_, rfl⟩
 have hI := pz ao ci
 have ez := pd ao ec
 have gs := pn ao c3 (by decide)
 have gt := pn ao c5 (by decide)
 have iC := pn ao c7 (by decide)
 have iD := pn ao c9 (by decide)
 have gu : gr.eval (.tmp 6) = iv 0 := by rw [ao]; exact put_same _ _ _ (by rw [ci]; decide)
 show stepsTo _ _ _ _ _ (c1.put (some 6) (iv 0)) _
 rw [← ao]
 refine st_nil (eb _ _ ?_)
 refine wp_ret (ret_k ez (v := .tuple #[vv (numericV v).1 ax au aL av, vv (numericV u).1 ai ad aj ae, iv 0]) (res_cct rfl gs gt gu (l_agg Tryz.isAgg29 Tryz.sizeOf29 ex rfl) (l_agg Tryz.isAgg29 Tryz.sizeOf29 er rfl)) ?_)
 have ay : (numericsV v u).1.mag = (numericV v).1.mag := by first | rfl | (simp only [numericsV, Vl.z, ab, aa, ac, bsm] <;> rfl) | (exfalso; omega)
 have az : (numericsV v u).1.s = (numericV v).1.s := by first | rfl | (simp only [numericsV, Vl.z, ab, aa, ac, bsm] <;> rfl) | (exfalso; omega)
 have aA : (numericsV v u).2.1.mag = (numericV u).1.mag := by first | rfl | (simp only [numericsV, Vl.z, ab, aa, ac, bsm] <;> rfl) | (exfalso; omega)
 have aB : (numericsV v u).2.1.s = (numericV u).1.s := by first | rfl | (simp only [numericsV, Vl.z, ab, aa, ac, bsm] <;> rfl) | (exfalso; omega)
 exact ⟨ax, au, aL, av, ai, ad, aj, ae, (by show Ending.returned (.tuple #[vv (numericV v).1 ax au aL av, vv (numericV u).1 ai ad aj ae, iv 0]) = Ending.returned (.tuple #[vv (numericsV v u).1 ax au aL av, vv (numericsV v u).2.1 ai ad aj ae, iv ((numericsV v u).2.2)]); (first | rfl | (simp only [numericsV, Vl.z, ab, aa, ac, ay, az, aA, aB, bsm] <;> rfl) | (exfalso; omega))), (by rw [ay]; exact et), (by rw [az]; exact eu), (by rw [aA]; exact ev), (by rw [aB]; exact ew), ey⟩
 have c0 := oF ac
 refine wp_g0 [true, true, true, true, true, true] [] 41
   [ve (pv bm), ve (iv ((numericV v).1.k)), ve (pv aR), ve (iv ((numericV u).1.k)), vT, vT] be (.eq (.eq (.eq (.eq (.eq (.eq (.nil))))))) ?_ ?_
 exact .f (fun k => k.fx 7 bD) <| .t (fun _ w hn k => ⟨_, v_load rfl (k.eq1 0 32 rfl) (l_one Tryz.isAgg3 ((bf.new_ hn).cell 0)), rfl⟩) <| .f (fun k => k.fx 9 bE) <| .t (fun _ w hn k => ⟨_, v_load rfl (k.eq1 2 34 rfl) (l_one Tryz.isAgg3 ((bg.new_ hn).cell 0)), rfl⟩) <| .t (fun _ w hn k => ⟨_, v_bin rfl (k.eq1 1 33 rfl) (k.eq1 3 35 rfl) (fun _ => rfl) (r_neq ac), rfl⟩) <| .a (fun k => k.eq1 4 36 rfl) .nil
 refine aftI be b6 b7 fun iE iF cm eA eB ap a5 => ?_
 have gv := a5.fx 4 cY
 have gw := a5.fx 5 cZ
 have iG := a5.fx 7 bD
 have iH := a5.fx 9 bE
 have gx := a5.ge 5 31 rfl
 have eC := b8.new_ ap
 have eD := b9.new_ ap
 have hJ := bf.new_ ap
 have hK := bg.new_ ap
 have hL := ca.new_ ap
 have hM := cb.new_ ap
 have hN := cc.new_ ap
 have hO := cd.new_ ap
 refine st_nil (ce _ _ ?_)
 refine wp_cond_true gx ?_
 refine wp_seq_k fun iI eE => ?_
 refine wp_g [true, true, false, false, false] [1] [(2, false), (3, false), (4, true)] 41
   [ve (vv (Vl.mk 0 0 0 false [] [] 0) none 0 none 0), ve (vv (Vl.mk 0 0 0 false [] [] 0) none 0 none 0), vt, vt, vt]
   [] newsNil cm (.eq (.eq (.tt (.tt (.tt (.nil)))))) ?_ ?_ ?_
 refine .t (fun _ w hn k => ⟨_, v_build (ps := []) rfl parts0 (by kernel_rfl), rfl⟩) ?_
 refine .o3 ?_
 exact .off <| .off <| .off .nil
 intro i h
 simp only [List.contains_eq_mem, List.mem_cons, List.not_mem_nil, or_false, decide_eq_true_eq] at h
 subst h
 exact eager_take rfl rfl fun _ w hn k => ⟨vv (Vl.mk 0 0 0 false [] [] 0) none 0 none 0, fun w => v_build (ps := []) rfl parts0 (by kernel_rfl), rfl⟩
 refine aftI cm eA eB fun de iJ cn eF eG co bh => ?_
 have df := bh.fx 4 gv
 have dg := bh.fx 5 gw
 have dh := bh.ge 0 37 rfl
 have di := bh.ge 1 38 rfl
 have eH := eC.new_ co
 have eI := eD.new_ co
 obtain ⟨gy, dj, dk, eJ, eK⟩ := s_many (P := Tryz.prog) (t := 29) (i := 0) [iv 0, iv 0, iv 0, .bool false, sv none ([]) 0, sv none ([]) 0, iv 0] Tryz.sizeOf29 rfl rfl rfl eH lb
 have eL : Blk gy aT 29 [iv 0, iv 0, iv 0, .bool false, sv none ([]) 0, sv none ([]) 0, iv 0] := dk
 refine st_act rfl rfl fun iK eM => a_store' rfl df dh dj (eM _ _ trivial ?_)
 have eN := eK _ _ _ (fun h => hne28 h.symm) eI
 have eO := eG.trans eJ (fun _ h b => by subst b; omega)
 obtain ⟨gz, dl, dm, eP, eQ⟩ := s_many (P := Tryz.prog) (t := 29) (i := 0) [iv 0, iv 0, iv 0, .bool false, sv none ([]) 0, sv none ([]) 0, iv 0] Tryz.sizeOf29 rfl rfl rfl eN lb
 have eR : Blk gz aU 29 [iv 0, iv 0, iv 0, .bool false, sv none ([]) 0, sv none ([]) 0, iv 0] := dm
 refine st_act rfl rfl fun iL eS => a_store' rfl dg di dl (eS _ _ trivial ?_)
 have eT := eQ _ _ _ (hne28) eL
 have eU := eO.trans eP (fun _ h b => by subst b; omega)
 refine st_take rfl rfl (y_assign (v := iv 1) rfl rfl) rfl ?_
 obtain ⟨gA, aq⟩ : ∃ a', a' = de.put (some 6) (iv 1) := ⟨_, rfl⟩
 have hP := pz aq cn
 have eV := pd aq eF
 have gB := pn aq df (by decide)
 have gC := pn aq dg (by decide)
 have iM := pn aq dh (by decide)
 have iN := pn aq di (by decide)
 have gD : gA.eval (.tmp 6) = iv 1 := by rw [aq]; exact put_same _ _ _ (by rw [cn]; decide)
 show stepsTo _ _ _ _ _ (de.put (some 6) (iv 1)) _
 rw [← aq]
 refine st_nil (eE _ _ ?_)
 refine wp_ret (ret_k eV (v := .tuple #[vv (Vl.mk 0 0 0 false [] [] 0) none 0 none 0, vv (Vl.mk 0 0 0 false [] [] 0) none 0 none 0, iv 1]) (res_cct rfl gB gC gD (l_agg Tryz.isAgg29 Tryz.sizeOf29 eT rfl) (l_agg Tryz.isAgg29 Tryz.sizeOf29 eR rfl)) ?_)
 have ay : (numericsV v u).1.mag = [] := by first | rfl | (simp only [numericsV, Vl.z, ab, aa, ac, bsm] <;> rfl) | (exfalso; omega)
 have az : (numericsV v u).1.s = [] := by first | rfl | (simp only [numericsV, Vl.z, ab, aa, ac, bsm] <;> rfl) | (exfalso; omega)
 have aA : (numericsV v u).2.1.mag = [] := by first | rfl | (simp only [numericsV, Vl.z, ab, aa, ac, bsm] <;> rfl) | (exfalso; omega)
 have aB : (numericsV v u).2.1.s = [] := by first | rfl | (simp only [numericsV, Vl.z, ab, aa, ac, bsm] <;> rfl) | (exfalso; omega)
 exact ⟨none, 0, none, 0, none, 0, none, 0, (by show Ending.returned (.tuple #[vv (Vl.mk 0 0 0 false [] [] 0) none 0 none 0, vv (Vl.mk 0 0 0 false [] [] 0) none 0 none 0, iv 1]) = Ending.returned (.tuple #[vv (numericsV v u).1 none 0 none 0, vv (numericsV v u).2.1 none 0 none 0, iv ((numericsV v u).2.2)]); (first | rfl | (simp only [numericsV, Vl.z, ab, aa, ac, ay, az, aA, aB, bsm] <;> rfl) | (exfalso; omega))), (by rw [ay]; exact (SRow.nil _ _)), (by rw [az]; exact (SRow.nil _ _)), (by rw [aA]; exact (SRow.nil _ _)), (by rw [aB]; exact (SRow.nil _ _)), eU⟩
 have cX := oF aa
 refine wp_g0 [true, true, true] [] 41
   [ve (iv ((numericV u).2)), vT, vT] bd (.eq (.eq (.eq (.nil)))) ?_ ?_
 exact .m (fun k => k.fx 8 bC) <| .t (fun _ w hn k => ⟨_, v_bin rfl (k.eq1 0 26 rfl) rfl (fun _ => rfl) (r_neq aa), rfl⟩) <| .a (fun k => k.eq1 1 27 rfl) .nil
 refine aftI bd b4 b3 fun iO iP cp eW eX ar aE => ?_
 have gE := aE.fx 4 cT
 have gF := aE.fx 5 cU
 have iQ := aE.fx 7 cV
 have iR := aE.fx 9 cW
 have gG := aE.fx 8 bC
 have gH := aE.ge 2 25 rfl
 have eY := b0.new_ ar
 have eZ := b1.new_ ar
 have hQ := b2.new_ ar
 have hR := bV.new_ ar
 have hT := bW.new_ ar
 have hU := bX.new_ ar
 have hV := bY.new_ ar
 have hW := bZ.new_ ar
 refine st_nil (b5 _ _ ?_)
 refine wp_cond_true gH ?_
 refine wp_seq_k fun iS e0 => ?_
 refine wp_g [true, true, true, false, false, false] [1, 2] [(3, false), (4, false), (5, true)] 41
   [ve (vv (Vl.mk 0 0 0 false [] [] 0) none 0 none 0), ve (vv (Vl.mk 0 0 0 false [] [] 0) none 0 none 0), ve (iv ((numericV u).2)), vt, vt, vt]
   [] newsNil cp (.eq (.eq (.eq (.tt (.tt (.tt (.nil))))))) ?_ ?_ ?_
 refine .t (fun _ w hn k => ⟨_, v_build (ps := []) rfl parts0 (by kernel_rfl), rfl⟩) ?_
 refine .o3 ?_
 refine .o3 ?_
 exact .off <| .off <| .off .nil
 intro i h
 simp only [List.contains_eq_mem, List.mem_cons, List.not_mem_nil, or_false, decide_eq_true_eq] at h
 rcases h with rfl | rfl
 exact eager_take rfl rfl fun _ w hn k => ⟨vv (Vl.mk 0 0 0 false [] [] 0) none 0 none 0, fun w => v_build (ps := []) rfl parts0 (by kernel_rfl), rfl⟩
 exact eager_take rfl rfl fun _ w hn k => ⟨iv ((numericV u).2), fun w => v_move rfl (k.fx 8 gG), rfl⟩
 refine aftI cp eW eX fun dn iT cq e1 e2 cr a6 => ?_
 have dp := a6.fx 4 gE
 have dq := a6.fx 5 gF
 have dr := a6.ge 0 28 rfl
 have ds := a6.ge 1 29 rfl
 have dt := a6.ge 2 30 rfl
 have e3 := eY.new_ cr
 have e4 := eZ.new_ cr
 obtain ⟨gI, dw, dx, e5, e6⟩ := s_many (P := Tryz.prog) (t := 29) (i := 0) [iv 0, iv 0, iv 0, .bool false, sv none ([]) 0, sv none ([]) 0, iv 0] Tryz.sizeOf29 rfl rfl rfl e3 lb
 have e7 : Blk gI aT 29 [iv 0, iv 0, iv 0, .bool false, sv none ([]) 0, sv none ([]) 0, iv 0] := dx
 refine st_act rfl rfl fun iU e8 => a_store' rfl dp dr dw (e8 _ _ trivial ?_)
 have e9 := e6 _ _ _ (fun h => hne28 h.symm) e4
 have fa := e2.trans e5 (fun _ h b => by subst b; omega)
 obtain ⟨gJ, dy, dz, fb, fc⟩ := s_many (P := Tryz.prog) (t := 29) (i := 0) [iv 0, iv 0, iv 0, .bool false, sv none ([]) 0, sv none ([]) 0, iv 0] Tryz.sizeOf29 rfl rfl rfl e9 lb
 have fd : Blk gJ aU 29 [iv 0, iv 0, iv 0, .bool false, sv none ([]) 0, sv none ([]) 0, iv 0] := dz
 refine st_act rfl rfl fun iV fe => a_store' rfl dq ds dy (fe _ _ trivial ?_)
 have ff := fc _ _ _ (hne28) e7
 have fg := fa.trans fb (fun _ h b => by subst b; omega)
 refine st_take rfl rfl (y_assign (v := iv ((numericV u).2)) rfl dt) rfl ?_
 obtain ⟨gK, ag⟩ : ∃ a', a' = dn.put (some 6) (iv ((numericV u).2)) := ⟨_, rfl⟩
 have hX := pz ag cq
 have fh := pd ag e1
 have gL := pn ag dp (by decide)
 have gM := pn ag dq (by decide)
 have iW := pn ag dr (by decide)
 have iX := pn ag ds (by decide)
 have iY := pn ag dt (by decide)
 have gN : gK.eval (.tmp 6) = iv ((numericV u).2) := by rw [ag]; exact put_same _ _ _ (by rw [cq]; decide)
 show stepsTo _ _ _ _ _ (dn.put (some 6) (iv ((numericV u).2))) _
 rw [← ag]
 refine st_nil (e0 _ _ ?_)
 refine wp_ret (ret_k fh (v := .tuple #[vv (Vl.mk 0 0 0 false [] [] 0) none 0 none 0, vv (Vl.mk 0 0 0 false [] [] 0) none 0 none 0, iv ((numericV u).2)]) (res_cct rfl gL gM gN (l_agg Tryz.isAgg29 Tryz.sizeOf29 ff rfl) (l_agg Tryz.isAgg29 Tryz.sizeOf29 fd rfl)) ?_)
 have ay : (numericsV v u).1.mag = [] := by first | rfl | (simp only [numericsV, Vl.z, ab, aa, bsm] <;> rfl) | (exfalso; omega)
 have az : (numericsV v u).1.s = [] := by first | rfl | (simp only [numericsV, Vl.z, ab, aa, bsm] <;> rfl) | (exfalso; omega)
 have aA : (numericsV v u).2.1.mag = [] := by first | rfl | (simp only [numericsV, Vl.z, ab, aa, bsm] <;> rfl) | (exfalso; omega)
 have aB : (numericsV v u).2.1.s = [] := by first | rfl | (simp only [numericsV, Vl.z, ab, aa, bsm] <;> rfl) | (exfalso; omega)
 exact ⟨none, 0, none, 0, none, 0, none, 0, (by show Ending.returned (.tuple #[vv (Vl.mk 0 0 0 false [] [] 0) none 0 none 0, vv (Vl.mk 0 0 0 false [] [] 0) none 0 none 0, iv ((numericV u).2)]) = Ending.returned (.tuple #[vv (numericsV v u).1 none 0 none 0, vv (numericsV v u).2.1 none 0 none 0, iv ((numericsV v u).2.2)]); (first | rfl | (simp only [numericsV, Vl.z, ab, aa, ay, az, aA, aB, bsm] <;> rfl) | (exfalso; omega))), (by rw [ay]; exact (SRow.nil _ _)), (by rw [az]; exact (SRow.nil _ _)), (by rw [aA]; exact (SRow.nil _ _)), (by rw [aB]; exact (SRow.nil _ _)), fg⟩
 have dM := oF ab
 refine wp_g0 [true, true] [] 41
   [ve (iv ((numericV v).2)), vT] bz (.eq (.eq (.nil))) ?_ ?_
 exact .m (fun k => k.fx 8 bQ) <| .t (fun _ w hn k => ⟨_, v_bin rfl (k.eq1 0 15 rfl) rfl (fun _ => rfl) (r_neq ab), rfl⟩) .nil
 refine aftI bz cM cL fun iZ i0 ct fi fj aF aG => ?_
 have i1 := aG.fx 3 fI
 have gO := aG.fx 4 fJ
 have gP := aG.fx 5 fK
 have i2 := aG.fx 7 fL
 have gQ := aG.fx 8 bQ
 have gR := aG.ge 1 16 rfl
 have hY := cI.new_ aF
 have fk := cJ.new_ aF
 have fl := cK.new_ aF
 have hZ := cF.new_ aF
 have h3 := cG.new_ aF
 have h4 := cH.new_ aF
 refine st_nil (cN _ _ ?_)
 refine wp_cond_true gR ?_
 refine wp_seq_k fun i3 fm => ?_
 refine wp_g [true, true, true, false, false, false] [1, 2] [(3, false), (4, false), (5, true)] 41
   [ve (vv (Vl.mk 0 0 0 false [] [] 0) none 0 none 0), ve (vv (Vl.mk 0 0 0 false [] [] 0) none 0 none 0), ve (iv ((numericV v).2)), vt, vt, vt]
   [] newsNil ct (.eq (.eq (.eq (.tt (.tt (.tt (.nil))))))) ?_ ?_ ?_
 refine .t (fun _ w hn k => ⟨_, v_build (ps := []) rfl parts0 (by kernel_rfl), rfl⟩) ?_
 refine .o3 ?_
 refine .o3 ?_
 exact .off <| .off <| .off .nil
 intro i h
 simp only [List.contains_eq_mem, List.mem_cons, List.not_mem_nil, or_false, decide_eq_true_eq] at h
 rcases h with rfl | rfl
 exact eager_take rfl rfl fun _ w hn k => ⟨vv (Vl.mk 0 0 0 false [] [] 0) none 0 none 0, fun w => v_build (ps := []) rfl parts0 (by kernel_rfl), rfl⟩
 exact eager_take rfl rfl fun _ w hn k => ⟨iv ((numericV v).2), fun w => v_move rfl (k.fx 8 gQ), rfl⟩
 refine aftI ct fi fj fun dA i4 cw fn fo cx a7 => ?_
 have dB := a7.fx 4 gO
 have dC := a7.fx 5 gP
 have dD := a7.ge 0 17 rfl
 have dE := a7.ge 1 18 rfl
 have dF := a7.ge 2 19 rfl
 have fp := fk.new_ cx
 have fq := fl.new_ cx
 obtain ⟨gS, dG, dH, fr, fs⟩ := s_many (P := Tryz.prog) (t := 29) (i := 0) [iv 0, iv 0, iv 0, .bool false, sv none ([]) 0, sv none ([]) 0, iv 0] Tryz.sizeOf29 rfl rfl rfl fp lb
 have ft : Blk gS aT 29 [iv 0, iv 0, iv 0, .bool false, sv none ([]) 0, sv none ([]) 0, iv 0] := dH
 refine st_act rfl rfl fun i5 fu => a_store' rfl dB dD dG (fu _ _ trivial ?_)
 have fv := fs _ _ _ (fun h => hne28 h.symm) fq
 have fw := fo.trans fr (fun _ h b => by subst b; omega)
 obtain ⟨gT, dI, dJ, fy, fz⟩ := s_many (P := Tryz.prog) (t := 29) (i := 0) [iv 0, iv 0, iv 0, .bool false, sv none ([]) 0, sv none ([]) 0, iv 0] Tryz.sizeOf29 rfl rfl rfl fv lb
 have fA : Blk gT aU 29 [iv 0, iv 0, iv 0, .bool false, sv none ([]) 0, sv none ([]) 0, iv 0] := dJ
 refine st_act rfl rfl fun i6 fB => a_store' rfl dC dE dI (fB _ _ trivial ?_)
 have fC := fz _ _ _ (hne28) ft
 have fD := fw.trans fy (fun _ h b => by subst b; omega)
 refine st_take rfl rfl (y_assign (v := iv ((numericV v).2)) rfl dF) rfl ?_
 obtain ⟨gU, ah⟩ : ∃ a', a' = dA.put (some 6) (iv ((numericV v).2)) := ⟨_, rfl⟩
 have h5 := pz ah cw
 have fE := pd ah fn
 have gV := pn ah dB (by decide)
 have gW := pn ah dC (by decide)
 have i7 := pn ah dD (by decide)
 have i8 := pn ah dE (by decide)
 have i9 := pn ah dF (by decide)
 have gX : gU.eval (.tmp 6) = iv ((numericV v).2) := by rw [ah]; exact put_same _ _ _ (by rw [cw]; decide)
 show stepsTo _ _ _ _ _ (dA.put (some 6) (iv ((numericV v).2))) _
 rw [← ah]
 refine st_nil (fm _ _ ?_)
 refine wp_ret (ret_k fE (v := .tuple #[vv (Vl.mk 0 0 0 false [] [] 0) none 0 none 0, vv (Vl.mk 0 0 0 false [] [] 0) none 0 none 0, iv ((numericV v).2)]) (res_cct rfl gV gW gX (l_agg Tryz.isAgg29 Tryz.sizeOf29 fC rfl) (l_agg Tryz.isAgg29 Tryz.sizeOf29 fA rfl)) ?_)
 have ay : (numericsV v u).1.mag = [] := by first | rfl | (simp only [numericsV, Vl.z, ab, bsm] <;> rfl) | (exfalso; omega)
 have az : (numericsV v u).1.s = [] := by first | rfl | (simp only [numericsV, Vl.z, ab, bsm] <;> rfl) | (exfalso; omega)
 have aA : (numericsV v u).2.1.mag = [] := by first | rfl | (simp only [numericsV, Vl.z, ab, bsm] <;> rfl) | (exfalso; omega)
 have aB : (numericsV v u).2.1.s = [] := by first | rfl | (simp only [numericsV, Vl.z, ab, bsm] <;> rfl) | (exfalso; omega)
 exact ⟨none, 0, none, 0, none, 0, none, 0, (by show Ending.returned (.tuple #[vv (Vl.mk 0 0 0 false [] [] 0) none 0 none 0, vv (Vl.mk 0 0 0 false [] [] 0) none 0 none 0, iv ((numericV v).2)]) = Ending.returned (.tuple #[vv (numericsV v u).1 none 0 none 0, vv (numericsV v u).2.1 none 0 none 0, iv ((numericsV v u).2.2)]); (first | rfl | (simp only [numericsV, Vl.z, ab, ay, az, aA, aB, bsm] <;> rfl) | (exfalso; omega))), (by rw [ay]; exact (SRow.nil _ _)), (by rw [az]; exact (SRow.nil _ _)), (by rw [aA]; exact (SRow.nil _ _)), (by rw [aB]; exact (SRow.nil _ _)), fD⟩
theorem bits1_c  (v : Vl) (Av : Option Addr) (cv : Nat) (Bv : Option Addr) (dv : Nat) (u : Vl) (Au : Option Addr) (cu : Nat) (Bu : Option Addr) (du : Nat) (w : World) (hmv : SRow w .u32 Av v.mag cv) (hsv : SRow w .u16 Bv v.s dv) (hmu : SRow w .u32 Au u.mag cu) (hsu : SRow w .u16 Bu u.s du) (hvv : VOk v) (hvu : VOk u) : Calls Tryz.prog 37 #[.string ⟨#[38]⟩, vv v Av cv Bv dv, vv u Au cu Bu du] w (IsRet (.tuple #[vv (Vl.mk (bitsV 1 v u).1 (bitsV 1 v u).2.1.k (bitsV 1 v u).2.1.n false [] [] 0) none 0 none 0, iv ((bitsV 1 v u).2.2)]) w) := by
 refine enter_abs Tryz.func37 rfl fun a0 bo fV hp => ?_
 have bo : a0.tmps.size = 58 := bo
 have bp : New w w := Upd.refl _ _
 have hp0 : a0.eval (.tmp 0) = .string ⟨#[38]⟩ := hp 0 _ rfl
 have hp1 : a0.eval (.tmp 1) = vv v Av cv Bv dv := hp 1 _ rfl
 have hp2 : a0.eval (.tmp 2) = vv u Au cu Bu du := hp 2 _ rfl
 refine wp_seq_k fun K1 fW => ?_
 refine wp_g [true, true, true, true] [] [] 58
   [IsNew w 29 [iv v.k, iv v.nk, iv v.nn, .bool v.neg, sv Av v.mag cv, sv Bv v.s dv, iv v.ref], IsNew w 29 [iv u.k, iv u.nk, iv u.nn, .bool u.neg, sv Au u.mag cu, sv Bu u.s du, iv u.ref], IsNew w 29 [iv 0, iv 0, iv 0, .bool false, sv none ([]) 0, sv none ([]) 0, iv 0], ve (iv 0)]
   [0, 1, 2] (newsCons (fun v w h => IsNew.old h) (newsCons (fun v w h => IsNew.old h) (newsCons (fun v w h => IsNew.old h) newsNil))) bo (.nw (.nw (.nw (.eq (.nil))))) ?_ (fun i h => by cases h) ?_
 exact .o2 (step_allocN (cs := [iv v.k, iv v.nk, iv v.nn, .bool v.neg, sv Av v.mag cv, sv Bv v.s dv, iv v.ref]) (t := 29) rfl (noG rfl) (fun _ w hn k => v_box rfl (k.fx 1 hp1) (fun w => rfl)) (fun q _ hq hb => ⟨q, rfl, hq, hb⟩)) <| .o2 (step_allocN (cs := [iv u.k, iv u.nk, iv u.nn, .bool u.neg, sv Au u.mag cu, sv Bu u.s du, iv u.ref]) (t := 29) rfl (noG rfl) (fun _ w hn k => v_box rfl (k.fx 2 hp2) (fun w => rfl)) (fun q _ hq hb => ⟨q, rfl, hq, hb⟩)) <| .o2 (step_allocN (cs := [iv 0, iv 0, iv 0, .bool false, sv none ([]) 0, sv none ([]) 0, iv 0]) (t := 29) rfl (noG rfl) (fun _ w hn k => rfl) (fun q _ hq hb => ⟨q, rfl, hq, hb⟩)) <| .t (fun _ w hn k => ⟨_, v_assign rfl rfl, rfl⟩) .nil
 refine aftI bo fV bp fun a2 w3 ey fX aE h4 bb => ?_
 have h8 := bb.fx 0 hp0
 obtain ⟨fY, h9, eD, eE⟩ : IsNew _ _ _ _ _ := bb.got 0 4 rfl (by kernel_rfl)
 obtain ⟨fZ, ez, eF, eG⟩ : IsNew _ _ _ _ _ := bb.got 1 5 rfl (by kernel_rfl)
 obtain ⟨aP, bW, eH, bi⟩ : IsNew _ _ _ _ _ := bb.got 2 6 rfl (by kernel_rfl)
 have hne21 : fY ≠ aP := bb.ne 0 2 4 6 h9 bW
 have hne22 : fZ ≠ aP := bb.ne 1 2 5 6 ez bW
 have gM := Nat.le_trans bp.size eD
 have gN := Nat.le_trans bp.size eF
 have gO := Nat.le_trans bp.size eH
 refine st_nil (fW _ _ (wp_seq_k fun h5 eI => ?_))
 refine wp_gS (fun W => True) (fun W W' hn h => trivial) trivial [true, true, true, true, true, true, true, true, true, false, false, false] [5, 6] [(9, false), (10, false), (11, true)] 58
   [ve (vv v Av cv Bv dv), ve (vv u Au cu Bu du), (fun (v_ : Value) (W : World) => ∃ (A9 : Option Addr) (aQ : Nat) (aR : Option Addr) (aS : Nat) (aT : Option Addr) (aU : Nat) (aV : Option Addr) (aW : Nat), v_ = .tuple #[vv (numericsV v u).1 A9 aQ aR aS, vv (numericsV v u).2.1 aT aU aV aW, iv ((numericsV v u).2.2)] ∧ SRow W .u32 A9 ((numericsV v u).1.mag) aQ ∧ SRow W .u16 aR ((numericsV v u).1.s) aS ∧ SRow W .u32 aT ((numericsV v u).2.1.mag) aU ∧ SRow W .u16 aV ((numericsV v u).2.1.s) aW), (fun (v_ : Value) (W : World) => ∃ (ad : Option Addr) (ae : Nat) (af : Option Addr) (ag : Nat) (ah : Option Addr) (ai : Nat) (aj : Option Addr) (ak : Nat), v_ = .tuple #[vv (numericsV v u).1 ad ae af ag, vv (numericsV v u).2.1 ah ai aj ak, iv ((numericsV v u).2.2)] ∧ SRow W .u32 ad ((numericsV v u).1.mag) ae ∧ SRow W .u16 af ((numericsV v u).1.s) ag ∧ SRow W .u32 ah ((numericsV v u).2.1.mag) ai ∧ SRow W .u16 aj ((numericsV v u).2.1.s) ak), (fun (v_ : Value) (W : World) => ∃ (aX : Option Addr) (aY : Nat) (aZ : Option Addr) (a1 : Nat), v_ = vv (numericsV v u).1 aX aY aZ a1 ∧ SRow W .u32 aX ((numericsV v u).1.mag) aY ∧ SRow W .u16 aZ ((numericsV v u).1.s) a1), (fun (v_ : Value) (W : World) => ∃ (a3 : Option Addr) (a4 : Nat) (a5 : Option Addr) (a6 : Nat), v_ = vv (numericsV v u).2.1 a3 a4 a5 a6 ∧ SRow W .u32 a3 ((numericsV v u).2.1.mag) a4 ∧ SRow W .u16 a5 ((numericsV v u).2.1.s) a6), ve (iv ((numericsV v u).2.2)), IsNew w3 29 [iv 0, iv 0, iv 0, .bool false, sv none ([]) 0, sv none ([]) 0, iv 0], IsNew w3 29 [iv 0, iv 0, iv 0, .bool false, sv none ([]) 0, sv none ([]) 0, iv 0], vt, vt, vt]
   [7, 8] (newsCons (fun v w h => IsNew.old h) (newsCons (fun v w h => IsNew.old h) newsNil)) ey (.eq (.eq (.cons (fun v W W' hn ⟨A9, aQ, aR, aS, aT, aU, aV, aW, he, h0, h1, h2, h3⟩ => ⟨A9, aQ, aR, aS, aT, aU, aV, aW, he, h0.new_ hn, h1.new_ hn, h2.new_ hn, h3.new_ hn⟩) (.cons (fun v W W' hn ⟨ad, ae, af, ag, ah, ai, aj, ak, he, h0, h1, h2, h3⟩ => ⟨ad, ae, af, ag, ah, ai, aj, ak, he, h0.new_ hn, h1.new_ hn, h2.new_ hn, h3.new_ hn⟩) (.cons (fun v W W' hn ⟨aX, aY, aZ, a1, he, h0, h1⟩ => ⟨aX, aY, aZ, a1, he, h0.new_ hn, h1.new_ hn⟩) (.cons (fun v W W' hn ⟨a3, a4, a5, a6, he, h0, h1⟩ => ⟨a3, a4, a5, a6, he, h0.new_ hn, h1.new_ hn⟩) (.eq (.nw (.nw (.tt (.tt (.tt (.nil))))))))))))) ?_ ?_ ?_
 refine .t (fun _ w hn k => ⟨_, v_load rfl (k.fx 4 h9) (l_agg Tryz.isAgg29 Tryz.sizeOf29 (eE.new_ hn) rfl), rfl⟩) <| .t (fun _ w hn k => ⟨_, v_load rfl (k.fx 5 ez) (l_agg Tryz.isAgg29 Tryz.sizeOf29 (eG.new_ hn) rfl), rfl⟩) ?_
 refine .o1 (tkC rfl (noG rfl) rfl fun _ w hn k => (by
       refine ⟨#[vv v Av cv Bv dv, vv u Au cu Bu du], _, args2 (k.eq1 0 13 rfl) (k.eq1 1 14 rfl), fun w => by kernel_rfl, numerics_c v _ _ _ _ u _ _ _ _ _ (hmv.new_ (aE.transNew hn)) (hsv.new_ (aE.transNew hn)) (hmu.new_ (aE.transNew hn)) (hsu.new_ (aE.transNew hn)) hvv hvu, ?_⟩
       rintro e w' ⟨A1, c2, A3, c4, A5, c6, A7, c8, rfl, hmo0, hmo1, hmo2, hmo3, hm⟩
       exact ⟨_, rfl, hm, ⟨A1, c2, A3, c4, A5, c6, A7, c8, rfl, hmo0, hmo1, hmo2, hmo3⟩⟩)) ?_
 refine .o1 (tk rfl rfl fun _ w hn k => (by
       obtain ⟨f0, f1, f2, f3, f4, f5, f6, f7, f8, eJ, eK, eL, eM⟩ : (fun (v_ : Value) (W : World) => ∃ (A9 : Option Addr) (aQ : Nat) (aR : Option Addr) (aS : Nat) (aT : Option Addr) (aU : Nat) (aV : Option Addr) (aW : Nat), v_ = .tuple #[vv (numericsV v u).1 A9 aQ aR aS, vv (numericsV v u).2.1 aT aU aV aW, iv ((numericsV v u).2.2)] ∧ SRow W .u32 A9 ((numericsV v u).1.mag) aQ ∧ SRow W .u16 aR ((numericsV v u).1.s) aS ∧ SRow W .u32 aT ((numericsV v u).2.1.mag) aU ∧ SRow W .u16 aV ((numericsV v u).2.1.s) aW) _ _ := k.dep 2 15 (by kernel_rfl) (by kernel_rfl)
       exact ⟨_, v_move rfl f8, ⟨f0, f1, f2, f3, f4, f5, f6, f7, rfl, eJ, eK, eL, eM⟩⟩)) ?_
 refine .o1 (tk rfl rfl fun _ w hn k => (by
       obtain ⟨f9, ga, bh, gb, h6, h7, bq, ia, gc, eN, eO, gP, gQ⟩ : (fun (v_ : Value) (W : World) => ∃ (ad : Option Addr) (ae : Nat) (af : Option Addr) (ag : Nat) (ah : Option Addr) (ai : Nat) (aj : Option Addr) (ak : Nat), v_ = .tuple #[vv (numericsV v u).1 ad ae af ag, vv (numericsV v u).2.1 ah ai aj ak, iv ((numericsV v u).2.2)] ∧ SRow W .u32 ad ((numericsV v u).1.mag) ae ∧ SRow W .u16 af ((numericsV v u).1.s) ag ∧ SRow W .u32 ah ((numericsV v u).2.1.mag) ai ∧ SRow W .u16 aj ((numericsV v u).2.1.s) ak) _ _ := k.dep 3 12 (by kernel_rfl) (by kernel_rfl)
       exact ⟨_, v_extract rfl gc rfl, ⟨f9, ga, bh, gb, rfl, eN, eO⟩⟩)) ?_
 refine .o3 ?_
 refine .o3 ?_
 exact .o2 (step_allocN (cs := [iv 0, iv 0, iv 0, .bool false, sv none ([]) 0, sv none ([]) 0, iv 0]) (t := 29) rfl (noG rfl) (fun _ w hn k => rfl) (fun q _ hq hb => ⟨q, rfl, hq, hb⟩)) <| .o2 (step_allocN (cs := [iv 0, iv 0, iv 0, .bool false, sv none ([]) 0, sv none ([]) 0, iv 0]) (t := 29) rfl (noG rfl) (fun _ w hn k => rfl) (fun q _ hq hb => ⟨q, rfl, hq, hb⟩)) <| .off <| .off <| .off .nil
 intro i h
 simp only [List.contains_eq_mem, List.mem_cons, List.not_mem_nil, or_false, decide_eq_true_eq] at h
 rcases h with rfl | rfl
 exact eager_takeG rfl (noG rfl) fun _ w hn k => (by
     obtain ⟨ib, ic, id, ie, gd, gf, gg, gh, gi, gR, gS, eP, eQ⟩ : (fun (v_ : Value) (W : World) => ∃ (ad : Option Addr) (ae : Nat) (af : Option Addr) (ag : Nat) (ah : Option Addr) (ai : Nat) (aj : Option Addr) (ak : Nat), v_ = .tuple #[vv (numericsV v u).1 ad ae af ag, vv (numericsV v u).2.1 ah ai aj ak, iv ((numericsV v u).2.2)] ∧ SRow W .u32 ad ((numericsV v u).1.mag) ae ∧ SRow W .u16 af ((numericsV v u).1.s) ag ∧ SRow W .u32 ah ((numericsV v u).2.1.mag) ai ∧ SRow W .u16 aj ((numericsV v u).2.1.s) ak) _ _ := k.dep 3 12 (by kernel_rfl) (by kernel_rfl)
     exact ⟨_, fun w hS => v_extract rfl gi rfl, ⟨gd, gf, gg, gh, rfl, eP, eQ⟩⟩)
 exact eager_takeG rfl (noG rfl) fun _ w hn k => (by
     obtain ⟨ig, ih, ii, ij, ik, il, im, io, gj, gT, gU, gV, gW⟩ : (fun (v_ : Value) (W : World) => ∃ (ad : Option Addr) (ae : Nat) (af : Option Addr) (ag : Nat) (ah : Option Addr) (ai : Nat) (aj : Option Addr) (ak : Nat), v_ = .tuple #[vv (numericsV v u).1 ad ae af ag, vv (numericsV v u).2.1 ah ai aj ak, iv ((numericsV v u).2.2)] ∧ SRow W .u32 ad ((numericsV v u).1.mag) ae ∧ SRow W .u16 af ((numericsV v u).1.s) ag ∧ SRow W .u32 ah ((numericsV v u).2.1.mag) ai ∧ SRow W .u16 aj ((numericsV v u).2.1.s) ak) _ _ := k.dep 3 12 (by kernel_rfl) (by kernel_rfl)
     exact ⟨_, fun w hS => v_extract rfl gj rfl, rfl⟩)
 intro br ip _ bX al
 obtain ⟨bY, eR, eS⟩ := aft al ey fX aE bX
 have gk := al.fx 0 h8
 have gl := al.fx 6 bW
 obtain ⟨bZ, bj, bh, bk, bs, eT, eU⟩ : (fun (v_ : Value) (W : World) => ∃ (aX : Option Addr) (aY : Nat) (aZ : Option Addr) (a1 : Nat), v_ = vv (numericsV v u).1 aX aY aZ a1 ∧ SRow W .u32 aX ((numericsV v u).1.mag) aY ∧ SRow W .u16 aZ ((numericsV v u).1.s) a1) _ _ := al.got 4 16 rfl (by kernel_rfl)
 have bs : br.eval (.tmp 16) = vv (numericsV v u).1 bZ bj bh bk := bs
 obtain ⟨bq, bl, b0, bm, bt, eV, eW⟩ : (fun (v_ : Value) (W : World) => ∃ (a3 : Option Addr) (a4 : Nat) (a5 : Option Addr) (a6 : Nat), v_ = vv (numericsV v u).2.1 a3 a4 a5 a6 ∧ SRow W .u32 a3 ((numericsV v u).2.1.mag) a4 ∧ SRow W .u16 a5 ((numericsV v u).2.1.s) a6) _ _ := al.got 5 17 rfl (by kernel_rfl)
 have bt : br.eval (.tmp 17) = vv (numericsV v u).2.1 bq bl b0 bm := bt
 have eA := al.ge 6 18 rfl
 obtain ⟨aL, b1, b2, a7⟩ : IsNew _ _ _ _ _ := al.got 7 8 rfl (by kernel_rfl)
 obtain ⟨bu, b3, b4, eX⟩ : IsNew _ _ _ _ _ := al.got 8 9 rfl (by kernel_rfl)
 have eY := bi.new_ bX
 have hne60 : aL ≠ bu := al.ne 7 8 8 9 b1 b3
 have hne61 : aP ≠ aL := by have h1 := bi.lt; have h2 := b2; omega
 have hne62 : aP ≠ bu := by have h1 := bi.lt; have h2 := b4; omega
 have gX := Nat.le_trans aE.size b2
 have gY := Nat.le_trans aE.size b4
 obtain ⟨gn, cK, cL, a8, b5⟩ := s_many (P := Tryz.prog) (t := 29) (i := 0) [iv ((numericsV v u).1.k), iv ((numericsV v u).1.nk), iv ((numericsV v u).1.nn), .bool ((numericsV v u).1.neg), sv bZ ((numericsV v u).1.mag) bj, sv bh ((numericsV v u).1.s) bk, iv ((numericsV v u).1.ref)] Tryz.sizeOf29 rfl rfl rfl a7 lb
 have eZ : Blk gn aL 29 [iv ((numericsV v u).1.k), iv ((numericsV v u).1.nk), iv ((numericsV v u).1.nn), .bool ((numericsV v u).1.neg), sv bZ ((numericsV v u).1.mag) bj, sv bh ((numericsV v u).1.s) bk, iv ((numericsV v u).1.ref)] := cL
 refine st_act rfl rfl fun iq e0 => a_store' rfl b1 bs cK (e0 _ _ trivial ?_)
 have e1 := eT.far a7 a8 (by first | rfl | decide | simp [notK])
 have e2 := eU.far a7 a8 (by first | rfl | decide | simp [notK])
 have e3 := eV.far a7 a8 (by first | rfl | decide | simp [notK])
 have e4 := eW.far a7 a8 (by first | rfl | decide | simp [notK])
 have e5 := b5 _ _ _ (hne61) eY
 have a9 := b5 _ _ _ (fun h => hne60 h.symm) eX
 have e6 := eS.trans a8 (fun _ h b => by subst b; omega)
 obtain ⟨go, cM, cN, ba, b6⟩ := s_many (P := Tryz.prog) (t := 29) (i := 0) [iv ((numericsV v u).2.1.k), iv ((numericsV v u).2.1.nk), iv ((numericsV v u).2.1.nn), .bool ((numericsV v u).2.1.neg), sv bq ((numericsV v u).2.1.mag) bl, sv b0 ((numericsV v u).2.1.s) bm, iv ((numericsV v u).2.1.ref)] Tryz.sizeOf29 rfl rfl rfl a9 lb
 have b7 : Blk go bu 29 [iv ((numericsV v u).2.1.k), iv ((numericsV v u).2.1.nk), iv ((numericsV v u).2.1.nn), .bool ((numericsV v u).2.1.neg), sv bq ((numericsV v u).2.1.mag) bl, sv b0 ((numericsV v u).2.1.s) bm, iv ((numericsV v u).2.1.ref)] := cN
 refine st_act rfl rfl fun ir e7 => a_store' rfl b3 bt cM (e7 _ _ trivial ?_)
 have b8 := e1.far a9 ba (by first | rfl | decide | simp [notK])
 have b9 := e2.far a9 ba (by first | rfl | decide | simp [notK])
 have ca := e3.far a9 ba (by first | rfl | decide | simp [notK])
 have cb := e4.far a9 ba (by first | rfl | decide | simp [notK])
 have cc := b6 _ _ _ (hne62) e5
 have cd := b6 _ _ _ (hne60) eZ
 have ce := e6.trans ba (fun _ h b => by subst b; omega)
 refine st_take rfl rfl (y_assign (v := iv ((numericsV v u).2.2)) rfl eA) rfl ?_
 obtain ⟨gp, ab⟩ : ∃ a', a' = br.put (some 10) (iv ((numericsV v u).2.2)) := ⟨_, rfl⟩
 have bd := pz ab bY
 have cf := pd ab eR
 have eB := pn ab gk (by decide)
 have eC := pn ab gl (by decide)
 have gZ := pn ab bs (by decide)
 have g0 := pn ab bt (by decide)
 have g1 := pn ab eA (by decide)
 have ch := pn ab b1 (by decide)
 have ci := pn ab b3 (by decide)
 have be : gp.eval (.tmp 10) = iv ((numericsV v u).2.2) := by rw [ab]; exact put_same _ _ _ (by rw [bY]; decide)
 show stepsTo _ _ _ _ _ (br.put (some 10) (iv ((numericsV v u).2.2))) _
 rw [← ab]
 refine st_nil (eI _ _ (wp_seq_k fun g2 cO => ?_))
 refine wp_block ?_
 refine wp_seq_k fun g3 bv => ?_
 rcases bc (decide (((numericsV v u).2.2) = 0)) with ac | ac
 have cj := oT ac
 refine wp_g0 [true, true, true] [] 58
   [ve (iv ((numericsV v u).2.2)), vF, vF] bd (.eq (.eq (.eq (.nil)))) ?_ ?_
 exact .m (fun k => k.fx 10 be) <| .t (fun _ w hn k => ⟨_, v_bin rfl (k.eq1 0 20 rfl) rfl (fun _ => rfl) (r_neq ac), rfl⟩) <| .a (fun k => k.eq1 1 21 rfl) .nil
 refine aftI bd cf ce fun g4 g5 aM bw bx am az => ?_
 have bn := az.fx 0 eB
 have cl := az.fx 6 eC
 have bf := az.fx 8 ch
 have cm := az.fx 9 ci
 have g6 := az.fx 10 be
 have e8 := az.ge 2 19 rfl
 have bz := cc.new_ am
 have aN := cd.new_ am
 have bA := b7.new_ am
 have bB := b8.new_ am
 have bC := b9.new_ am
 have bD := ca.new_ am
 have bE := cb.new_ am
 refine st_nil (bv _ _ ?_)
 refine wp_cond_false e8 ?_
 refine wp_seq_k fun g7 bF => ?_
 rcases bc (decide (((numericsV v u).1.k) = 4)) with aa | aa
 have cn := oT aa
 refine wp_g0 (.replicate 8 true) [] 58
   [ve (pv aL), ve (iv ((numericsV v u).1.k)), vT, vT, ve (.string ⟨#[38]⟩), vF, vF, vF] aM (.eq (.eq (.eq (.eq (.eq (.eq (.eq (.eq (.nil))))))))) ?_ ?_
 exact .f (fun k => k.fx 8 bf) <| .t (fun _ w hn k => ⟨_, v_load rfl (k.eq1 0 25 rfl) (l_one Tryz.isAgg3 ((aN.new_ hn).cell 0)), rfl⟩) <| .t (fun _ w hn k => ⟨_, v_bin rfl (k.eq1 1 26 rfl) rfl (fun _ => rfl) (r_eql aa), rfl⟩) <| .m (fun k => k.eq1 2 27 rfl) <| .gm (fun k => k.eq1 3 28 rfl) (fun k => k.fx 0 bn) <| .g (fun k => k.eq1 3 28 rfl) (fun _ w hn k => ⟨_, v_bin rfl (k.eq1 4 29 rfl) rfl (fun _ => rfl) (r_eqlS (r := false) (by kernel_rfl)), rfl⟩) <| .t (fun _ w hn k => ⟨_, v_pickT rfl (k.eq1 3 28 rfl) (k.eq1 5 30 rfl), rfl⟩) <| .a (fun k => k.eq1 6 31 rfl) .nil
 refine aftI aM bw bx fun g8 g9 bG cP cQ an aF => ?_
 have e9 := aF.fx 0 bn
 have fa := aF.fx 6 cl
 have co := aF.fx 8 bf
 have fb := aF.fx 9 cm
 have fc := aF.ge 7 24 rfl
 have cR := bz.new_ an
 have bH := aN.new_ an
 have cS := bA.new_ an
 have cT := bB.new_ an
 have cU := bC.new_ an
 have cV := bD.new_ an
 have cW := bE.new_ an
 refine st_nil (bF _ _ ?_)
 refine wp_cond_false fc ?_
 refine wp_seq_k fun ha cX => ?_
 refine wp_g0 [true, true, true, true] [] 58
   [ve (pv aL), ve (iv ((numericsV v u).1.k)), vT, vT] bG (.eq (.eq (.eq (.eq (.nil))))) ?_ ?_
 exact .f (fun k => k.fx 8 co) <| .t (fun _ w hn k => ⟨_, v_load rfl (k.eq1 0 34 rfl) (l_one Tryz.isAgg3 ((bH.new_ hn).cell 0)), rfl⟩) <| .t (fun _ w hn k => ⟨_, v_bin rfl (k.eq1 1 35 rfl) rfl (fun _ => rfl) (r_eql aa), rfl⟩) <| .a (fun k => k.eq1 2 36 rfl) .nil
 refine aftI bG cP cQ fun hc hd bI cY cZ ao aG => ?_
 have hf := aG.fx 0 e9
 have fd := aG.fx 6 fa
 have hg := aG.fx 8 co
 have hh := aG.fx 9 fb
 have fe := aG.ge 3 33 rfl
 have c0 := cR.new_ ao
 have gq := bH.new_ ao
 have gr := cS.new_ ao
 have gs := cT.new_ ao
 have gt := cU.new_ ao
 have gu := cV.new_ ao
 have gv := cW.new_ ao
 refine st_nil (cX _ _ ?_)
 refine wp_cond_true fe ?_
 refine wp_seq_k fun hi c1 => ?_
 refine wp_g0 [true, false, false] [(1, false), (2, true)] 58
   [ve (vv (Vl.mk 0 0 0 false [] [] 0) none 0 none 0), vt, vt] bI (.eq (.tt (.tt (.nil)))) ?_ ?_
 exact .t (fun _ w hn k => ⟨_, v_build (ps := []) rfl parts0 (by kernel_rfl), rfl⟩) <| .off <| .off .nil
 refine aftI bI cY cZ fun cp hj bJ c3 c5 c7 bK => ?_
 have cq := bK.fx 6 fd
 have cr := bK.ge 0 37 rfl
 have c9 := c0.new_ c7
 obtain ⟨ff, ct, cw, da, gw⟩ := s_many (P := Tryz.prog) (t := 29) (i := 0) [iv 0, iv 0, iv 0, .bool false, sv none ([]) 0, sv none ([]) 0, iv 0] Tryz.sizeOf29 rfl rfl rfl c9 lb
 have db : Blk ff aP 29 [iv 0, iv 0, iv 0, .bool false, sv none ([]) 0, sv none ([]) 0, iv 0] := cw
 refine st_act rfl rfl fun hl dc => a_store' rfl cq cr ct (dc _ _ trivial ?_)
 have dd := c5.trans da (fun _ h b => by subst b; omega)
 refine st_take rfl rfl (y_assign (v := iv 3) rfl rfl) rfl ?_
 obtain ⟨fg, aA⟩ : ∃ a', a' = cp.put (some 7) (iv 3) := ⟨_, rfl⟩
 have gx := pz aA bJ
 have de := pd aA c3
 have fh := pn aA cq (by decide)
 have ho := pn aA cr (by decide)
 have fi : fg.eval (.tmp 7) = iv 3 := by rw [aA]; exact put_same _ _ _ (by rw [bJ]; decide)
 show stepsTo _ _ _ _ _ (cp.put (some 7) (iv 3)) _
 rw [← aA]
 refine st_nil (c1 _ _ ?_)
 refine wp_ret (ret_k de (v := .tuple #[vv (Vl.mk 0 0 0 false [] [] 0) none 0 none 0, iv 3]) (res_ct rfl fh fi (l_agg Tryz.isAgg29 Tryz.sizeOf29 db rfl)) ?_)
 refine ⟨?_, dd⟩
 show Ending.returned (.tuple #[vv (Vl.mk 0 0 0 false [] [] 0) none 0 none 0, iv 3]) = Ending.returned (.tuple #[vv (Vl.mk (bitsV 1 v u).1 (bitsV 1 v u).2.1.k (bitsV 1 v u).2.1.n false [] [] 0) none 0 none 0, iv ((bitsV 1 v u).2.2)])
 first | rfl | (simp only [bitsV_eq, ac, aa, bsm] <;> rfl) | (exfalso; omega)
 have cn := oF aa
 refine wp_g0 (.replicate 8 true) [] 58
   [ve (pv aL), ve (iv ((numericsV v u).1.k)), vF, vF, vU, vU, vF, vF] aM (.eq (.eq (.eq (.eq (.eq (.eq (.eq (.eq (.nil))))))))) ?_ ?_
 exact .f (fun k => k.fx 8 bf) <| .t (fun _ w hn k => ⟨_, v_load rfl (k.eq1 0 25 rfl) (l_one Tryz.isAgg3 ((aN.new_ hn).cell 0)), rfl⟩) <| .t (fun _ w hn k => ⟨_, v_bin rfl (k.eq1 1 26 rfl) rfl (fun _ => rfl) (r_eql aa), rfl⟩) <| .m (fun k => k.eq1 2 27 rfl) <| .s (fun k => k.eq1 3 28 rfl) <| .s (fun k => k.eq1 3 28 rfl) <| .t (fun _ w hn k => ⟨_, v_pickF rfl (k.eq1 3 28 rfl) rfl, rfl⟩) <| .a (fun k => k.eq1 6 31 rfl) .nil
 refine aftI aM bw bx fun hr hs bL df dg ap aH => ?_
 have fj := aH.fx 0 bn
 have fk := aH.fx 6 cl
 have cx := aH.fx 8 bf
 have fl := aH.fx 9 cm
 have fm := aH.ge 7 24 rfl
 have dh := bz.new_ ap
 have bM := aN.new_ ap
 have di := bA.new_ ap
 have dj := bB.new_ ap
 have dk := bC.new_ ap
 have dl := bD.new_ ap
 have dm := bE.new_ ap
 refine st_nil (bF _ _ ?_)
 refine wp_cond_false fm ?_
 refine wp_seq_k fun ht dn => ?_
 refine wp_g0 [true, true, true, true] [] 58
   [ve (pv aL), ve (iv ((numericsV v u).1.k)), vF, vF] bL (.eq (.eq (.eq (.eq (.nil))))) ?_ ?_
 exact .f (fun k => k.fx 8 cx) <| .t (fun _ w hn k => ⟨_, v_load rfl (k.eq1 0 34 rfl) (l_one Tryz.isAgg3 ((bM.new_ hn).cell 0)), rfl⟩) <| .t (fun _ w hn k => ⟨_, v_bin rfl (k.eq1 1 35 rfl) rfl (fun _ => rfl) (r_eql aa), rfl⟩) <| .a (fun k => k.eq1 2 36 rfl) .nil
 refine aftI bL df dg fun hu hv bN dp dq aq aI => ?_
 have fn := aI.fx 0 fj
 have fo := aI.fx 6 fk
 have fp := aI.fx 8 cx
 have fq := aI.fx 9 fl
 have fr := aI.ge 3 33 rfl
 have dr := dh.new_ aq
 have ds := bM.new_ aq
 have dt := di.new_ aq
 have dw := dj.new_ aq
 have dx := dk.new_ aq
 have dy := dl.new_ aq
 have dz := dm.new_ aq
 refine st_nil (dn _ _ ?_)
 refine wp_cond_false fr ?_
 refine wp_skip ?_
 refine cO _ _ ?_
 refine wp_seq_k fun hw dA => ?_
 refine wp_g0 [true] [] 58
   [ve (iv 0)] bN (.eq (.nil)) ?_ ?_
 exact .t (fun _ w hn k => ⟨_, v_assign rfl rfl, rfl⟩) .nil
 refine aftI bN dp dq fun hx hy bO dB dC ar aJ => ?_
 have fs := aJ.fx 0 fn
 have ft := aJ.fx 6 fo
 have fu := aJ.fx 8 fp
 have fv := aJ.fx 9 fq
 have fw := aJ.ge 0 11 rfl
 have dD := dr.new_ ar
 have dE := ds.new_ ar
 have dF := dt.new_ ar
 have dG := dw.new_ ar
 have dH := dx.new_ ar
 have dI := dy.new_ ar
 have dJ := dz.new_ ar
 refine st_nil (dA _ _ (wp_seq_k fun hz dK => ?_))
 refine wp_seq_k fun hA dL => ?_
 refine wp_g0 [true] [] 58
   [ve (.string ⟨#[38]⟩)] bO (.eq (.nil)) ?_ ?_
 exact .m (fun k => k.fx 0 fs) .nil
 refine aftI bO dB dC fun hC hD bP dM dN au aK => ?_
 have fy := aK.fx 6 ft
 have fz := aK.fx 8 fu
 have fA := aK.fx 9 fv
 have fB := aK.fx 11 fw
 have cy := aK.ge 0 38 rfl
 have dO := dD.new_ au
 have dP := dE.new_ au
 have dQ := dF.new_ au
 have dR := dG.new_ au
 have dS := dH.new_ au
 have dT := dI.new_ au
 have dU := dJ.new_ au
 refine st_nil (dL _ _ ?_)
 refine wp_block ?_
 refine wp_seq_k fun hE dV => ?_
 refine wp_g0 [true, true] [] 58
   [vT, vT] bP (.eq (.eq (.nil))) ?_ ?_
 exact .t (fun _ w hn k => ⟨_, v_bin rfl (k.fx 38 cy) rfl (fun _ => rfl) (r_eqlS (r := true) (by kernel_rfl)), rfl⟩) <| .a (fun k => k.eq1 0 40 rfl) .nil
 refine aftI bP dM dN fun hF hG bQ dW dX av aB => ?_
 have fC := aB.fx 6 fy
 have fD := aB.fx 8 fz
 have fE := aB.fx 9 fA
 have hH := aB.fx 11 fB
 have hI := aB.fx 38 cy
 have fF := aB.ge 1 39 rfl
 have dY := dO.new_ av
 have dZ := dP.new_ av
 have d0 := dQ.new_ av
 have d1 := dR.new_ av
 have d2 := dS.new_ av
 have d3 := dT.new_ av
 have d4 := dU.new_ av
 refine st_nil (dV _ _ ?_)
 refine wp_cond_true fF ?_
 refine wp_g0 [true] [] 58
   [ve (iv 1)] bQ (.eq (.nil)) ?_ ?_
 exact .t (fun _ w hn k => ⟨_, v_assign rfl rfl, rfl⟩) .nil
 refine aftI bQ dW dX fun hJ hK bR d5 d6 aw aO => ?_
 have fG := aO.fx 6 fC
 have fH := aO.fx 8 fD
 have fI := aO.fx 9 fE
 have fJ := aO.ge 0 11 rfl
 have d7 := dY.new_ aw
 have d8 := dZ.new_ aw
 have d9 := d0.new_ aw
 have gy := d1.new_ aw
 have gz := d2.new_ aw
 have gA := d3.new_ aw
 have gB := d4.new_ aw
 refine st_nil (dK _ _ (wp_seq_k fun hL ea => ?_))
 refine wp_g0 [true, true, true, true, true, true, true, false, false] [(7, false), (8, true)] 58
   [ve (iv 1), ve (.pointer (some ⟨aL, 1, none⟩)), ve (nv (Nm.mk ((numericsV v u).1.nk) ((numericsV v u).1.nn))), ve (.pointer (some ⟨bu, 1, none⟩)), ve (nv (Nm.mk ((numericsV v u).2.1.nk) ((numericsV v u).2.1.nn))), ve (nv (bitM 1 (Nm.mk ((numericsV v u).1.nk) ((numericsV v u).1.nn)) (Nm.mk ((numericsV v u).2.1.nk) ((numericsV v u).2.1.nn)))), ve (vv (Vl.mk 3 (bitM 1 (Nm.mk ((numericsV v u).1.nk) ((numericsV v u).1.nn)) (Nm.mk ((numericsV v u).2.1.nk) ((numericsV v u).2.1.nn))).k (bitM 1 (Nm.mk ((numericsV v u).1.nk) ((numericsV v u).1.nn)) (Nm.mk ((numericsV v u).2.1.nk) ((numericsV v u).2.1.nn))).n false [] [] 0) none 0 none 0), vt, vt] bR (.eq (.eq (.eq (.eq (.eq (.eq (.eq (.tt (.tt (.nil)))))))))) ?_ ?_
 exact .m (fun k => k.fx 11 fJ) <| .f (fun k => k.fx 8 fH) <| .t (fun _ w hn k => ⟨_, v_load rfl (k.eq1 1 52 rfl) (l_part Tryz.isAgg23 Tryz.sizeOf23 (d8.new_ hn) lb), rfl⟩) <| .f (fun k => k.fx 9 fI) <| .t (fun _ w hn k => ⟨_, v_load rfl (k.eq1 3 54 rfl) (l_part Tryz.isAgg23 Tryz.sizeOf23 (d9.new_ hn) lb), rfl⟩) <| .o1 (ck rfl rfl rfl (fun _ w hn k => ⟨#[iv 1, nv (Nm.mk ((numericsV v u).1.nk) ((numericsV v u).1.nn)), nv (Nm.mk ((numericsV v u).2.1.nk) ((numericsV v u).2.1.nn))], args3 (k.eq1 0 51 rfl) (k.eq1 2 53 rfl) (k.eq1 4 55 rfl), fun _ => by kernel_rfl, bit_c 1 (Nm.mk ((numericsV v u).1.nk) ((numericsV v u).1.nn)) (Nm.mk ((numericsV v u).2.1.nk) ((numericsV v u).2.1.nn)) _ ⟩) fun _ => rfl) <| .o1 (ck rfl rfl rfl (fun _ w hn k => ⟨#[nv (bitM 1 (Nm.mk ((numericsV v u).1.nk) ((numericsV v u).1.nn)) (Nm.mk ((numericsV v u).2.1.nk) ((numericsV v u).2.1.nn)))], args1 (k.eq1 5 56 rfl), fun _ => by kernel_rfl, cnum_c (bitM 1 (Nm.mk ((numericsV v u).1.nk) ((numericsV v u).1.nn)) (Nm.mk ((numericsV v u).2.1.nk) ((numericsV v u).2.1.nn))) _ ⟩) fun _ => rfl) <| .off <| .off .nil
 refine aftI bR d5 d6 fun cz hM bS eb ec ed bT => ?_
 have cA := bT.fx 6 fG
 have cB := bT.ge 6 57 rfl
 have ee := d7.new_ ed
 obtain ⟨fK, cC, cD, ef, gC⟩ := s_many (P := Tryz.prog) (t := 29) (i := 0) [iv 3, iv ((bitM 1 (Nm.mk ((numericsV v u).1.nk) ((numericsV v u).1.nn)) (Nm.mk ((numericsV v u).2.1.nk) ((numericsV v u).2.1.nn))).k), iv ((bitM 1 (Nm.mk ((numericsV v u).1.nk) ((numericsV v u).1.nn)) (Nm.mk ((numericsV v u).2.1.nk) ((numericsV v u).2.1.nn))).n), .bool false, sv none ([]) 0, sv none ([]) 0, iv 0] Tryz.sizeOf29 rfl rfl rfl ee lb
 have eg : Blk fK aP 29 [iv 3, iv ((bitM 1 (Nm.mk ((numericsV v u).1.nk) ((numericsV v u).1.nn)) (Nm.mk ((numericsV v u).2.1.nk) ((numericsV v u).2.1.nn))).k), iv ((bitM 1 (Nm.mk ((numericsV v u).1.nk) ((numericsV v u).1.nn)) (Nm.mk ((numericsV v u).2.1.nk) ((numericsV v u).2.1.nn))).n), .bool false, sv none ([]) 0, sv none ([]) 0, iv 0] := cD
 refine st_act rfl rfl fun hN eh => a_store' rfl cA cB cC (eh _ _ trivial ?_)
 have ei := ec.trans ef (fun _ h b => by subst b; omega)
 refine st_take rfl rfl (y_assign (v := iv 0) rfl rfl) rfl ?_
 obtain ⟨fL, aC⟩ : ∃ a', a' = cz.put (some 7) (iv 0) := ⟨_, rfl⟩
 have gD := pz aC bS
 have ej := pd aC eb
 have fM := pn aC cA (by decide)
 have hO := pn aC cB (by decide)
 have fN : fL.eval (.tmp 7) = iv 0 := by rw [aC]; exact put_same _ _ _ (by rw [bS]; decide)
 show stepsTo _ _ _ _ _ (cz.put (some 7) (iv 0)) _
 rw [← aC]
 refine st_nil (ea _ _ ?_)
 refine wp_ret (ret_k ej (v := .tuple #[vv (Vl.mk 3 (bitM 1 (Nm.mk ((numericsV v u).1.nk) ((numericsV v u).1.nn)) (Nm.mk ((numericsV v u).2.1.nk) ((numericsV v u).2.1.nn))).k (bitM 1 (Nm.mk ((numericsV v u).1.nk) ((numericsV v u).1.nn)) (Nm.mk ((numericsV v u).2.1.nk) ((numericsV v u).2.1.nn))).n false [] [] 0) none 0 none 0, iv 0]) (res_ct rfl fM fN (l_agg Tryz.isAgg29 Tryz.sizeOf29 eg rfl)) ?_)
 refine ⟨?_, ei⟩
 show Ending.returned (.tuple #[vv (Vl.mk 3 (bitM 1 (Nm.mk ((numericsV v u).1.nk) ((numericsV v u).1.nn)) (Nm.mk ((numericsV v u).2.1.nk) ((numericsV v u).2.1.nn))).k (bitM 1 (Nm.mk ((numericsV v u).1.nk) ((numericsV v u).1.nn)) (Nm.mk ((numericsV v u).2.1.nk) ((numericsV v u).2.1.nn))).n false [] [] 0) none 0 none 0, iv 0]) = Ending.returned (.tuple #[vv (Vl.mk (bitsV 1 v u).1 (bitsV 1 v u).2.1.k (bitsV 1 v u).2.1.n false [] [] 0) none 0 none 0, iv ((bitsV 1 v u).2.2)])
 first | rfl | (simp only [bitsV_eq, ac, aa, bsm] <;> rfl) | (exfalso; omega)
 have cj := oF ac
 refine wp_g0 [true, true, true] [] 58
   [ve (iv ((numericsV v u).2.2)), vT, vT] bd (.eq (.eq (.eq (.nil)))) ?_ ?_
 exact .m (fun k => k.fx 10 be) <| .t (fun _ w hn k => ⟨_, v_bin rfl (k.eq1 0 20 rfl) rfl (fun _ => rfl) (r_neq ac), rfl⟩) <| .a (fun k => k.eq1 1 21 rfl) .nil
 refine aftI bd cf ce fun hP hQ bU ek el ax aD => ?_
 have hR := aD.fx 0 eB
 have fO := aD.fx 6 eC
 have hT := aD.fx 8 ch
 have hU := aD.fx 9 ci
 have fP := aD.fx 10 be
 have fQ := aD.ge 2 19 rfl
 have em := cc.new_ ax
 have gE := cd.new_ ax
 have gF := b7.new_ ax
 have gG := b8.new_ ax
 have gH := b9.new_ ax
 have gI := ca.new_ ax
 have gJ := cb.new_ ax
 refine st_nil (bv _ _ ?_)
 refine wp_cond_true fQ ?_
 refine wp_seq_k fun hV en => ?_
 refine wp_g [true, true, false, false] [1] [(2, false), (3, true)] 58
   [ve (vv (Vl.mk 0 0 0 false [] [] 0) none 0 none 0), ve (iv ((numericsV v u).2.2)), vt, vt]
   [] newsNil bU (.eq (.eq (.tt (.tt (.nil))))) ?_ ?_ ?_
 refine .t (fun _ w hn k => ⟨_, v_build (ps := []) rfl parts0 (by kernel_rfl), rfl⟩) ?_
 refine .o3 ?_
 exact .off <| .off .nil
 intro i h
 simp only [List.contains_eq_mem, List.mem_cons, List.not_mem_nil, or_false, decide_eq_true_eq] at h
 subst h
 exact eager_take rfl rfl fun _ w hn k => ⟨iv ((numericsV v u).2.2), fun w => v_move rfl (k.fx 10 fP), rfl⟩
 refine aftI bU ek el fun cE hW bV eo ep er bg => ?_
 have cF := bg.fx 6 fO
 have cG := bg.ge 0 22 rfl
 have cH := bg.ge 1 23 rfl
 have es := em.new_ er
 obtain ⟨fR, cI, cJ, et, gK⟩ := s_many (P := Tryz.prog) (t := 29) (i := 0) [iv 0, iv 0, iv 0, .bool false, sv none ([]) 0, sv none ([]) 0, iv 0] Tryz.sizeOf29 rfl rfl rfl es lb
 have eu : Blk fR aP 29 [iv 0, iv 0, iv 0, .bool false, sv none ([]) 0, sv none ([]) 0, iv 0] := cJ
 refine st_act rfl rfl fun hX ev => a_store' rfl cF cG cI (ev _ _ trivial ?_)
 have ew := ep.trans et (fun _ h b => by subst b; omega)
 refine st_take rfl rfl (y_assign (v := iv ((numericsV v u).2.2)) rfl cH) rfl ?_
 obtain ⟨fS, ay⟩ : ∃ a', a' = cE.put (some 7) (iv ((numericsV v u).2.2)) := ⟨_, rfl⟩
 have gL := pz ay bV
 have ex := pd ay eo
 have fT := pn ay cF (by decide)
 have hY := pn ay cG (by decide)
 have hZ := pn ay cH (by decide)
 have fU : fS.eval (.tmp 7) = iv ((numericsV v u).2.2) := by rw [ay]; exact put_same _ _ _ (by rw [bV]; decide)
 show stepsTo _ _ _ _ _ (cE.put (some 7) (iv ((numericsV v u).2.2))) _
 rw [← ay]
 refine st_nil (en _ _ ?_)
 refine wp_ret (ret_k ex (v := .tuple #[vv (Vl.mk 0 0 0 false [] [] 0) none 0 none 0, iv ((numericsV v u).2.2)]) (res_ct rfl fT fU (l_agg Tryz.isAgg29 Tryz.sizeOf29 eu rfl)) ?_)
 refine ⟨?_, ew⟩
 show Ending.returned (.tuple #[vv (Vl.mk 0 0 0 false [] [] 0) none 0 none 0, iv ((numericsV v u).2.2)]) = Ending.returned (.tuple #[vv (Vl.mk (bitsV 1 v u).1 (bitsV 1 v u).2.1.k (bitsV 1 v u).2.1.n false [] [] 0) none 0 none 0, iv ((bitsV 1 v u).2.2)])
 first | rfl | (simp only [bitsV_eq, ac, bsm] <;> rfl) | (exfalso; omega)
theorem bin1_c  (v : Vl) (Av : Option Addr) (cv : Nat) (Bv : Option Addr) (dv : Nat) (u : Vl) (Au : Option Addr) (cu : Nat) (Bu : Option Addr) (du : Nat) (w : World) (hmv : SRow w .u32 Av v.mag cv) (hsv : SRow w .u16 Bv v.s dv) (hmu : SRow w .u32 Au u.mag cu) (hsu : SRow w .u16 Bu u.s du) (hvv : VOk v) (hvu : VOk u) : Calls Tryz.prog 12 #[.string ⟨#[38]⟩, vv v Av cv Bv dv, vv u Au cu Bu du] w (IsRet (.tuple #[vv (Vl.mk (bitsV 1 (cleanV v) (cleanV u)).1 (bitsV 1 (cleanV v) (cleanV u)).2.1.k (bitsV 1 (cleanV v) (cleanV u)).2.1.n false [] [] 0) none 0 none 0, iv ((bitsV 1 (cleanV v) (cleanV u)).2.2)]) w) := by
 refine enter_abs Tryz.func12 rfl fun a0 aI d0 hp => ?_
 have aI : a0.tmps.size = 120 := aI
 have aJ : New w w := Upd.refl _ _
 have hp0 : a0.eval (.tmp 0) = .string ⟨#[38]⟩ := hp 0 _ rfl
 have hp1 : a0.eval (.tmp 1) = vv v Av cv Bv dv := hp 1 _ rfl
 have hp2 : a0.eval (.tmp 2) = vv u Au cu Bu du := hp 2 _ rfl
 refine wp_seq_k fun K1 d1 => ?_
 refine wp_g [true, true, true, true] [] [] 120
   [IsNew w 29 [iv v.k, iv v.nk, iv v.nn, .bool v.neg, sv Av v.mag cv, sv Bv v.s dv, iv v.ref], IsNew w 29 [iv u.k, iv u.nk, iv u.nn, .bool u.neg, sv Au u.mag cu, sv Bu u.s du, iv u.ref], IsNew w 29 [iv 0, iv 0, iv 0, .bool false, sv none ([]) 0, sv none ([]) 0, iv 0], ve (iv 0)]
   [0, 1, 2] (newsCons (fun v w h => IsNew.old h) (newsCons (fun v w h => IsNew.old h) (newsCons (fun v w h => IsNew.old h) newsNil))) aI (.nw (.nw (.nw (.eq (.nil))))) ?_ (fun i h => by cases h) ?_
 exact .o2 (step_allocN (cs := [iv v.k, iv v.nk, iv v.nn, .bool v.neg, sv Av v.mag cv, sv Bv v.s dv, iv v.ref]) (t := 29) rfl (noG rfl) (fun _ w hn k => v_box rfl (k.fx 1 hp1) (fun w => rfl)) (fun q _ hq hb => ⟨q, rfl, hq, hb⟩)) <| .o2 (step_allocN (cs := [iv u.k, iv u.nk, iv u.nn, .bool u.neg, sv Au u.mag cu, sv Bu u.s du, iv u.ref]) (t := 29) rfl (noG rfl) (fun _ w hn k => v_box rfl (k.fx 2 hp2) (fun w => rfl)) (fun q _ hq hb => ⟨q, rfl, hq, hb⟩)) <| .o2 (step_allocN (cs := [iv 0, iv 0, iv 0, .bool false, sv none ([]) 0, sv none ([]) 0, iv 0]) (t := 29) rfl (noG rfl) (fun _ w hn k => rfl) (fun q _ hq hb => ⟨q, rfl, hq, hb⟩)) <| .t (fun _ w hn k => ⟨_, v_assign rfl rfl, rfl⟩) .nil
 refine aftI aI d0 aJ fun a2 w3 cI d2 ap eN aq => ?_
 have h8 := aq.fx 0 hp0
 obtain ⟨aS, h9, cO, aT⟩ : IsNew _ _ _ _ _ := aq.got 0 4 rfl (by kernel_rfl)
 obtain ⟨aU, aK, cP, aV⟩ : IsNew _ _ _ _ _ := aq.got 1 5 rfl (by kernel_rfl)
 obtain ⟨aW, aX, cQ, cR⟩ : IsNew _ _ _ _ _ := aq.got 2 6 rfl (by kernel_rfl)
 have hne21 : aS ≠ aU := aq.ne 0 1 4 5 h9 aK
 have hne22 : aS ≠ aW := aq.ne 0 2 4 6 h9 aX
 have hne23 : aU ≠ aW := aq.ne 1 2 5 6 aK aX
 have ej := Nat.le_trans aJ.size cO
 have ek := Nat.le_trans aJ.size cP
 have el := Nat.le_trans aJ.size cQ
 refine st_nil (d1 _ _ (wp_seq_k fun eO cS => ?_))
 refine wp_g0 [true, true, true, true, false, false] [(4, false), (5, false)] 120
   [ve (vv v Av cv Bv dv),
    (VP (cleanV v)), ve (vv u Au cu Bu du),
    (VP (cleanV u)), vt, vt] cI (.eq (.cons (fun v W W' hn ⟨A5, c6, A7, c8, he, h0, h1⟩ => ⟨A5, c6, A7, c8, he, h0.new_ hn, h1.new_ hn⟩) (.eq (.cons (fun v W W' hn ⟨d3, d4, d5, d6, he, h0, h1⟩ => ⟨d3, d4, d5, d6, he, h0.new_ hn, h1.new_ hn⟩) (.tt (.tt (.nil))))))) ?_ ?_
 refine .t (fun _ w hn k => ⟨_, v_load rfl (k.fx 4 h9) (l_agg Tryz.isAgg29 Tryz.sizeOf29 (aT.new_ hn) rfl), rfl⟩) ?_
 refine .o1 (tkC rfl (noG rfl) rfl fun _ w hn k => (by
       refine ⟨#[vv v Av cv Bv dv], _, args1 (k.eq1 0 10 rfl), fun w => by kernel_rfl, clean_c v _ _ _ _ _ (hmv.new_ (ap.transNew hn)) (hsv.new_ (ap.transNew hn)), ?_⟩
       rintro e w' ⟨A1, c2, A3, c4, rfl, hmo0, hmo1, hm⟩
       exact ⟨_, rfl, hm, ⟨A1, c2, A3, c4, rfl, hmo0, hmo1⟩⟩)) ?_
 refine .t (fun _ w hn k => ⟨_, v_load rfl (k.fx 5 aK) (l_agg Tryz.isAgg29 Tryz.sizeOf29 (aV.new_ hn) rfl), rfl⟩) ?_
 refine .o1 (tkC rfl (noG rfl) rfl fun _ w hn k => (by
       refine ⟨#[vv u Au cu Bu du], _, args1 (k.eq1 2 12 rfl), fun w => by kernel_rfl, clean_c u _ _ _ _ _ (hmu.new_ (ap.transNew hn)) (hsu.new_ (ap.transNew hn)), ?_⟩
       rintro e w' ⟨A9, d7, d8, d9, rfl, hmo0, hmo1, hm⟩
       exact ⟨_, rfl, hm, ⟨A9, d7, d8, d9, rfl, hmo0, hmo1⟩⟩)) ?_
 exact .off <| .off .nil
 refine aftI cI d2 ap fun cJ eP aY cT cU aH ao => ?_
 have cK := ao.fx 0 h8
 have cL := ao.fx 4 h9
 have cM := ao.fx 5 aK
 have ea := ao.fx 6 aX
 obtain ⟨aD, ar, aE, au, aZ, cV, cW⟩ : (VP (cleanV v)) _ _ := ao.got 1 11 rfl (by kernel_rfl)
 have aZ : cJ.eval (.tmp 11) = vv (cleanV v) aD ar aE au := aZ
 obtain ⟨aF, av, aG, aw, a1, cX, cY⟩ : (VP (cleanV u)) _ _ := ao.got 3 13 rfl (by kernel_rfl)
 have a1 : cJ.eval (.tmp 13) = vv (cleanV u) aF av aG aw := a1
 have ax := aT.new_ aH
 have cZ := aV.new_ aH
 have c0 := cR.new_ aH
 obtain ⟨eb, bj, bk, ay, a3⟩ := s_many (P := Tryz.prog) (t := 29) (i := 0) [iv ((cleanV v).k), iv ((cleanV v).nk), iv ((cleanV v).nn), .bool ((cleanV v).neg), sv aD ((cleanV v).mag) ar, sv aE ((cleanV v).s) au, iv ((cleanV v).ref)] Tryz.sizeOf29 rfl rfl rfl ax lb
 have c1 : Blk eb aS 29 [iv ((cleanV v).k), iv ((cleanV v).nk), iv ((cleanV v).nn), .bool ((cleanV v).neg), sv aD ((cleanV v).mag) ar, sv aE ((cleanV v).s) au, iv ((cleanV v).ref)] := bk
 refine st_act rfl rfl fun eQ c3 => a_store' rfl cL aZ bj (c3 _ _ trivial ?_)
 have c5 := cV.far ax ay (by first | rfl | decide | simp [notK])
 have c7 := cW.far ax ay (by first | rfl | decide | simp [notK])
 have c9 := cX.far ax ay (by first | rfl | decide | simp [notK])
 have da := cY.far ax ay (by first | rfl | decide | simp [notK])
 have az := a3 _ _ _ (fun h => hne21 h.symm) cZ
 have db := a3 _ _ _ (fun h => hne22 h.symm) c0
 have dc := cU.trans ay (fun _ h b => by subst b; omega)
 obtain ⟨ec, bl, bm, aA, a4⟩ := s_many (P := Tryz.prog) (t := 29) (i := 0) [iv ((cleanV u).k), iv ((cleanV u).nk), iv ((cleanV u).nn), .bool ((cleanV u).neg), sv aF ((cleanV u).mag) av, sv aG ((cleanV u).s) aw, iv ((cleanV u).ref)] Tryz.sizeOf29 rfl rfl rfl az lb
 have dd : Blk ec aU 29 [iv ((cleanV u).k), iv ((cleanV u).nk), iv ((cleanV u).nn), .bool ((cleanV u).neg), sv aF ((cleanV u).mag) av, sv aG ((cleanV u).s) aw, iv ((cleanV u).ref)] := bm
 refine st_act rfl rfl fun eR de => a_store' rfl cM a1 bl (de _ _ trivial ?_)
 have df := c5.far az aA (by first | rfl | decide | simp [notK])
 have dg := c7.far az aA (by first | rfl | decide | simp [notK])
 have dh := c9.far az aA (by first | rfl | decide | simp [notK])
 have di := da.far az aA (by first | rfl | decide | simp [notK])
 have dj := a4 _ _ _ (hne21) c1
 have dk := a4 _ _ _ (fun h => hne23 h.symm) db
 have dl := dc.trans aA (fun _ h b => by subst b; omega)
 refine st_nil (cS _ _ (wp_seq_k fun eS em => ?_))
 refine wp_seq_k fun eT dm => ?_
 refine wp_g0 [true] [] 120
   [ve (.string ⟨#[38]⟩)] aY (.eq (.nil)) ?_ ?_
 exact .m (fun k => k.fx 0 cK) .nil
 refine aftI aY cT dl fun eU eV a5 dn bn an aB => ?_
 have ed := aB.fx 0 cK
 have ee := aB.fx 4 cL
 have ef := aB.fx 5 cM
 have eg := aB.fx 6 ea
 have cN := aB.ge 0 14 rfl
 have dp := dj.new_ an
 have dq := dd.new_ an
 have bo := dk.new_ an
 have bp := df.new_ an
 have bq := dg.new_ an
 have br := dh.new_ an
 have bs := di.new_ an
 refine st_nil (dm _ _ ?_)
 refine wp_block ?_
 refine wp_seq_k fun en bt => ?_
 refine wp_g0 [true, true] [] 120
   [vF, vF] a5 (.eq (.eq (.nil))) ?_ ?_
 exact .t (fun _ w hn k => ⟨_, v_bin rfl (k.fx 14 cN) rfl (fun _ => rfl) (r_eqlS (r := false) (by kernel_rfl)), rfl⟩) <| .a (fun k => k.eq1 0 16 rfl) .nil
 refine aftI a5 dn bn fun eo ep aL bu bv aa ah => ?_
 have dr := ah.fx 0 ed
 have ds := ah.fx 4 ee
 have dt := ah.fx 5 ef
 have dw := ah.fx 6 eg
 have a6 := ah.fx 14 cN
 have dx := ah.ge 1 15 rfl
 have bw := dp.new_ aa
 have bx := dq.new_ aa
 have bz := bo.new_ aa
 have bA := bp.new_ aa
 have bB := bq.new_ aa
 have bC := br.new_ aa
 have bD := bs.new_ aa
 refine st_nil (bt _ _ ?_)
 refine wp_cond_false dx ?_
 refine wp_seq_k fun er bE => ?_
 refine wp_seq_k fun es bF => ?_
 refine wp_g0 [true, true] [] 120
   [vF, vF] aL (.eq (.eq (.nil))) ?_ ?_
 exact .t (fun _ w hn k => ⟨_, v_bin rfl (k.fx 14 a6) rfl (fun _ => rfl) (r_eqlS (r := false) (by kernel_rfl)), rfl⟩) <| .a (fun k => k.eq1 0 37 rfl) .nil
 refine aftI aL bu bv fun et eu aM bG bH ab ai => ?_
 have dy := ai.fx 0 dr
 have dz := ai.fx 4 ds
 have dA := ai.fx 5 dt
 have dB := ai.fx 6 dw
 have a7 := ai.fx 14 a6
 have dC := ai.ge 1 36 rfl
 have bI := bw.new_ ab
 have bJ := bx.new_ ab
 have bK := bz.new_ ab
 have bL := bA.new_ ab
 have bM := bB.new_ ab
 have bN := bC.new_ ab
 have bO := bD.new_ ab
 refine st_nil (bF _ _ ?_)
 refine wp_cond_false dC ?_
 refine wp_seq_k fun ev bP => ?_
 refine wp_g0 [true, true] [] 120
   [vF, vF] aM (.eq (.eq (.nil))) ?_ ?_
 exact .t (fun _ w hn k => ⟨_, v_bin rfl (k.fx 14 a7) rfl (fun _ => rfl) (r_eqlS (r := false) (by kernel_rfl)), rfl⟩) <| .a (fun k => k.eq1 0 38 rfl) .nil
 refine aftI aM bG bH fun ew ex aN bQ bR ac aj => ?_
 have dD := aj.fx 0 dy
 have dE := aj.fx 4 dz
 have dF := aj.fx 5 dA
 have dG := aj.fx 6 dB
 have a8 := aj.fx 14 a7
 have dH := aj.ge 1 36 rfl
 have bS := bI.new_ ac
 have bT := bJ.new_ ac
 have bU := bK.new_ ac
 have bV := bL.new_ ac
 have bW := bM.new_ ac
 have bX := bN.new_ ac
 have bY := bO.new_ ac
 refine st_nil (bP _ _ ?_)
 refine wp_cond_false dH ?_
 refine wp_seq_k fun ey bZ => ?_
 refine wp_g0 [true, true] [] 120
   [vF, vF] aN (.eq (.eq (.nil))) ?_ ?_
 exact .t (fun _ w hn k => ⟨_, v_bin rfl (k.fx 14 a8) rfl (fun _ => rfl) (r_eqlS (r := false) (by kernel_rfl)), rfl⟩) <| .a (fun k => k.eq1 0 39 rfl) .nil
 refine aftI aN bQ bR fun ez eA aO b0 b1 ad ak => ?_
 have dI := ak.fx 0 dD
 have dJ := ak.fx 4 dE
 have dK := ak.fx 5 dF
 have dL := ak.fx 6 dG
 have a9 := ak.fx 14 a8
 have dM := ak.ge 1 36 rfl
 have b2 := bS.new_ ad
 have b3 := bT.new_ ad
 have b4 := bU.new_ ad
 have b5 := bV.new_ ad
 have b6 := bW.new_ ad
 have b7 := bX.new_ ad
 have b8 := bY.new_ ad
 refine st_nil (bZ _ _ ?_)
 refine wp_cond_false dM ?_
 refine wp_g0 [true, true] [] 120
   [vF, vF] aO (.eq (.eq (.nil))) ?_ ?_
 exact .t (fun _ w hn k => ⟨_, v_bin rfl (k.fx 14 a9) rfl (fun _ => rfl) (r_eqlS (r := false) (by kernel_rfl)), rfl⟩) <| .a (fun k => k.eq1 0 40 rfl) .nil
 refine aftI aO b0 b1 fun eB eC aP b9 ca ae al => ?_
 have dN := al.fx 0 dI
 have dO := al.fx 4 dJ
 have dP := al.fx 5 dK
 have dQ := al.fx 6 dL
 have ba := al.fx 14 a9
 have dR := al.ge 1 36 rfl
 have cb := b2.new_ ae
 have cc := b3.new_ ae
 have cd := b4.new_ ae
 have ce := b5.new_ ae
 have cf := b6.new_ ae
 have ch := b7.new_ ae
 have ci := b8.new_ ae
 refine st_nil (bE _ _ ?_)
 refine wp_cond_false dR ?_
 refine wp_seq_k fun eD cj => ?_
 refine wp_seq_k fun eE cl => ?_
 refine wp_g0 [true, true] [] 120
   [vT, vT] aP (.eq (.eq (.nil))) ?_ ?_
 exact .t (fun _ w hn k => ⟨_, v_bin rfl (k.fx 14 ba) rfl (fun _ => rfl) (r_eqlS (r := true) (by kernel_rfl)), rfl⟩) <| .a (fun k => k.eq1 0 48 rfl) .nil
 refine aftI aP b9 ca fun eF eG aQ cm cn af am => ?_
 have dS := am.fx 0 dN
 have dT := am.fx 4 dO
 have dU := am.fx 5 dP
 have dV := am.fx 6 dQ
 have eH := am.fx 14 ba
 have bb := am.ge 1 47 rfl
 have co := cb.new_ af
 have cp := cc.new_ af
 have cq := cd.new_ af
 have cr := ce.new_ af
 have ct := cf.new_ af
 have cw := ch.new_ af
 have cx := ci.new_ af
 refine st_nil (cl _ _ ?_)
 refine wp_cond_true bb ?_
 refine wp_skip ?_
 refine cj _ _ ?_
 refine wp_cond_true bb ?_
 refine wp_seq_k fun eI cy => ?_
 refine wp_g0 [true, true, true, true, true, true, false, false] [(6, false), (7, true)] 120
   [ve (.string ⟨#[38]⟩), ve (vv (cleanV v) aD ar aE au), ve (vv (cleanV u) aF av aG aw), ve (.tuple #[vv (Vl.mk (bitsV 1 (cleanV v) (cleanV u)).1 (bitsV 1 (cleanV v) (cleanV u)).2.1.k (bitsV 1 (cleanV v) (cleanV u)).2.1.n false [] [] 0) none 0 none 0, iv ((bitsV 1 (cleanV v) (cleanV u)).2.2)]), ve (vv (Vl.mk (bitsV 1 (cleanV v) (cleanV u)).1 (bitsV 1 (cleanV v) (cleanV u)).2.1.k (bitsV 1 (cleanV v) (cleanV u)).2.1.n false [] [] 0) none 0 none 0), ve (iv ((bitsV 1 (cleanV v) (cleanV u)).2.2)), vt, vt] aQ (.eq (.eq (.eq (.eq (.eq (.eq (.tt (.tt (.nil))))))))) ?_ ?_
 exact .m (fun k => k.fx 0 dS) <| .t (fun _ w hn k => ⟨_, v_load rfl (k.fx 4 dT) (l_agg Tryz.isAgg29 Tryz.sizeOf29 (co.new_ hn) rfl), rfl⟩) <| .t (fun _ w hn k => ⟨_, v_load rfl (k.fx 5 dU) (l_agg Tryz.isAgg29 Tryz.sizeOf29 (cp.new_ hn) rfl), rfl⟩) <| .o1 (ck rfl rfl rfl (fun _ w hn k => ⟨#[.string ⟨#[38]⟩, vv (cleanV v) aD ar aE au, vv (cleanV u) aF av aG aw], args3 (k.eq1 0 54 rfl) (k.eq1 1 55 rfl) (k.eq1 2 56 rfl), fun _ => by kernel_rfl, bits1_c (cleanV v) _ _ _ _ (cleanV u) _ _ _ _ _ (cr.new_ hn) (ct.new_ hn) (cw.new_ hn) (cx.new_ hn) hvv.clean hvu.clean⟩) fun _ => rfl) <| .t (fun _ w hn k => ⟨_, v_extract rfl (k.eq1 3 57 rfl) rfl, rfl⟩) <| .t (fun _ w hn k => ⟨_, v_extract rfl (k.eq1 3 57 rfl) rfl, rfl⟩) <| .off <| .off .nil
 refine aftI aQ cm cn fun bd eJ aR cz cA cB aC => ?_
 have be := aC.fx 6 dV
 have bf := aC.ge 4 58 rfl
 have bg := aC.ge 5 59 rfl
 have cC := cq.new_ cB
 obtain ⟨dW, bh, bi, cD, eh⟩ := s_many (P := Tryz.prog) (t := 29) (i := 0) [iv ((bitsV 1 (cleanV v) (cleanV u)).1), iv ((bitsV 1 (cleanV v) (cleanV u)).2.1.k), iv ((bitsV 1 (cleanV v) (cleanV u)).2.1.n), .bool false, sv none ([]) 0, sv none ([]) 0, iv 0] Tryz.sizeOf29 rfl rfl rfl cC lb
 have cE : Blk dW aW 29 [iv ((bitsV 1 (cleanV v) (cleanV u)).1), iv ((bitsV 1 (cleanV v) (cleanV u)).2.1.k), iv ((bitsV 1 (cleanV v) (cleanV u)).2.1.n), .bool false, sv none ([]) 0, sv none ([]) 0, iv 0] := bi
 refine st_act rfl rfl fun eK cF => a_store' rfl be bf bh (cF _ _ trivial ?_)
 have cG := cA.trans cD (fun _ h b => by subst b; omega)
 refine st_take rfl rfl (y_assign (v := iv ((bitsV 1 (cleanV v) (cleanV u)).2.2)) rfl bg) rfl ?_
 obtain ⟨dX, ag⟩ : ∃ a', a' = bd.put (some 7) (iv ((bitsV 1 (cleanV v) (cleanV u)).2.2)) := ⟨_, rfl⟩
 have ei := pz ag aR
 have cH := pd ag cz
 have dY := pn ag be (by decide)
 have eL := pn ag bf (by decide)
 have eM := pn ag bg (by decide)
 have dZ : dX.eval (.tmp 7) = iv ((bitsV 1 (cleanV v) (cleanV u)).2.2) := by rw [ag]; exact put_same _ _ _ (by rw [aR]; decide)
 show stepsTo _ _ _ _ _ (bd.put (some 7) (iv ((bitsV 1 (cleanV v) (cleanV u)).2.2))) _
 rw [← ag]
 refine st_nil (cy _ _ ?_)
 refine wp_ret (ret_k cH (v := .tuple #[vv (Vl.mk (bitsV 1 (cleanV v) (cleanV u)).1 (bitsV 1 (cleanV v) (cleanV u)).2.1.k (bitsV 1 (cleanV v) (cleanV u)).2.1.n false [] [] 0) none 0 none 0, iv ((bitsV 1 (cleanV v) (cleanV u)).2.2)]) (res_ct rfl dY dZ (l_agg Tryz.isAgg29 Tryz.sizeOf29 cE rfl)) ?_)
 exact ⟨rfl, cG⟩
theorem bits2_c  (v : Vl) (Av : Option Addr) (cv : Nat) (Bv : Option Addr) (dv : Nat) (u : Vl) (Au : Option Addr) (cu : Nat) (Bu : Option Addr) (du : Nat) (w : World) (hmv : SRow w .u32 Av v.mag cv) (hsv : SRow w .u16 Bv v.s dv) (hmu : SRow w .u32 Au u.mag cu) (hsu : SRow w .u16 Bu u.s du) (hvv : VOk v) (hvu : VOk u) : Calls Tryz.prog 37 #[.string ⟨#[124]⟩, vv v Av cv Bv dv, vv u Au cu Bu du] w (IsRet (.tuple #[vv (Vl.mk (bitsV 2 v u).1 (bitsV 2 v u).2.1.k (bitsV 2 v u).2.1.n false [] [] 0) none 0 none 0, iv ((bitsV 2 v u).2.2)]) w) := by
 refine enter_abs Tryz.func37 rfl fun a0 bq gf hp => ?_
 have bq : a0.tmps.size = 58 := bq
 have br : New w w := Upd.refl _ _
 have hp0 : a0.eval (.tmp 0) = .string ⟨#[124]⟩ := hp 0 _ rfl
 have hp1 : a0.eval (.tmp 1) = vv v Av cv Bv dv := hp 1 _ rfl
 have hp2 : a0.eval (.tmp 2) = vv u Au cu Bu du := hp 2 _ rfl
 refine wp_seq_k fun K1 gg => ?_
 refine wp_g [true, true, true, true] [] [] 58
   [IsNew w 29 [iv v.k, iv v.nk, iv v.nn, .bool v.neg, sv Av v.mag cv, sv Bv v.s dv, iv v.ref], IsNew w 29 [iv u.k, iv u.nk, iv u.nn, .bool u.neg, sv Au u.mag cu, sv Bu u.s du, iv u.ref], IsNew w 29 [iv 0, iv 0, iv 0, .bool false, sv none ([]) 0, sv none ([]) 0, iv 0], ve (iv 0)]
   [0, 1, 2] (newsCons (fun v w h => IsNew.old h) (newsCons (fun v w h => IsNew.old h) (newsCons (fun v w h => IsNew.old h) newsNil))) bq (.nw (.nw (.nw (.eq (.nil))))) ?_ (fun i h => by cases h) ?_
 exact .o2 (step_allocN (cs := [iv v.k, iv v.nk, iv v.nn, .bool v.neg, sv Av v.mag cv, sv Bv v.s dv, iv v.ref]) (t := 29) rfl (noG rfl) (fun _ w hn k => v_box rfl (k.fx 1 hp1) (fun w => rfl)) (fun q _ hq hb => ⟨q, rfl, hq, hb⟩)) <| .o2 (step_allocN (cs := [iv u.k, iv u.nk, iv u.nn, .bool u.neg, sv Au u.mag cu, sv Bu u.s du, iv u.ref]) (t := 29) rfl (noG rfl) (fun _ w hn k => v_box rfl (k.fx 2 hp2) (fun w => rfl)) (fun q _ hq hb => ⟨q, rfl, hq, hb⟩)) <| .o2 (step_allocN (cs := [iv 0, iv 0, iv 0, .bool false, sv none ([]) 0, sv none ([]) 0, iv 0]) (t := 29) rfl (noG rfl) (fun _ w hn k => rfl) (fun q _ hq hb => ⟨q, rfl, hq, hb⟩)) <| .t (fun _ w hn k => ⟨_, v_assign rfl rfl, rfl⟩) .nil
 refine aftI bq gf br fun a2 w3 eM gh aG iw be => ?_
 have h8 := be.fx 0 hp0
 obtain ⟨gi, h9, eR, eS⟩ : IsNew _ _ _ _ _ := be.got 0 4 rfl (by kernel_rfl)
 obtain ⟨gj, eN, eT, eU⟩ : IsNew _ _ _ _ _ := be.got 1 5 rfl (by kernel_rfl)
 obtain ⟨aR, bZ, eV, bk⟩ : IsNew _ _ _ _ _ := be.got 2 6 rfl (by kernel_rfl)
 have hne21 : gi ≠ aR := be.ne 0 2 4 6 h9 bZ
 have hne22 : gj ≠ aR := be.ne 1 2 5 6 eN bZ
 have g5 := Nat.le_trans br.size eR
 have g6 := Nat.le_trans br.size eT
 have g7 := Nat.le_trans br.size eV
 refine st_nil (gg _ _ (wp_seq_k fun ix eW => ?_))
 refine wp_gS (fun W => True) (fun W W' hn h => trivial) trivial [true, true, true, true, true, true, true, true, true, false, false, false] [5, 6] [(9, false), (10, false), (11, true)] 58
   [ve (vv v Av cv Bv dv), ve (vv u Au cu Bu du), (fun (v_ : Value) (W : World) => ∃ (A9 : Option Addr) (aS : Nat) (aT : Option Addr) (aU : Nat) (aV : Option Addr) (aW : Nat) (aX : Option Addr) (aY : Nat), v_ = .tuple #[vv (numericsV v u).1 A9 aS aT aU, vv (numericsV v u).2.1 aV aW aX aY, iv ((numericsV v u).2.2)] ∧ SRow W .u32 A9 ((numericsV v u).1.mag) aS ∧ SRow W .u16 aT ((numericsV v u).1.s) aU ∧ SRow W .u32 aV ((numericsV v u).2.1.mag) aW ∧ SRow W .u16 aX ((numericsV v u).2.1.s) aY), (fun (v_ : Value) (W : World) => ∃ (ad : Option Addr) (ae : Nat) (af : Option Addr) (ag : Nat) (ah : Option Addr) (ai : Nat) (aj : Option Addr) (ak : Nat), v_ = .tuple #[vv (numericsV v u).1 ad ae af ag, vv (numericsV v u).2.1 ah ai aj ak, iv ((numericsV v u).2.2)] ∧ SRow W .u32 ad ((numericsV v u).1.mag) ae ∧ SRow W .u16 af ((numericsV v u).1.s) ag ∧ SRow W .u32 ah ((numericsV v u).2.1.mag) ai ∧ SRow W .u16 aj ((numericsV v u).2.1.s) ak), (fun (v_ : Value) (W : World) => ∃ (aZ : Option Addr) (a1 : Nat) (a3 : Option Addr) (a4 : Nat), v_ = vv (numericsV v u).1 aZ a1 a3 a4 ∧ SRow W .u32 aZ ((numericsV v u).1.mag) a1 ∧ SRow W .u16 a3 ((numericsV v u).1.s) a4), (fun (v_ : Value) (W : World) => ∃ (a5 : Option Addr) (a6 : Nat) (a7 : Option Addr) (a8 : Nat), v_ = vv (numericsV v u).2.1 a5 a6 a7 a8 ∧ SRow W .u32 a5 ((numericsV v u).2.1.mag) a6 ∧ SRow W .u16 a7 ((numericsV v u).2.1.s) a8), ve (iv ((numericsV v u).2.2)), IsNew w3 29 [iv 0, iv 0, iv 0, .bool false, sv none ([]) 0, sv none ([]) 0, iv 0], IsNew w3 29 [iv 0, iv 0, iv 0, .bool false, sv none ([]) 0, sv none ([]) 0, iv 0], vt, vt, vt]
   [7, 8] (newsCons (fun v w h => IsNew.old h) (newsCons (fun v w h => IsNew.old h) newsNil)) eM (.eq (.eq (.cons (fun v W W' hn ⟨A9, aS, aT, aU, aV, aW, aX, aY, he, h0, h1, h2, h3⟩ => ⟨A9, aS, aT, aU, aV, aW, aX, aY, he, h0.new_ hn, h1.new_ hn, h2.new_ hn, h3.new_ hn⟩) (.cons (fun v W W' hn ⟨ad, ae, af, ag, ah, ai, aj, ak, he, h0, h1, h2, h3⟩ => ⟨ad, ae, af, ag, ah, ai, aj, ak, he, h0.new_ hn, h1.new_ hn, h2.new_ hn, h3.new_ hn⟩) (.cons (fun v W W' hn ⟨aZ, a1, a3, a4, he, h0, h1⟩ => ⟨aZ, a1, a3, a4, he, h0.new_ hn, h1.new_ hn⟩) (.cons (fun v W W' hn ⟨a5, a6, a7, a8, he, h0, h1⟩ => ⟨a5, a6, a7, a8, he, h0.new_ hn, h1.new_ hn⟩) (.eq (.nw (.nw (.tt (.tt (.tt (.nil))))))))))))) ?_ ?_ ?_
 refine .t (fun _ w hn k => ⟨_, v_load rfl (k.fx 4 h9) (l_agg Tryz.isAgg29 Tryz.sizeOf29 (eS.new_ hn) rfl), rfl⟩) <| .t (fun _ w hn k => ⟨_, v_load rfl (k.fx 5 eN) (l_agg Tryz.isAgg29 Tryz.sizeOf29 (eU.new_ hn) rfl), rfl⟩) ?_
 refine .o1 (tkC rfl (noG rfl) rfl fun _ w hn k => (by
       refine ⟨#[vv v Av cv Bv dv, vv u Au cu Bu du], _, args2 (k.eq1 0 13 rfl) (k.eq1 1 14 rfl), fun w => by kernel_rfl, numerics_c v _ _ _ _ u _ _ _ _ _ (hmv.new_ (aG.transNew hn)) (hsv.new_ (aG.transNew hn)) (hmu.new_ (aG.transNew hn)) (hsu.new_ (aG.transNew hn)) hvv hvu, ?_⟩
       rintro e w' ⟨A1, c2, A3, c4, A5, c6, A7, c8, rfl, hmo0, hmo1, hmo2, hmo3, hm⟩
       exact ⟨_, rfl, hm, ⟨A1, c2, A3, c4, A5, c6, A7, c8, rfl, hmo0, hmo1, hmo2, hmo3⟩⟩)) ?_
 refine .o1 (tk rfl rfl fun _ w hn k => (by
       obtain ⟨gk, gl, gn, go, gp, gq, gr, gs, gt, eX, eY, eZ, e0⟩ : (fun (v_ : Value) (W : World) => ∃ (A9 : Option Addr) (aS : Nat) (aT : Option Addr) (aU : Nat) (aV : Option Addr) (aW : Nat) (aX : Option Addr) (aY : Nat), v_ = .tuple #[vv (numericsV v u).1 A9 aS aT aU, vv (numericsV v u).2.1 aV aW aX aY, iv ((numericsV v u).2.2)] ∧ SRow W .u32 A9 ((numericsV v u).1.mag) aS ∧ SRow W .u16 aT ((numericsV v u).1.s) aU ∧ SRow W .u32 aV ((numericsV v u).2.1.mag) aW ∧ SRow W .u16 aX ((numericsV v u).2.1.s) aY) _ _ := k.dep 2 15 (by kernel_rfl) (by kernel_rfl)
       exact ⟨_, v_move rfl gt, ⟨gk, gl, gn, go, gp, gq, gr, gs, rfl, eX, eY, eZ, e0⟩⟩)) ?_
 refine .o1 (tk rfl rfl fun _ w hn k => (by
       obtain ⟨gu, gv, bj, gw, iy, iz, bs, iA, gx, e1, e2, g8, g9⟩ : (fun (v_ : Value) (W : World) => ∃ (ad : Option Addr) (ae : Nat) (af : Option Addr) (ag : Nat) (ah : Option Addr) (ai : Nat) (aj : Option Addr) (ak : Nat), v_ = .tuple #[vv (numericsV v u).1 ad ae af ag, vv (numericsV v u).2.1 ah ai aj ak, iv ((numericsV v u).2.2)] ∧ SRow W .u32 ad ((numericsV v u).1.mag) ae ∧ SRow W .u16 af ((numericsV v u).1.s) ag ∧ SRow W .u32 ah ((numericsV v u).2.1.mag) ai ∧ SRow W .u16 aj ((numericsV v u).2.1.s) ak) _ _ := k.dep 3 12 (by kernel_rfl) (by kernel_rfl)
       exact ⟨_, v_extract rfl gx rfl, ⟨gu, gv, bj, gw, rfl, e1, e2⟩⟩)) ?_
 refine .o3 ?_
 refine .o3 ?_
 exact .o2 (step_allocN (cs := [iv 0, iv 0, iv 0, .bool false, sv none ([]) 0, sv none ([]) 0, iv 0]) (t := 29) rfl (noG rfl) (fun _ w hn k => rfl) (fun q _ hq hb => ⟨q, rfl, hq, hb⟩)) <| .o2 (step_allocN (cs := [iv 0, iv 0, iv 0, .bool false, sv none ([]) 0, sv none ([]) 0, iv 0]) (t := 29) rfl (noG rfl) (fun _ w hn k => rfl) (fun q _ hq hb => ⟨q, rfl, hq, hb⟩)) <| .off <| .off <| .off .nil
 intro i h
 simp only [List.contains_eq_mem, List.mem_cons, List.not_mem_nil, or_false, decide_eq_true_eq] at h
 rcases h with rfl | rfl
 exact eager_takeG rfl (noG rfl) fun _ w hn k => (by
     obtain ⟨iB, iC, iD, iE, gy, gz, gA, gB, gC, ha, hc, e3, e4⟩ : (fun (v_ : Value) (W : World) => ∃ (ad : Option Addr) (ae : Nat) (af : Option Addr) (ag : Nat) (ah : Option Addr) (ai : Nat) (aj : Option Addr) (ak : Nat), v_ = .tuple #[vv (numericsV v u).1 ad ae af ag, vv (numericsV v u).2.1 ah ai aj ak, iv ((numericsV v u).2.2)] ∧ SRow W .u32 ad ((numericsV v u).1.mag) ae ∧ SRow W .u16 af ((numericsV v u).1.s) ag ∧ SRow W .u32 ah ((numericsV v u).2.1.mag) ai ∧ SRow W .u16 aj ((numericsV v u).2.1.s) ak) _ _ := k.dep 3 12 (by kernel_rfl) (by kernel_rfl)
     exact ⟨_, fun w hS => v_extract rfl gC rfl, ⟨gy, gz, gA, gB, rfl, e3, e4⟩⟩)
 exact eager_takeG rfl (noG rfl) fun _ w hn k => (by
     obtain ⟨iF, iG, iH, iI, iJ, iK, iL, iM, gD, hd, hf, hg, hh⟩ : (fun (v_ : Value) (W : World) => ∃ (ad : Option Addr) (ae : Nat) (af : Option Addr) (ag : Nat) (ah : Option Addr) (ai : Nat) (aj : Option Addr) (ak : Nat), v_ = .tuple #[vv (numericsV v u).1 ad ae af ag, vv (numericsV v u).2.1 ah ai aj ak, iv ((numericsV v u).2.2)] ∧ SRow W .u32 ad ((numericsV v u).1.mag) ae ∧ SRow W .u16 af ((numericsV v u).1.s) ag ∧ SRow W .u32 ah ((numericsV v u).2.1.mag) ai ∧ SRow W .u16 aj ((numericsV v u).2.1.s) ak) _ _ := k.dep 3 12 (by kernel_rfl) (by kernel_rfl)
     exact ⟨_, fun w hS => v_extract rfl gD rfl, rfl⟩)
 intro bt iN _ b0 al
 obtain ⟨b1, e5, e6⟩ := aft al eM gh aG b0
 have gE := al.fx 0 h8
 have gF := al.fx 6 bZ
 obtain ⟨b2, bl, bj, bm, bu, e7, e8⟩ : (fun (v_ : Value) (W : World) => ∃ (aZ : Option Addr) (a1 : Nat) (a3 : Option Addr) (a4 : Nat), v_ = vv (numericsV v u).1 aZ a1 a3 a4 ∧ SRow W .u32 aZ ((numericsV v u).1.mag) a1 ∧ SRow W .u16 a3 ((numericsV v u).1.s) a4) _ _ := al.got 4 16 rfl (by kernel_rfl)
 have bu : bt.eval (.tmp 16) = vv (numericsV v u).1 b2 bl bj bm := bu
 obtain ⟨bs, bn, b3, bo, bv, e9, fa⟩ : (fun (v_ : Value) (W : World) => ∃ (a5 : Option Addr) (a6 : Nat) (a7 : Option Addr) (a8 : Nat), v_ = vv (numericsV v u).2.1 a5 a6 a7 a8 ∧ SRow W .u32 a5 ((numericsV v u).2.1.mag) a6 ∧ SRow W .u16 a7 ((numericsV v u).2.1.s) a8) _ _ := al.got 5 17 rfl (by kernel_rfl)
 have bv : bt.eval (.tmp 17) = vv (numericsV v u).2.1 bs bn b3 bo := bv
 have eO := al.ge 6 18 rfl
 obtain ⟨aN, b4, b5, a9⟩ : IsNew _ _ _ _ _ := al.got 7 8 rfl (by kernel_rfl)
 obtain ⟨bw, b6, b7, fb⟩ : IsNew _ _ _ _ _ := al.got 8 9 rfl (by kernel_rfl)
 have fc := bk.new_ b0
 have hne60 : aN ≠ bw := al.ne 7 8 8 9 b4 b6
 have hne61 : aR ≠ aN := by have h1 := bk.lt; have h2 := b5; omega
 have hne62 : aR ≠ bw := by have h1 := bk.lt; have h2 := b7; omega
 have hi := Nat.le_trans aG.size b5
 have hj := Nat.le_trans aG.size b7
 obtain ⟨gG, cO, cP, ba, b8⟩ := s_many (P := Tryz.prog) (t := 29) (i := 0) [iv ((numericsV v u).1.k), iv ((numericsV v u).1.nk), iv ((numericsV v u).1.nn), .bool ((numericsV v u).1.neg), sv b2 ((numericsV v u).1.mag) bl, sv bj ((numericsV v u).1.s) bm, iv ((numericsV v u).1.ref)] Tryz.sizeOf29 rfl rfl rfl a9 lb
 have fd : Blk gG aN 29 [iv ((numericsV v u).1.k), iv ((numericsV v u).1.nk), iv ((numericsV v u).1.nn), .bool ((numericsV v u).1.neg), sv b2 ((numericsV v u).1.mag) bl, sv bj ((numericsV v u).1.s) bm, iv ((numericsV v u).1.ref)] := cP
 refine st_act rfl rfl fun iO fe => a_store' rfl b4 bu cO (fe _ _ trivial ?_)
 have ff := e7.far a9 ba (by first | rfl | decide | simp [notK])
 have fg := e8.far a9 ba (by first | rfl | decide | simp [notK])
 have fh := e9.far a9 ba (by first | rfl | decide | simp [notK])
 have fi := fa.far a9 ba (by first | rfl | decide | simp [notK])
 have fj := b8 _ _ _ (hne61) fc
 have bb := b8 _ _ _ (fun h => hne60 h.symm) fb
 have fk := e6.trans ba (fun _ h b => by subst b; omega)
 obtain ⟨gH, cQ, cR, bd, b9⟩ := s_many (P := Tryz.prog) (t := 29) (i := 0) [iv ((numericsV v u).2.1.k), iv ((numericsV v u).2.1.nk), iv ((numericsV v u).2.1.nn), .bool ((numericsV v u).2.1.neg), sv bs ((numericsV v u).2.1.mag) bn, sv b3 ((numericsV v u).2.1.s) bo, iv ((numericsV v u).2.1.ref)] Tryz.sizeOf29 rfl rfl rfl bb lb
 have ca : Blk gH bw 29 [iv ((numericsV v u).2.1.k), iv ((numericsV v u).2.1.nk), iv ((numericsV v u).2.1.nn), .bool ((numericsV v u).2.1.neg), sv bs ((numericsV v u).2.1.mag) bn, sv b3 ((numericsV v u).2.1.s) bo, iv ((numericsV v u).2.1.ref)] := cR
 refine st_act rfl rfl fun iP fl => a_store' rfl b6 bv cQ (fl _ _ trivial ?_)
 have cb := ff.far bb bd (by first | rfl | decide | simp [notK])
 have cc := fg.far bb bd (by first | rfl | decide | simp [notK])
 have cd := fh.far bb bd (by first | rfl | decide | simp [notK])
 have ce := fi.far bb bd (by first | rfl | decide | simp [notK])
 have cf := b9 _ _ _ (hne62) fj
 have ch := b9 _ _ _ (hne60) fd
 have ci := fk.trans bd (fun _ h b => by subst b; omega)
 refine st_take rfl rfl (y_assign (v := iv ((numericsV v u).2.2)) rfl eO) rfl ?_
 obtain ⟨gI, ab⟩ : ∃ a', a' = bt.put (some 10) (iv ((numericsV v u).2.2)) := ⟨_, rfl⟩
 have bf := pz ab b1
 have cj := pd ab e5
 have eP := pn ab gE (by decide)
 have eQ := pn ab gF (by decide)
 have hl := pn ab bu (by decide)
 have ho := pn ab bv (by decide)
 have hr := pn ab eO (by decide)
 have cl := pn ab b4 (by decide)
 have cm := pn ab b6 (by decide)
 have bg : gI.eval (.tmp 10) = iv ((numericsV v u).2.2) := by rw [ab]; exact put_same _ _ _ (by rw [b1]; decide)
 show stepsTo _ _ _ _ _ (bt.put (some 10) (iv ((numericsV v u).2.2))) _
 rw [← ab]
 refine st_nil (eW _ _ (wp_seq_k fun hs cS => ?_))
 refine wp_block ?_
 refine wp_seq_k fun ht bx => ?_
 rcases bc (decide (((numericsV v u).2.2) = 0)) with ac | ac
 have cn := oT ac
 refine wp_g0 [true, true, true] [] 58
   [ve (iv ((numericsV v u).2.2)), vF, vF] bf (.eq (.eq (.eq (.nil)))) ?_ ?_
 exact .m (fun k => k.fx 10 bg) <| .t (fun _ w hn k => ⟨_, v_bin rfl (k.eq1 0 20 rfl) rfl (fun _ => rfl) (r_neq ac), rfl⟩) <| .a (fun k => k.eq1 1 21 rfl) .nil
 refine aftI bf cj ci fun hu hv aO bz bA am aA => ?_
 have bp := aA.fx 0 eP
 have co := aA.fx 6 eQ
 have bh := aA.fx 8 cl
 have cp := aA.fx 9 cm
 have hw := aA.fx 10 bg
 have fm := aA.ge 2 19 rfl
 have bB := cf.new_ am
 have aP := ch.new_ am
 have bC := ca.new_ am
 have bD := cb.new_ am
 have bE := cc.new_ am
 have bF := cd.new_ am
 have bG := ce.new_ am
 refine st_nil (bx _ _ ?_)
 refine wp_cond_false fm ?_
 refine wp_seq_k fun hx bH => ?_
 rcases bc (decide (((numericsV v u).1.k) = 4)) with aa | aa
 have cq := oT aa
 refine wp_g0 (.replicate 8 true) [] 58
   [ve (pv aN), ve (iv ((numericsV v u).1.k)), vT, vT, ve (.string ⟨#[124]⟩), vF, vF, vF] aO (.eq (.eq (.eq (.eq (.eq (.eq (.eq (.eq (.nil))))))))) ?_ ?_
 exact .f (fun k => k.fx 8 bh) <| .t (fun _ w hn k => ⟨_, v_load rfl (k.eq1 0 25 rfl) (l_one Tryz.isAgg3 ((aP.new_ hn).cell 0)), rfl⟩) <| .t (fun _ w hn k => ⟨_, v_bin rfl (k.eq1 1 26 rfl) rfl (fun _ => rfl) (r_eql aa), rfl⟩) <| .m (fun k => k.eq1 2 27 rfl) <| .gm (fun k => k.eq1 3 28 rfl) (fun k => k.fx 0 bp) <| .g (fun k => k.eq1 3 28 rfl) (fun _ w hn k => ⟨_, v_bin rfl (k.eq1 4 29 rfl) rfl (fun _ => rfl) (r_eqlS (r := false) (by kernel_rfl)), rfl⟩) <| .t (fun _ w hn k => ⟨_, v_pickT rfl (k.eq1 3 28 rfl) (k.eq1 5 30 rfl), rfl⟩) <| .a (fun k => k.eq1 6 31 rfl) .nil
 refine aftI aO bz bA fun hy hz bI cT cU an aH => ?_
 have fn := aH.fx 0 bp
 have fo := aH.fx 6 co
 have cr := aH.fx 8 bh
 have fp := aH.fx 9 cp
 have fq := aH.ge 7 24 rfl
 have cV := bB.new_ an
 have bJ := aP.new_ an
 have cW := bC.new_ an
 have cX := bD.new_ an
 have cY := bE.new_ an
 have cZ := bF.new_ an
 have c0 := bG.new_ an
 refine st_nil (bH _ _ ?_)
 refine wp_cond_false fq ?_
 refine wp_seq_k fun hA c1 => ?_
 refine wp_g0 [true, true, true, true] [] 58
   [ve (pv aN), ve (iv ((numericsV v u).1.k)), vT, vT] bI (.eq (.eq (.eq (.eq (.nil))))) ?_ ?_
 exact .f (fun k => k.fx 8 cr) <| .t (fun _ w hn k => ⟨_, v_load rfl (k.eq1 0 34 rfl) (l_one Tryz.isAgg3 ((bJ.new_ hn).cell 0)), rfl⟩) <| .t (fun _ w hn k => ⟨_, v_bin rfl (k.eq1 1 35 rfl) rfl (fun _ => rfl) (r_eql aa), rfl⟩) <| .a (fun k => k.eq1 2 36 rfl) .nil
 refine aftI bI cT cU fun hC hD bK c3 c5 ao aI => ?_
 have hE := aI.fx 0 fn
 have fr := aI.fx 6 fo
 have hF := aI.fx 8 cr
 have hG := aI.fx 9 fp
 have fs := aI.ge 3 33 rfl
 have c7 := cV.new_ ao
 have gJ := bJ.new_ ao
 have gK := cW.new_ ao
 have gL := cX.new_ ao
 have gM := cY.new_ ao
 have gN := cZ.new_ ao
 have gO := c0.new_ ao
 refine st_nil (c1 _ _ ?_)
 refine wp_cond_true fs ?_
 refine wp_seq_k fun hH c9 => ?_
 refine wp_g0 [true, false, false] [(1, false), (2, true)] 58
   [ve (vv (Vl.mk 0 0 0 false [] [] 0) none 0 none 0), vt, vt] bK (.eq (.tt (.tt (.nil)))) ?_ ?_
 exact .t (fun _ w hn k => ⟨_, v_build (ps := []) rfl parts0 (by kernel_rfl), rfl⟩) <| .off <| .off .nil
 refine aftI bK c3 c5 fun ct hI bL da db dc bM => ?_
 have cw := bM.fx 6 fr
 have cx := bM.ge 0 37 rfl
 have dd := c7.new_ dc
 obtain ⟨ft, cy, cz, de, gP⟩ := s_many (P := Tryz.prog) (t := 29) (i := 0) [iv 0, iv 0, iv 0, .bool false, sv none ([]) 0, sv none ([]) 0, iv 0] Tryz.sizeOf29 rfl rfl rfl dd lb
 have df : Blk ft aR 29 [iv 0, iv 0, iv 0, .bool false, sv none ([]) 0, sv none ([]) 0, iv 0] := cz
 refine st_act rfl rfl fun hJ dg => a_store' rfl cw cx cy (dg _ _ trivial ?_)
 have dh := db.trans de (fun _ h b => by subst b; omega)
 refine st_take rfl rfl (y_assign (v := iv 3) rfl rfl) rfl ?_
 obtain ⟨fu, aB⟩ : ∃ a', a' = ct.put (some 7) (iv 3) := ⟨_, rfl⟩
 have gQ := pz aB bL
 have di := pd aB da
 have fv := pn aB cw (by decide)
 have hK := pn aB cx (by decide)
 have fw : fu.eval (.tmp 7) = iv 3 := by rw [aB]; exact put_same _ _ _ (by rw [bL]; decide)
 show stepsTo _ _ _ _ _ (ct.put (some 7) (iv 3)) _
 rw [← aB]
 refine st_nil (c9 _ _ ?_)
 refine wp_ret (ret_k di (v := .tuple #[vv (Vl.mk 0 0 0 false [] [] 0) none 0 none 0, iv 3]) (res_ct rfl fv fw (l_agg Tryz.isAgg29 Tryz.sizeOf29 df rfl)) ?_)
 refine ⟨?_, dh⟩
 show Ending.returned (.tuple #[vv (Vl.mk 0 0 0 false [] [] 0) none 0 none 0, iv 3]) = Ending.returned (.tuple #[vv (Vl.mk (bitsV 2 v u).1 (bitsV 2 v u).2.1.k (bitsV 2 v u).2.1.n false [] [] 0) none 0 none 0, iv ((bitsV 2 v u).2.2)])
 first | rfl | (simp only [bitsV_eq, ac, aa, bsm] <;> rfl) | (exfalso; omega)
 have cq := oF aa
 refine wp_g0 (.replicate 8 true) [] 58
   [ve (pv aN), ve (iv ((numericsV v u).1.k)), vF, vF, vU, vU, vF, vF] aO (.eq (.eq (.eq (.eq (.eq (.eq (.eq (.eq (.nil))))))))) ?_ ?_
 exact .f (fun k => k.fx 8 bh) <| .t (fun _ w hn k => ⟨_, v_load rfl (k.eq1 0 25 rfl) (l_one Tryz.isAgg3 ((aP.new_ hn).cell 0)), rfl⟩) <| .t (fun _ w hn k => ⟨_, v_bin rfl (k.eq1 1 26 rfl) rfl (fun _ => rfl) (r_eql aa), rfl⟩) <| .m (fun k => k.eq1 2 27 rfl) <| .s (fun k => k.eq1 3 28 rfl) <| .s (fun k => k.eq1 3 28 rfl) <| .t (fun _ w hn k => ⟨_, v_pickF rfl (k.eq1 3 28 rfl) rfl, rfl⟩) <| .a (fun k => k.eq1 6 31 rfl) .nil
 refine aftI aO bz bA fun hL hM bN dj dk ap aJ => ?_
 have fy := aJ.fx 0 bp
 have fz := aJ.fx 6 co
 have cA := aJ.fx 8 bh
 have fA := aJ.fx 9 cp
 have fB := aJ.ge 7 24 rfl
 have dl := bB.new_ ap
 have bO := aP.new_ ap
 have dm := bC.new_ ap
 have dn := bD.new_ ap
 have dp := bE.new_ ap
 have dq := bF.new_ ap
 have dr := bG.new_ ap
 refine st_nil (bH _ _ ?_)
 refine wp_cond_false fB ?_
 refine wp_seq_k fun hN ds => ?_
 refine wp_g0 [true, true, true, true] [] 58
   [ve (pv aN), ve (iv ((numericsV v u).1.k)), vF, vF] bN (.eq (.eq (.eq (.eq (.nil))))) ?_ ?_
 exact .f (fun k => k.fx 8 cA) <| .t (fun _ w hn k => ⟨_, v_load rfl (k.eq1 0 34 rfl) (l_one Tryz.isAgg3 ((bO.new_ hn).cell 0)), rfl⟩) <| .t (fun _ w hn k => ⟨_, v_bin rfl (k.eq1 1 35 rfl) rfl (fun _ => rfl) (r_eql aa), rfl⟩) <| .a (fun k => k.eq1 2 36 rfl) .nil
 refine aftI bN dj dk fun hO hP bP dt dw aq aK => ?_
 have fC := aK.fx 0 fy
 have fD := aK.fx 6 fz
 have fE := aK.fx 8 cA
 have fF := aK.fx 9 fA
 have fG := aK.ge 3 33 rfl
 have dx := dl.new_ aq
 have dy := bO.new_ aq
 have dz := dm.new_ aq
 have dA := dn.new_ aq
 have dB := dp.new_ aq
 have dC := dq.new_ aq
 have dD := dr.new_ aq
 refine st_nil (ds _ _ ?_)
 refine wp_cond_false fG ?_
 refine wp_skip ?_
 refine cS _ _ ?_
 refine wp_seq_k fun hQ dE => ?_
 refine wp_g0 [true] [] 58
   [ve (iv 0)] bP (.eq (.nil)) ?_ ?_
 exact .t (fun _ w hn k => ⟨_, v_assign rfl rfl, rfl⟩) .nil
 refine aftI bP dt dw fun hR hT bQ dF dG ar aL => ?_
 have fH := aL.fx 0 fC
 have fI := aL.fx 6 fD
 have fJ := aL.fx 8 fE
 have fK := aL.fx 9 fF
 have fL := aL.ge 0 11 rfl
 have dH := dx.new_ ar
 have dI := dy.new_ ar
 have dJ := dz.new_ ar
 have dK := dA.new_ ar
 have dL := dB.new_ ar
 have dM := dC.new_ ar
 have dN := dD.new_ ar
 refine st_nil (dE _ _ (wp_seq_k fun hU dO => ?_))
 refine wp_seq_k fun hV dP => ?_
 refine wp_g0 [true] [] 58
   [ve (.string ⟨#[124]⟩)] bQ (.eq (.nil)) ?_ ?_
 exact .m (fun k => k.fx 0 fH) .nil
 refine aftI bQ dF dG fun hW hX bR dQ dR au aM => ?_
 have fM := aM.fx 6 fI
 have fN := aM.fx 8 fJ
 have fO := aM.fx 9 fK
 have fP := aM.fx 11 fL
 have cB := aM.ge 0 38 rfl
 have dS := dH.new_ au
 have dT := dI.new_ au
 have dU := dJ.new_ au
 have dV := dK.new_ au
 have dW := dL.new_ au
 have dX := dM.new_ au
 have dY := dN.new_ au
 refine st_nil (dP _ _ ?_)
 refine wp_block ?_
 refine wp_seq_k fun hY dZ => ?_
 refine wp_g0 [true, true] [] 58
   [vF, vF] bR (.eq (.eq (.nil))) ?_ ?_
 exact .t (fun _ w hn k => ⟨_, v_bin rfl (k.fx 38 cB) rfl (fun _ => rfl) (r_eqlS (r := false) (by kernel_rfl)), rfl⟩) <| .a (fun k => k.eq1 0 40 rfl) .nil
 refine aftI bR dQ dR fun hZ h4 bS d0 d1 av aC => ?_
 have fQ := aC.fx 6 fM
 have fR := aC.fx 8 fN
 have fS := aC.fx 9 fO
 have fT := aC.fx 11 fP
 have cC := aC.fx 38 cB
 have fU := aC.ge 1 39 rfl
 have d2 := dS.new_ av
 have d3 := dT.new_ av
 have d4 := dU.new_ av
 have d5 := dV.new_ av
 have d6 := dW.new_ av
 have d7 := dX.new_ av
 have d8 := dY.new_ av
 refine st_nil (dZ _ _ ?_)
 refine wp_cond_false fU ?_
 refine wp_seq_k fun h5 d9 => ?_
 refine wp_g0 [true, true] [] 58
   [vT, vT] bS (.eq (.eq (.nil))) ?_ ?_
 exact .t (fun _ w hn k => ⟨_, v_bin rfl (k.fx 38 cC) rfl (fun _ => rfl) (r_eqlS (r := true) (by kernel_rfl)), rfl⟩) <| .a (fun k => k.eq1 0 42 rfl) .nil
 refine aftI bS d0 d1 fun h6 h7 bT ea eb aw aD => ?_
 have fV := aD.fx 6 fQ
 have fW := aD.fx 8 fR
 have fX := aD.fx 9 fS
 have ia := aD.fx 11 fT
 have ib := aD.fx 38 cC
 have fY := aD.ge 1 41 rfl
 have ec := d2.new_ aw
 have ed := d3.new_ aw
 have ee := d4.new_ aw
 have ef := d5.new_ aw
 have eg := d6.new_ aw
 have eh := d7.new_ aw
 have ei := d8.new_ aw
 refine st_nil (d9 _ _ ?_)
 refine wp_cond_true fY ?_
 refine wp_g0 [true] [] 58
   [ve (iv 2)] bT (.eq (.nil)) ?_ ?_
 exact .t (fun _ w hn k => ⟨_, v_assign rfl rfl, rfl⟩) .nil
 refine aftI bT ea eb fun ic id bU ej ek ax aQ => ?_
 have fZ := aQ.fx 6 fV
 have f0 := aQ.fx 8 fW
 have f1 := aQ.fx 9 fX
 have f2 := aQ.ge 0 11 rfl
 have el := ec.new_ ax
 have em := ed.new_ ax
 have en := ee.new_ ax
 have gR := ef.new_ ax
 have gS := eg.new_ ax
 have gT := eh.new_ ax
 have gU := ei.new_ ax
 refine st_nil (dO _ _ (wp_seq_k fun ie eo => ?_))
 refine wp_g0 [true, true, true, true, true, true, true, false, false] [(7, false), (8, true)] 58
   [ve (iv 2), ve (.pointer (some ⟨aN, 1, none⟩)), ve (nv (Nm.mk ((numericsV v u).1.nk) ((numericsV v u).1.nn))), ve (.pointer (some ⟨bw, 1, none⟩)), ve (nv (Nm.mk ((numericsV v u).2.1.nk) ((numericsV v u).2.1.nn))), ve (nv (bitM 2 (Nm.mk ((numericsV v u).1.nk) ((numericsV v u).1.nn)) (Nm.mk ((numericsV v u).2.1.nk) ((numericsV v u).2.1.nn)))), ve (vv (Vl.mk 3 (bitM 2 (Nm.mk ((numericsV v u).1.nk) ((numericsV v u).1.nn)) (Nm.mk ((numericsV v u).2.1.nk) ((numericsV v u).2.1.nn))).k (bitM 2 (Nm.mk ((numericsV v u).1.nk) ((numericsV v u).1.nn)) (Nm.mk ((numericsV v u).2.1.nk) ((numericsV v u).2.1.nn))).n false [] [] 0) none 0 none 0), vt, vt] bU (.eq (.eq (.eq (.eq (.eq (.eq (.eq (.tt (.tt (.nil)))))))))) ?_ ?_
 exact .m (fun k => k.fx 11 f2) <| .f (fun k => k.fx 8 f0) <| .t (fun _ w hn k => ⟨_, v_load rfl (k.eq1 1 52 rfl) (l_part Tryz.isAgg23 Tryz.sizeOf23 (em.new_ hn) lb), rfl⟩) <| .f (fun k => k.fx 9 f1) <| .t (fun _ w hn k => ⟨_, v_load rfl (k.eq1 3 54 rfl) (l_part Tryz.isAgg23 Tryz.sizeOf23 (en.new_ hn) lb), rfl⟩) <| .o1 (ck rfl rfl rfl (fun _ w hn k => ⟨#[iv 2, nv (Nm.mk ((numericsV v u).1.nk) ((numericsV v u).1.nn)), nv (Nm.mk ((numericsV v u).2.1.nk) ((numericsV v u).2.1.nn))], args3 (k.eq1 0 51 rfl) (k.eq1 2 53 rfl) (k.eq1 4 55 rfl), fun _ => by kernel_rfl, bit_c 2 (Nm.mk ((numericsV v u).1.nk) ((numericsV v u).1.nn)) (Nm.mk ((numericsV v u).2.1.nk) ((numericsV v u).2.1.nn)) _ ⟩) fun _ => rfl) <| .o1 (ck rfl rfl rfl (fun _ w hn k => ⟨#[nv (bitM 2 (Nm.mk ((numericsV v u).1.nk) ((numericsV v u).1.nn)) (Nm.mk ((numericsV v u).2.1.nk) ((numericsV v u).2.1.nn)))], args1 (k.eq1 5 56 rfl), fun _ => by kernel_rfl, cnum_c (bitM 2 (Nm.mk ((numericsV v u).1.nk) ((numericsV v u).1.nn)) (Nm.mk ((numericsV v u).2.1.nk) ((numericsV v u).2.1.nn))) _ ⟩) fun _ => rfl) <| .off <| .off .nil
 refine aftI bU ej ek fun cD ig bV ep er es bW => ?_
 have cE := bW.fx 6 fZ
 have cF := bW.ge 6 57 rfl
 have et := el.new_ es
 obtain ⟨f3, cG, cH, eu, gV⟩ := s_many (P := Tryz.prog) (t := 29) (i := 0) [iv 3, iv ((bitM 2 (Nm.mk ((numericsV v u).1.nk) ((numericsV v u).1.nn)) (Nm.mk ((numericsV v u).2.1.nk) ((numericsV v u).2.1.nn))).k), iv ((bitM 2 (Nm.mk ((numericsV v u).1.nk) ((numericsV v u).1.nn)) (Nm.mk ((numericsV v u).2.1.nk) ((numericsV v u).2.1.nn))).n), .bool false, sv none ([]) 0, sv none ([]) 0, iv 0] Tryz.sizeOf29 rfl rfl rfl et lb
 have ev : Blk f3 aR 29 [iv 3, iv ((bitM 2 (Nm.mk ((numericsV v u).1.nk) ((numericsV v u).1.nn)) (Nm.mk ((numericsV v u).2.1.nk) ((numericsV v u).2.1.nn))).k), iv ((bitM 2 (Nm.mk ((numericsV v u).1.nk) ((numericsV v u).1.nn)) (Nm.mk ((numericsV v u).2.1.nk) ((numericsV v u).2.1.nn))).n), .bool false, sv none ([]) 0, sv none ([]) 0, iv 0] := cH
 refine st_act rfl rfl fun ih ew => a_store' rfl cE cF cG (ew _ _ trivial ?_)
 have ex := er.trans eu (fun _ h b => by subst b; omega)
 refine st_take rfl rfl (y_assign (v := iv 0) rfl rfl) rfl ?_
 obtain ⟨f4, aE⟩ : ∃ a', a' = cD.put (some 7) (iv 0) := ⟨_, rfl⟩
 have gW := pz aE bV
 have ey := pd aE ep
 have f5 := pn aE cE (by decide)
 have ii := pn aE cF (by decide)
 have f6 : f4.eval (.tmp 7) = iv 0 := by rw [aE]; exact put_same _ _ _ (by rw [bV]; decide)
 show stepsTo _ _ _ _ _ (cD.put (some 7) (iv 0)) _
 rw [← aE]
 refine st_nil (eo _ _ ?_)
 refine wp_ret (ret_k ey (v := .tuple #[vv (Vl.mk 3 (bitM 2 (Nm.mk ((numericsV v u).1.nk) ((numericsV v u).1.nn)) (Nm.mk ((numericsV v u).2.1.nk) ((numericsV v u).2.1.nn))).k (bitM 2 (Nm.mk ((numericsV v u).1.nk) ((numericsV v u).1.nn)) (Nm.mk ((numericsV v u).2.1.nk) ((numericsV v u).2.1.nn))).n false [] [] 0) none 0 none 0, iv 0]) (res_ct rfl f5 f6 (l_agg Tryz.isAgg29 Tryz.sizeOf29 ev rfl)) ?_)
 refine ⟨?_, ex⟩
 show Ending.returned (.tuple #[vv (Vl.mk 3 (bitM 2 (Nm.mk ((numericsV v u).1.nk) ((numericsV v u).1.nn)) (Nm.mk ((numericsV v u).2.1.nk) ((numericsV v u).2.1.nn))).k (bitM 2 (Nm.mk ((numericsV v u).1.nk) ((numericsV v u).1.nn)) (Nm.mk ((numericsV v u).2.1.nk) ((numericsV v u).2.1.nn))).n false [] [] 0) none 0 none 0, iv 0]) = Ending.returned (.tuple #[vv (Vl.mk (bitsV 2 v u).1 (bitsV 2 v u).2.1.k (bitsV 2 v u).2.1.n false [] [] 0) none 0 none 0, iv ((bitsV 2 v u).2.2)])
 first | rfl | (simp only [bitsV_eq, ac, aa, bsm] <;> rfl) | (exfalso; omega)
 have cn := oF ac
 refine wp_g0 [true, true, true] [] 58
   [ve (iv ((numericsV v u).2.2)), vT, vT] bf (.eq (.eq (.eq (.nil)))) ?_ ?_
 exact .m (fun k => k.fx 10 bg) <| .t (fun _ w hn k => ⟨_, v_bin rfl (k.eq1 0 20 rfl) rfl (fun _ => rfl) (r_neq ac), rfl⟩) <| .a (fun k => k.eq1 1 21 rfl) .nil
 refine aftI bf cj ci fun ij ik bX ez eA ay aF => ?_
 have il := aF.fx 0 eP
 have f7 := aF.fx 6 eQ
 have im := aF.fx 8 cl
 have io := aF.fx 9 cm
 have f8 := aF.fx 10 bg
 have f9 := aF.ge 2 19 rfl
 have eB := cf.new_ ay
 have gX := ch.new_ ay
 have gY := ca.new_ ay
 have gZ := cb.new_ ay
 have g0 := cc.new_ ay
 have g1 := cd.new_ ay
 have g2 := ce.new_ ay
 refine st_nil (bx _ _ ?_)
 refine wp_cond_true f9 ?_
 refine wp_seq_k fun ip eC => ?_
 refine wp_g [true, true, false, false] [1] [(2, false), (3, true)] 58
   [ve (vv (Vl.mk 0 0 0 false [] [] 0) none 0 none 0), ve (iv ((numericsV v u).2.2)), vt, vt]
   [] newsNil bX (.eq (.eq (.tt (.tt (.nil))))) ?_ ?_ ?_
 refine .t (fun _ w hn k => ⟨_, v_build (ps := []) rfl parts0 (by kernel_rfl), rfl⟩) ?_
 refine .o3 ?_
 exact .off <| .off .nil
 intro i h
 simp only [List.contains_eq_mem, List.mem_cons, List.not_mem_nil, or_false, decide_eq_true_eq] at h
 subst h
 exact eager_take rfl rfl fun _ w hn k => ⟨iv ((numericsV v u).2.2), fun w => v_move rfl (k.fx 10 f8), rfl⟩
 refine aftI bX ez eA fun cI iq bY eD eE eF bi => ?_
 have cJ := bi.fx 6 f7
 have cK := bi.ge 0 22 rfl
 have cL := bi.ge 1 23 rfl
 have eG := eB.new_ eF
 obtain ⟨ga, cM, cN, eH, g3⟩ := s_many (P := Tryz.prog) (t := 29) (i := 0) [iv 0, iv 0, iv 0, .bool false, sv none ([]) 0, sv none ([]) 0, iv 0] Tryz.sizeOf29 rfl rfl rfl eG lb
 have eI : Blk ga aR 29 [iv 0, iv 0, iv 0, .bool false, sv none ([]) 0, sv none ([]) 0, iv 0] := cN
 refine st_act rfl rfl fun ir eJ => a_store' rfl cJ cK cM (eJ _ _ trivial ?_)
 have eK := eE.trans eH (fun _ h b => by subst b; omega)
 refine st_take rfl rfl (y_assign (v := iv ((numericsV v u).2.2)) rfl cL) rfl ?_
 obtain ⟨gb, az⟩ : ∃ a', a' = cI.put (some 7) (iv ((numericsV v u).2.2)) := ⟨_, rfl⟩
 have g4 := pz az bY
 have eL := pd az eD
 have gc := pn az cJ (by decide)
 have it := pn az cK (by decide)
 have iu := pn az cL (by decide)
 have gd : gb.eval (.tmp 7) = iv ((numericsV v u).2.2) := by rw [az]; exact put_same _ _ _ (by rw [bY]; decide)
 show stepsTo _ _ _ _ _ (cI.put (some 7) (iv ((numericsV v u).2.2))) _
 rw [← az]
 refine st_nil (eC _ _ ?_)
 refine wp_ret (ret_k eL (v := .tuple #[vv (Vl.mk 0 0 0 false [] [] 0) none 0 none 0, iv ((numericsV v u).2.2)]) (res_ct rfl gc gd (l_agg Tryz.isAgg29 Tryz.sizeOf29 eI rfl)) ?_)
 refine ⟨?_, eK⟩
 show Ending.returned (.tuple #[vv (Vl.mk 0 0 0 false [] [] 0) none 0 none 0, iv ((numericsV v u).2.2)]) = Ending.returned (.tuple #[vv (Vl.mk (bitsV 2 v u).1 (bitsV 2 v u).2.1.k (bitsV 2 v u).2.1.n false [] [] 0) none 0 none 0, iv ((bitsV 2 v u).2.2)])
 first | rfl | (simp only [bitsV_eq, ac, bsm] <;> rfl) | (exfalso; omega)
theorem bin2_c  (v : Vl) (Av : Option Addr) (cv : Nat) (Bv : Option Addr) (dv : Nat) (u : Vl) (Au : Option Addr) (cu : Nat) (Bu : Option Addr) (du : Nat) (w : World) (hmv : SRow w .u32 Av v.mag cv) (hsv : SRow w .u16 Bv v.s dv) (hmu : SRow w .u32 Au u.mag cu) (hsu : SRow w .u16 Bu u.s du) (hvv : VOk v) (hvu : VOk u) : Calls Tryz.prog 12 #[.string ⟨#[124]⟩, vv v Av cv Bv dv, vv u Au cu Bu du] w (IsRet (.tuple #[vv (Vl.mk (bitsV 2 (cleanV v) (cleanV u)).1 (bitsV 2 (cleanV v) (cleanV u)).2.1.k (bitsV 2 (cleanV v) (cleanV u)).2.1.n false [] [] 0) none 0 none 0, iv ((bitsV 2 (cleanV v) (cleanV u)).2.2)]) w) := by
 refine enter_abs Tryz.func12 rfl fun a0 aK ej hp => ?_
 have aK : a0.tmps.size = 120 := aK
 have aL : New w w := Upd.refl _ _
 have hp0 : a0.eval (.tmp 0) = .string ⟨#[124]⟩ := hp 0 _ rfl
 have hp1 : a0.eval (.tmp 1) = vv v Av cv Bv dv := hp 1 _ rfl
 have hp2 : a0.eval (.tmp 2) = vv u Au cu Bu du := hp 2 _ rfl
 refine wp_seq_k fun K1 ek => ?_
 refine wp_g [true, true, true, true] [] [] 120
   [IsNew w 29 [iv v.k, iv v.nk, iv v.nn, .bool v.neg, sv Av v.mag cv, sv Bv v.s dv, iv v.ref], IsNew w 29 [iv u.k, iv u.nk, iv u.nn, .bool u.neg, sv Au u.mag cu, sv Bu u.s du, iv u.ref], IsNew w 29 [iv 0, iv 0, iv 0, .bool false, sv none ([]) 0, sv none ([]) 0, iv 0], ve (iv 0)]
   [0, 1, 2] (newsCons (fun v w h => IsNew.old h) (newsCons (fun v w h => IsNew.old h) (newsCons (fun v w h => IsNew.old h) newsNil))) aK (.nw (.nw (.nw (.eq (.nil))))) ?_ (fun i h => by cases h) ?_
 exact .o2 (step_allocN (cs := [iv v.k, iv v.nk, iv v.nn, .bool v.neg, sv Av v.mag cv, sv Bv v.s dv, iv v.ref]) (t := 29) rfl (noG rfl) (fun _ w hn k => v_box rfl (k.fx 1 hp1) (fun w => rfl)) (fun q _ hq hb => ⟨q, rfl, hq, hb⟩)) <| .o2 (step_allocN (cs := [iv u.k, iv u.nk, iv u.nn, .bool u.neg, sv Au u.mag cu, sv Bu u.s du, iv u.ref]) (t := 29) rfl (noG rfl) (fun _ w hn k => v_box rfl (k.fx 2 hp2) (fun w => rfl)) (fun q _ hq hb => ⟨q, rfl, hq, hb⟩)) <| .o2 (step_allocN (cs := [iv 0, iv 0, iv 0, .bool false, sv none ([]) 0, sv none ([]) 0, iv 0]) (t := 29) rfl (noG rfl) (fun _ w hn k => rfl) (fun q _ hq hb => ⟨q, rfl, hq, hb⟩)) <| .t (fun _ w hn k => ⟨_, v_assign rfl rfl, rfl⟩) .nil
 refine aftI aK ej aL fun a2 w3 cW el ar e9 au => ?_
 have h8 := au.fx 0 hp0
 obtain ⟨aV, h9, c3, aW⟩ : IsNew _ _ _ _ _ := au.got 0 4 rfl (by kernel_rfl)
 obtain ⟨aX, aM, c5, aY⟩ : IsNew _ _ _ _ _ := au.got 1 5 rfl (by kernel_rfl)
 obtain ⟨aZ, a1, c7, c9⟩ : IsNew _ _ _ _ _ := au.got 2 6 rfl (by kernel_rfl)
 have hne21 : aV ≠ aX := au.ne 0 1 4 5 h9 aM
 have hne22 : aV ≠ aZ := au.ne 0 2 4 6 h9 a1
 have hne23 : aX ≠ aZ := au.ne 1 2 5 6 aM a1
 have eD := Nat.le_trans aL.size c3
 have eE := Nat.le_trans aL.size c5
 have eF := Nat.le_trans aL.size c7
 refine st_nil (ek _ _ (wp_seq_k fun fa da => ?_))
 refine wp_g0 [true, true, true, true, false, false] [(4, false), (5, false)] 120
   [ve (vv v Av cv Bv dv),
    (VP (cleanV v)), ve (vv u Au cu Bu du),
    (VP (cleanV u)), vt, vt] cW (.eq (.cons (fun v W W' hn ⟨A5, c6, A7, c8, he, h0, h1⟩ => ⟨A5, c6, A7, c8, he, h0.new_ hn, h1.new_ hn⟩) (.eq (.cons (fun v W W' hn ⟨em, en, eo, ep, he, h0, h1⟩ => ⟨em, en, eo, ep, he, h0.new_ hn, h1.new_ hn⟩) (.tt (.tt (.nil))))))) ?_ ?_
 refine .t (fun _ w hn k => ⟨_, v_load rfl (k.fx 4 h9) (l_agg Tryz.isAgg29 Tryz.sizeOf29 (aW.new_ hn) rfl), rfl⟩) ?_
 refine .o1 (tkC rfl (noG rfl) rfl fun _ w hn k => (by
       refine ⟨#[vv v Av cv Bv dv], _, args1 (k.eq1 0 10 rfl), fun w => by kernel_rfl, clean_c v _ _ _ _ _ (hmv.new_ (ar.transNew hn)) (hsv.new_ (ar.transNew hn)), ?_⟩
       rintro e w' ⟨A1, c2, A3, c4, rfl, hmo0, hmo1, hm⟩
       exact ⟨_, rfl, hm, ⟨A1, c2, A3, c4, rfl, hmo0, hmo1⟩⟩)) ?_
 refine .t (fun _ w hn k => ⟨_, v_load rfl (k.fx 5 aM) (l_agg Tryz.isAgg29 Tryz.sizeOf29 (aY.new_ hn) rfl), rfl⟩) ?_
 refine .o1 (tkC rfl (noG rfl) rfl fun _ w hn k => (by
       refine ⟨#[vv u Au cu Bu du], _, args1 (k.eq1 2 12 rfl), fun w => by kernel_rfl, clean_c u _ _ _ _ _ (hmu.new_ (ar.transNew hn)) (hsu.new_ (ar.transNew hn)), ?_⟩
       rintro e w' ⟨A9, er, es, et, rfl, hmo0, hmo1, hm⟩
       exact ⟨_, rfl, hm, ⟨A9, er, es, et, rfl, hmo0, hmo1⟩⟩)) ?_
 exact .off <| .off .nil
 refine aftI cW el ar fun cX fb a3 db dc aJ aq => ?_
 have cY := aq.fx 0 h8
 have cZ := aq.fx 4 h9
 have c0 := aq.fx 5 aM
 have eu := aq.fx 6 a1
 obtain ⟨aF, av, aG, aw, a4, dd, de⟩ : (VP (cleanV v)) _ _ := aq.got 1 11 rfl (by kernel_rfl)
 have a4 : cX.eval (.tmp 11) = vv (cleanV v) aF av aG aw := a4
 obtain ⟨aH, ax, aI, ay, a5, df, dg⟩ : (VP (cleanV u)) _ _ := aq.got 3 13 rfl (by kernel_rfl)
 have a5 : cX.eval (.tmp 13) = vv (cleanV u) aH ax aI ay := a5
 have az := aW.new_ aJ
 have dh := aY.new_ aJ
 have di := c9.new_ aJ
 obtain ⟨ev, bn, bo, aA, a6⟩ := s_many (P := Tryz.prog) (t := 29) (i := 0) [iv ((cleanV v).k), iv ((cleanV v).nk), iv ((cleanV v).nn), .bool ((cleanV v).neg), sv aF ((cleanV v).mag) av, sv aG ((cleanV v).s) aw, iv ((cleanV v).ref)] Tryz.sizeOf29 rfl rfl rfl az lb
 have dj : Blk ev aV 29 [iv ((cleanV v).k), iv ((cleanV v).nk), iv ((cleanV v).nn), .bool ((cleanV v).neg), sv aF ((cleanV v).mag) av, sv aG ((cleanV v).s) aw, iv ((cleanV v).ref)] := bo
 refine st_act rfl rfl fun fc dk => a_store' rfl cZ a4 bn (dk _ _ trivial ?_)
 have dl := dd.far az aA (by first | rfl | decide | simp [notK])
 have dm := de.far az aA (by first | rfl | decide | simp [notK])
 have dn := df.far az aA (by first | rfl | decide | simp [notK])
 have dp := dg.far az aA (by first | rfl | decide | simp [notK])
 have aB := a6 _ _ _ (fun h => hne21 h.symm) dh
 have dq := a6 _ _ _ (fun h => hne22 h.symm) di
 have dr := dc.trans aA (fun _ h b => by subst b; omega)
 obtain ⟨ew, bp, bq, aC, a7⟩ := s_many (P := Tryz.prog) (t := 29) (i := 0) [iv ((cleanV u).k), iv ((cleanV u).nk), iv ((cleanV u).nn), .bool ((cleanV u).neg), sv aH ((cleanV u).mag) ax, sv aI ((cleanV u).s) ay, iv ((cleanV u).ref)] Tryz.sizeOf29 rfl rfl rfl aB lb
 have ds : Blk ew aX 29 [iv ((cleanV u).k), iv ((cleanV u).nk), iv ((cleanV u).nn), .bool ((cleanV u).neg), sv aH ((cleanV u).mag) ax, sv aI ((cleanV u).s) ay, iv ((cleanV u).ref)] := bq
 refine st_act rfl rfl fun fd dt => a_store' rfl c0 a5 bp (dt _ _ trivial ?_)
 have dw := dl.far aB aC (by first | rfl | decide | simp [notK])
 have dx := dm.far aB aC (by first | rfl | decide | simp [notK])
 have dy := dn.far aB aC (by first | rfl | decide | simp [notK])
 have dz := dp.far aB aC (by first | rfl | decide | simp [notK])
 have dA := a7 _ _ _ (hne21) dj
 have dB := a7 _ _ _ (fun h => hne23 h.symm) dq
 have dC := dr.trans aC (fun _ h b => by subst b; omega)
 refine st_nil (da _ _ (wp_seq_k fun fe eG => ?_))
 refine wp_seq_k fun ff dD => ?_
 refine wp_g0 [true] [] 120
   [ve (.string ⟨#[124]⟩)] a3 (.eq (.nil)) ?_ ?_
 exact .m (fun k => k.fx 0 cY) .nil
 refine aftI a3 db dC fun fg fh a8 dE br ap aD => ?_
 have ex := aD.fx 0 cY
 have ey := aD.fx 4 cZ
 have ez := aD.fx 5 c0
 have eA := aD.fx 6 eu
 have c1 := aD.ge 0 14 rfl
 have dF := dA.new_ ap
 have dG := ds.new_ ap
 have bs := dB.new_ ap
 have bt := dw.new_ ap
 have bu := dx.new_ ap
 have bv := dy.new_ ap
 have bw := dz.new_ ap
 refine st_nil (dD _ _ ?_)
 refine wp_block ?_
 refine wp_seq_k fun eH bx => ?_
 refine wp_g0 [true, true] [] 120
   [vF, vF] a8 (.eq (.eq (.nil))) ?_ ?_
 exact .t (fun _ w hn k => ⟨_, v_bin rfl (k.fx 14 c1) rfl (fun _ => rfl) (r_eqlS (r := false) (by kernel_rfl)), rfl⟩) <| .a (fun k => k.eq1 0 16 rfl) .nil
 refine aftI a8 dE br fun eI eJ aN bz bA aa ai => ?_
 have dH := ai.fx 0 ex
 have dI := ai.fx 4 ey
 have dJ := ai.fx 5 ez
 have dK := ai.fx 6 eA
 have a9 := ai.fx 14 c1
 have dL := ai.ge 1 15 rfl
 have bB := dF.new_ aa
 have bC := dG.new_ aa
 have bD := bs.new_ aa
 have bE := bt.new_ aa
 have bF := bu.new_ aa
 have bG := bv.new_ aa
 have bH := bw.new_ aa
 refine st_nil (bx _ _ ?_)
 refine wp_cond_false dL ?_
 refine wp_seq_k fun eK bI => ?_
 refine wp_seq_k fun eL bJ => ?_
 refine wp_g0 [true, true] [] 120
   [vF, vF] aN (.eq (.eq (.nil))) ?_ ?_
 exact .t (fun _ w hn k => ⟨_, v_bin rfl (k.fx 14 a9) rfl (fun _ => rfl) (r_eqlS (r := false) (by kernel_rfl)), rfl⟩) <| .a (fun k => k.eq1 0 37 rfl) .nil
 refine aftI aN bz bA fun eM eN aO bK bL ab aj => ?_
 have dM := aj.fx 0 dH
 have dN := aj.fx 4 dI
 have dO := aj.fx 5 dJ
 have dP := aj.fx 6 dK
 have ba := aj.fx 14 a9
 have dQ := aj.ge 1 36 rfl
 have bM := bB.new_ ab
 have bN := bC.new_ ab
 have bO := bD.new_ ab
 have bP := bE.new_ ab
 have bQ := bF.new_ ab
 have bR := bG.new_ ab
 have bS := bH.new_ ab
 refine st_nil (bJ _ _ ?_)
 refine wp_cond_false dQ ?_
 refine wp_seq_k fun eO bT => ?_
 refine wp_g0 [true, true] [] 120
   [vF, vF] aO (.eq (.eq (.nil))) ?_ ?_
 exact .t (fun _ w hn k => ⟨_, v_bin rfl (k.fx 14 ba) rfl (fun _ => rfl) (r_eqlS (r := false) (by kernel_rfl)), rfl⟩) <| .a (fun k => k.eq1 0 38 rfl) .nil
 refine aftI aO bK bL fun eP eQ aP bU bV ac ak => ?_
 have dR := ak.fx 0 dM
 have dS := ak.fx 4 dN
 have dT := ak.fx 5 dO
 have dU := ak.fx 6 dP
 have bb := ak.fx 14 ba
 have dV := ak.ge 1 36 rfl
 have bW := bM.new_ ac
 have bX := bN.new_ ac
 have bY := bO.new_ ac
 have bZ := bP.new_ ac
 have b0 := bQ.new_ ac
 have b1 := bR.new_ ac
 have b2 := bS.new_ ac
 refine st_nil (bT _ _ ?_)
 refine wp_cond_false dV ?_
 refine wp_seq_k fun eR b3 => ?_
 refine wp_g0 [true, true] [] 120
   [vF, vF] aP (.eq (.eq (.nil))) ?_ ?_
 exact .t (fun _ w hn k => ⟨_, v_bin rfl (k.fx 14 bb) rfl (fun _ => rfl) (r_eqlS (r := false) (by kernel_rfl)), rfl⟩) <| .a (fun k => k.eq1 0 39 rfl) .nil
 refine aftI aP bU bV fun eS eT aQ b4 b5 ad al => ?_
 have dW := al.fx 0 dR
 have dX := al.fx 4 dS
 have dY := al.fx 5 dT
 have dZ := al.fx 6 dU
 have bd := al.fx 14 bb
 have d0 := al.ge 1 36 rfl
 have b6 := bW.new_ ad
 have b7 := bX.new_ ad
 have b8 := bY.new_ ad
 have b9 := bZ.new_ ad
 have ca := b0.new_ ad
 have cb := b1.new_ ad
 have cc := b2.new_ ad
 refine st_nil (b3 _ _ ?_)
 refine wp_cond_false d0 ?_
 refine wp_g0 [true, true] [] 120
   [vF, vF] aQ (.eq (.eq (.nil))) ?_ ?_
 exact .t (fun _ w hn k => ⟨_, v_bin rfl (k.fx 14 bd) rfl (fun _ => rfl) (r_eqlS (r := false) (by kernel_rfl)), rfl⟩) <| .a (fun k => k.eq1 0 40 rfl) .nil
 refine aftI aQ b4 b5 fun eU eV aR cd ce ae am => ?_
 have d1 := am.fx 0 dW
 have d2 := am.fx 4 dX
 have d3 := am.fx 5 dY
 have d4 := am.fx 6 dZ
 have be := am.fx 14 bd
 have d5 := am.ge 1 36 rfl
 have cf := b6.new_ ae
 have ch := b7.new_ ae
 have ci := b8.new_ ae
 have cj := b9.new_ ae
 have cl := ca.new_ ae
 have cm := cb.new_ ae
 have cn := cc.new_ ae
 refine st_nil (bI _ _ ?_)
 refine wp_cond_false d5 ?_
 refine wp_seq_k fun eW co => ?_
 refine wp_seq_k fun eX cp => ?_
 refine wp_g0 [true, true] [] 120
   [vF, vF] aR (.eq (.eq (.nil))) ?_ ?_
 exact .t (fun _ w hn k => ⟨_, v_bin rfl (k.fx 14 be) rfl (fun _ => rfl) (r_eqlS (r := false) (by kernel_rfl)), rfl⟩) <| .a (fun k => k.eq1 0 48 rfl) .nil
 refine aftI aR cd ce fun eY eZ aS cq cr af an => ?_
 have d6 := an.fx 0 d1
 have d7 := an.fx 4 d2
 have d8 := an.fx 5 d3
 have d9 := an.fx 6 d4
 have bf := an.fx 14 be
 have ea := an.ge 1 47 rfl
 have ct := cf.new_ af
 have cw := ch.new_ af
 have cx := ci.new_ af
 have cy := cj.new_ af
 have cz := cl.new_ af
 have cA := cm.new_ af
 have cB := cn.new_ af
 refine st_nil (cp _ _ ?_)
 refine wp_cond_false ea ?_
 refine wp_seq_k fun e0 cC => ?_
 refine wp_g0 [true, true] [] 120
   [vT, vT] aS (.eq (.eq (.nil))) ?_ ?_
 exact .t (fun _ w hn k => ⟨_, v_bin rfl (k.fx 14 bf) rfl (fun _ => rfl) (r_eqlS (r := true) (by kernel_rfl)), rfl⟩) <| .a (fun k => k.eq1 0 49 rfl) .nil
 refine aftI aS cq cr fun e1 e2 aT cD cE ag ao => ?_
 have eb := ao.fx 0 d6
 have ec := ao.fx 4 d7
 have ed := ao.fx 5 d8
 have ee := ao.fx 6 d9
 have e3 := ao.fx 14 bf
 have bg := ao.ge 1 47 rfl
 have cF := ct.new_ ag
 have cG := cw.new_ ag
 have cH := cx.new_ ag
 have cI := cy.new_ ag
 have cJ := cz.new_ ag
 have cK := cA.new_ ag
 have cL := cB.new_ ag
 refine st_nil (cC _ _ ?_)
 refine wp_cond_true bg ?_
 refine wp_skip ?_
 refine co _ _ ?_
 refine wp_cond_true bg ?_
 refine wp_seq_k fun e4 cM => ?_
 refine wp_g0 [true, true, true, true, true, true, false, false] [(6, false), (7, true)] 120
   [ve (.string ⟨#[124]⟩), ve (vv (cleanV v) aF av aG aw), ve (vv (cleanV u) aH ax aI ay), ve (.tuple #[vv (Vl.mk (bitsV 2 (cleanV v) (cleanV u)).1 (bitsV 2 (cleanV v) (cleanV u)).2.1.k (bitsV 2 (cleanV v) (cleanV u)).2.1.n false [] [] 0) none 0 none 0, iv ((bitsV 2 (cleanV v) (cleanV u)).2.2)]), ve (vv (Vl.mk (bitsV 2 (cleanV v) (cleanV u)).1 (bitsV 2 (cleanV v) (cleanV u)).2.1.k (bitsV 2 (cleanV v) (cleanV u)).2.1.n false [] [] 0) none 0 none 0), ve (iv ((bitsV 2 (cleanV v) (cleanV u)).2.2)), vt, vt] aT (.eq (.eq (.eq (.eq (.eq (.eq (.tt (.tt (.nil))))))))) ?_ ?_
 exact .m (fun k => k.fx 0 eb) <| .t (fun _ w hn k => ⟨_, v_load rfl (k.fx 4 ec) (l_agg Tryz.isAgg29 Tryz.sizeOf29 (cF.new_ hn) rfl), rfl⟩) <| .t (fun _ w hn k => ⟨_, v_load rfl (k.fx 5 ed) (l_agg Tryz.isAgg29 Tryz.sizeOf29 (cG.new_ hn) rfl), rfl⟩) <| .o1 (ck rfl rfl rfl (fun _ w hn k => ⟨#[.string ⟨#[124]⟩, vv (cleanV v) aF av aG aw, vv (cleanV u) aH ax aI ay], args3 (k.eq1 0 54 rfl) (k.eq1 1 55 rfl) (k.eq1 2 56 rfl), fun _ => by kernel_rfl, bits2_c (cleanV v) _ _ _ _ (cleanV u) _ _ _ _ _ (cI.new_ hn) (cJ.new_ hn) (cK.new_ hn) (cL.new_ hn) hvv.clean hvu.clean⟩) fun _ => rfl) <| .t (fun _ w hn k => ⟨_, v_extract rfl (k.eq1 3 57 rfl) rfl, rfl⟩) <| .t (fun _ w hn k => ⟨_, v_extract rfl (k.eq1 3 57 rfl) rfl, rfl⟩) <| .off <| .off .nil
 refine aftI aT cD cE fun bh e5 aU cN cO cP aE => ?_
 have bi := aE.fx 6 ee
 have bj := aE.ge 4 58 rfl
 have bk := aE.ge 5 59 rfl
 have cQ := cH.new_ cP
 obtain ⟨ef, bl, bm, cR, eB⟩ := s_many (P := Tryz.prog) (t := 29) (i := 0) [iv ((bitsV 2 (cleanV v) (cleanV u)).1), iv ((bitsV 2 (cleanV v) (cleanV u)).2.1.k), iv ((bitsV 2 (cleanV v) (cleanV u)).2.1.n), .bool false, sv none ([]) 0, sv none ([]) 0, iv 0] Tryz.sizeOf29 rfl rfl rfl cQ lb
 have cS : Blk ef aZ 29 [iv ((bitsV 2 (cleanV v) (cleanV u)).1), iv ((bitsV 2 (cleanV v) (cleanV u)).2.1.k), iv ((bitsV 2 (cleanV v) (cleanV u)).2.1.n), .bool false, sv none ([]) 0, sv none ([]) 0, iv 0] := bm
 refine st_act rfl rfl fun e6 cT => a_store' rfl bi bj bl (cT _ _ trivial ?_)
 have cU := cO.trans cR (fun _ h b => by subst b; omega)
 refine st_take rfl rfl (y_assign (v := iv ((bitsV 2 (cleanV v) (cleanV u)).2.2)) rfl bk) rfl ?_
 obtain ⟨eg, ah⟩ : ∃ a', a' = bh.put (some 7) (iv ((bitsV 2 (cleanV v) (cleanV u)).2.2)) := ⟨_, rfl⟩
 have eC := pz ah aU
 have cV := pd ah cN
 have eh := pn ah bi (by decide)
 have e7 := pn ah bj (by decide)
 have e8 := pn ah bk (by decide)
 have ei : eg.eval (.tmp 7) = iv ((bitsV 2 (cleanV v) (cleanV u)).2.2) := by rw [ah]; exact put_same _ _ _ (by rw [aU]; decide)
 show stepsTo _ _ _ _ _ (bh.put (some 7) (iv ((bitsV 2 (cleanV v) (cleanV u)).2.2))) _
 rw [← ah]
 refine st_nil (cM _ _ ?_)
 refine wp_ret (ret_k cV (v := .tuple #[vv (Vl.mk (bitsV 2 (cleanV v) (cleanV u)).1 (bitsV 2 (cleanV v) (cleanV u)).2.1.k (bitsV 2 (cleanV v) (cleanV u)).2.1.n false [] [] 0) none 0 none 0, iv ((bitsV 2 (cleanV v) (cleanV u)).2.2)]) (res_ct rfl eh ei (l_agg Tryz.isAgg29 Tryz.sizeOf29 cS rfl)) ?_)
 exact ⟨rfl, cU⟩
theorem bits3_c  (v : Vl) (Av : Option Addr) (cv : Nat) (Bv : Option Addr) (dv : Nat) (u : Vl) (Au : Option Addr) (cu : Nat) (Bu : Option Addr) (du : Nat) (w : World) (hmv : SRow w .u32 Av v.mag cv) (hsv : SRow w .u16 Bv v.s dv) (hmu : SRow w .u32 Au u.mag cu) (hsu : SRow w .u16 Bu u.s du) (hvv : VOk v) (hvu : VOk u) : Calls Tryz.prog 37 #[.string ⟨#[94]⟩, vv v Av cv Bv dv, vv u Au cu Bu du] w (IsRet (.tuple #[vv (Vl.mk (bitsV 3 v u).1 (bitsV 3 v u).2.1.k (bitsV 3 v u).2.1.n false [] [] 0) none 0 none 0, iv ((bitsV 3 v u).2.2)]) w) := by
 refine enter_abs Tryz.func37 rfl fun a0 bs gz hp => ?_
 have bs : a0.tmps.size = 58 := bs
 have bt : New w w := Upd.refl _ _
 have hp0 : a0.eval (.tmp 0) = .string ⟨#[94]⟩ := hp 0 _ rfl
 have hp1 : a0.eval (.tmp 1) = vv v Av cv Bv dv := hp 1 _ rfl
 have hp2 : a0.eval (.tmp 2) = vv u Au cu Bu du := hp 2 _ rfl
 refine wp_seq_k fun K1 gA => ?_
 refine wp_g [true, true, true, true] [] [] 58
   [IsNew w 29 [iv v.k, iv v.nk, iv v.nn, .bool v.neg, sv Av v.mag cv, sv Bv v.s dv, iv v.ref], IsNew w 29 [iv u.k, iv u.nk, iv u.nn, .bool u.neg, sv Au u.mag cu, sv Bu u.s du, iv u.ref], IsNew w 29 [iv 0, iv 0, iv 0, .bool false, sv none ([]) 0, sv none ([]) 0, iv 0], ve (iv 0)]
   [0, 1, 2] (newsCons (fun v w h => IsNew.old h) (newsCons (fun v w h => IsNew.old h) (newsCons (fun v w h => IsNew.old h) newsNil))) bs (.nw (.nw (.nw (.eq (.nil))))) ?_ (fun i h => by cases h) ?_
 exact .o2 (step_allocN (cs := [iv v.k, iv v.nk, iv v.nn, .bool v.neg, sv Av v.mag cv, sv Bv v.s dv, iv v.ref]) (t := 29) rfl (noG rfl) (fun _ w hn k => v_box rfl (k.fx 1 hp1) (fun w => rfl)) (fun q _ hq hb => ⟨q, rfl, hq, hb⟩)) <| .o2 (step_allocN (cs := [iv u.k, iv u.nk, iv u.nn, .bool u.neg, sv Au u.mag cu, sv Bu u.s du, iv u.ref]) (t := 29) rfl (noG rfl) (fun _ w hn k => v_box rfl (k.fx 2 hp2) (fun w => rfl)) (fun q _ hq hb => ⟨q, rfl, hq, hb⟩)) <| .o2 (step_allocN (cs := [iv 0, iv 0, iv 0, .bool false, sv none ([]) 0, sv none ([]) 0, iv 0]) (t := 29) rfl (noG rfl) (fun _ w hn k => rfl) (fun q _ hq hb => ⟨q, rfl, hq, hb⟩)) <| .t (fun _ w hn k => ⟨_, v_assign rfl rfl, rfl⟩) .nil
 refine aftI bs gz bt fun a2 w3 e0 gB aI iS bg => ?_
 have h8 := bg.fx 0 hp0
 obtain ⟨gC, h9, e5, e6⟩ : IsNew _ _ _ _ _ := bg.got 0 4 rfl (by kernel_rfl)
 obtain ⟨gD, e1, e7, e8⟩ : IsNew _ _ _ _ _ := bg.got 1 5 rfl (by kernel_rfl)
 obtain ⟨aT, b2, e9, bm⟩ : IsNew _ _ _ _ _ := bg.got 2 6 rfl (by kernel_rfl)
 have hne21 : gC ≠ aT := bg.ne 0 2 4 6 h9 b2
 have hne22 : gD ≠ aT := bg.ne 1 2 5 6 e1 b2
 have hv := Nat.le_trans bt.size e5
 have hw := Nat.le_trans bt.size e7
 have hx := Nat.le_trans bt.size e9
 refine st_nil (gA _ _ (wp_seq_k fun iT fa => ?_))
 refine wp_gS (fun W => True) (fun W W' hn h => trivial) trivial [true, true, true, true, true, true, true, true, true, false, false, false] [5, 6] [(9, false), (10, false), (11, true)] 58
   [ve (vv v Av cv Bv dv), ve (vv u Au cu Bu du), (fun (v_ : Value) (W : World) => ∃ (A9 : Option Addr) (aU : Nat) (aV : Option Addr) (aW : Nat) (aX : Option Addr) (aY : Nat) (aZ : Option Addr) (a1 : Nat), v_ = .tuple #[vv (numericsV v u).1 A9 aU aV aW, vv (numericsV v u).2.1 aX aY aZ a1, iv ((numericsV v u).2.2)] ∧ SRow W .u32 A9 ((numericsV v u).1.mag) aU ∧ SRow W .u16 aV ((numericsV v u).1.s) aW ∧ SRow W .u32 aX ((numericsV v u).2.1.mag) aY ∧ SRow W .u16 aZ ((numericsV v u).2.1.s) a1), (fun (v_ : Value) (W : World) => ∃ (ad : Option Addr) (ae : Nat) (af : Option Addr) (ag : Nat) (ah : Option Addr) (ai : Nat) (aj : Option Addr) (ak : Nat), v_ = .tuple #[vv (numericsV v u).1 ad ae af ag, vv (numericsV v u).2.1 ah ai aj ak, iv ((numericsV v u).2.2)] ∧ SRow W .u32 ad ((numericsV v u).1.mag) ae ∧ SRow W .u16 af ((numericsV v u).1.s) ag ∧ SRow W .u32 ah ((numericsV v u).2.1.mag) ai ∧ SRow W .u16 aj ((numericsV v u).2.1.s) ak), (fun (v_ : Value) (W : World) => ∃ (a3 : Option Addr) (a4 : Nat) (a5 : Option Addr) (a6 : Nat), v_ = vv (numericsV v u).1 a3 a4 a5 a6 ∧ SRow W .u32 a3 ((numericsV v u).1.mag) a4 ∧ SRow W .u16 a5 ((numericsV v u).1.s) a6), (fun (v_ : Value) (W : World) => ∃ (a7 : Option Addr) (a8 : Nat) (a9 : Option Addr) (ba : Nat), v_ = vv (numericsV v u).2.1 a7 a8 a9 ba ∧ SRow W .u32 a7 ((numericsV v u).2.1.mag) a8 ∧ SRow W .u16 a9 ((numericsV v u).2.1.s) ba), ve (iv ((numericsV v u).2.2)), IsNew w3 29 [iv 0, iv 0, iv 0, .bool false, sv none ([]) 0, sv none ([]) 0, iv 0], IsNew w3 29 [iv 0, iv 0, iv 0, .bool false, sv none ([]) 0, sv none ([]) 0, iv 0], vt, vt, vt]
   [7, 8] (newsCons (fun v w h => IsNew.old h) (newsCons (fun v w h => IsNew.old h) newsNil)) e0 (.eq (.eq (.cons (fun v W W' hn ⟨A9, aU, aV, aW, aX, aY, aZ, a1, he, h0, h1, h2, h3⟩ => ⟨A9, aU, aV, aW, aX, aY, aZ, a1, he, h0.new_ hn, h1.new_ hn, h2.new_ hn, h3.new_ hn⟩) (.cons (fun v W W' hn ⟨ad, ae, af, ag, ah, ai, aj, ak, he, h0, h1, h2, h3⟩ => ⟨ad, ae, af, ag, ah, ai, aj, ak, he, h0.new_ hn, h1.new_ hn, h2.new_ hn, h3.new_ hn⟩) (.cons (fun v W W' hn ⟨a3, a4, a5, a6, he, h0, h1⟩ => ⟨a3, a4, a5, a6, he, h0.new_ hn, h1.new_ hn⟩) (.cons (fun v W W' hn ⟨a7, a8, a9, ba, he, h0, h1⟩ => ⟨a7, a8, a9, ba, he, h0.new_ hn, h1.new_ hn⟩) (.eq (.nw (.nw (.tt (.tt (.tt (.nil))))))))))))) ?_ ?_ ?_
 refine .t (fun _ w hn k => ⟨_, v_load rfl (k.fx 4 h9) (l_agg Tryz.isAgg29 Tryz.sizeOf29 (e6.new_ hn) rfl), rfl⟩) <| .t (fun _ w hn k => ⟨_, v_load rfl (k.fx 5 e1) (l_agg Tryz.isAgg29 Tryz.sizeOf29 (e8.new_ hn) rfl), rfl⟩) ?_
 refine .o1 (tkC rfl (noG rfl) rfl fun _ w hn k => (by
       refine ⟨#[vv v Av cv Bv dv, vv u Au cu Bu du], _, args2 (k.eq1 0 13 rfl) (k.eq1 1 14 rfl), fun w => by kernel_rfl, numerics_c v _ _ _ _ u _ _ _ _ _ (hmv.new_ (aI.transNew hn)) (hsv.new_ (aI.transNew hn)) (hmu.new_ (aI.transNew hn)) (hsu.new_ (aI.transNew hn)) hvv hvu, ?_⟩
       rintro e w' ⟨A1, c2, A3, c4, A5, c6, A7, c8, rfl, hmo0, hmo1, hmo2, hmo3, hm⟩
       exact ⟨_, rfl, hm, ⟨A1, c2, A3, c4, A5, c6, A7, c8, rfl, hmo0, hmo1, hmo2, hmo3⟩⟩)) ?_
 refine .o1 (tk rfl rfl fun _ w hn k => (by
       obtain ⟨gE, gF, gG, gH, gI, gJ, gK, gL, gM, fb, fc, fd, fe⟩ : (fun (v_ : Value) (W : World) => ∃ (A9 : Option Addr) (aU : Nat) (aV : Option Addr) (aW : Nat) (aX : Option Addr) (aY : Nat) (aZ : Option Addr) (a1 : Nat), v_ = .tuple #[vv (numericsV v u).1 A9 aU aV aW, vv (numericsV v u).2.1 aX aY aZ a1, iv ((numericsV v u).2.2)] ∧ SRow W .u32 A9 ((numericsV v u).1.mag) aU ∧ SRow W .u16 aV ((numericsV v u).1.s) aW ∧ SRow W .u32 aX ((numericsV v u).2.1.mag) aY ∧ SRow W .u16 aZ ((numericsV v u).2.1.s) a1) _ _ := k.dep 2 15 (by kernel_rfl) (by kernel_rfl)
       exact ⟨_, v_move rfl gM, ⟨gE, gF, gG, gH, gI, gJ, gK, gL, rfl, fb, fc, fd, fe⟩⟩)) ?_
 refine .o1 (tk rfl rfl fun _ w hn k => (by
       obtain ⟨gN, gO, bl, gP, iU, iV, bu, iW, gQ, ff, fg, hy, hz⟩ : (fun (v_ : Value) (W : World) => ∃ (ad : Option Addr) (ae : Nat) (af : Option Addr) (ag : Nat) (ah : Option Addr) (ai : Nat) (aj : Option Addr) (ak : Nat), v_ = .tuple #[vv (numericsV v u).1 ad ae af ag, vv (numericsV v u).2.1 ah ai aj ak, iv ((numericsV v u).2.2)] ∧ SRow W .u32 ad ((numericsV v u).1.mag) ae ∧ SRow W .u16 af ((numericsV v u).1.s) ag ∧ SRow W .u32 ah ((numericsV v u).2.1.mag) ai ∧ SRow W .u16 aj ((numericsV v u).2.1.s) ak) _ _ := k.dep 3 12 (by kernel_rfl) (by kernel_rfl)
       exact ⟨_, v_extract rfl gQ rfl, ⟨gN, gO, bl, gP, rfl, ff, fg⟩⟩)) ?_
 refine .o3 ?_
 refine .o3 ?_
 exact .o2 (step_allocN (cs := [iv 0, iv 0, iv 0, .bool false, sv none ([]) 0, sv none ([]) 0, iv 0]) (t := 29) rfl (noG rfl) (fun _ w hn k => rfl) (fun q _ hq hb => ⟨q, rfl, hq, hb⟩)) <| .o2 (step_allocN (cs := [iv 0, iv 0, iv 0, .bool false, sv none ([]) 0, sv none ([]) 0, iv 0]) (t := 29) rfl (noG rfl) (fun _ w hn k => rfl) (fun q _ hq hb => ⟨q, rfl, hq, hb⟩)) <| .off <| .off <| .off .nil
 intro i h
 simp only [List.contains_eq_mem, List.mem_cons, List.not_mem_nil, or_false, decide_eq_true_eq] at h
 rcases h with rfl | rfl
 exact eager_takeG rfl (noG rfl) fun _ w hn k => (by
     obtain ⟨iX, iY, iZ, i0, gR, gS, gT, gU, gV, hA, hC, fh, fi⟩ : (fun (v_ : Value) (W : World) => ∃ (ad : Option Addr) (ae : Nat) (af : Option Addr) (ag : Nat) (ah : Option Addr) (ai : Nat) (aj : Option Addr) (ak : Nat), v_ = .tuple #[vv (numericsV v u).1 ad ae af ag, vv (numericsV v u).2.1 ah ai aj ak, iv ((numericsV v u).2.2)] ∧ SRow W .u32 ad ((numericsV v u).1.mag) ae ∧ SRow W .u16 af ((numericsV v u).1.s) ag ∧ SRow W .u32 ah ((numericsV v u).2.1.mag) ai ∧ SRow W .u16 aj ((numericsV v u).2.1.s) ak) _ _ := k.dep 3 12 (by kernel_rfl) (by kernel_rfl)
     exact ⟨_, fun w hS => v_extract rfl gV rfl, ⟨gR, gS, gT, gU, rfl, fh, fi⟩⟩)
 exact eager_takeG rfl (noG rfl) fun _ w hn k => (by
     obtain ⟨i1, i2, i3, i4, i5, i6, i7, i8, gW, hD, hE, hF, hG⟩ : (fun (v_ : Value) (W : World) => ∃ (ad : Option Addr) (ae : Nat) (af : Option Addr) (ag : Nat) (ah : Option Addr) (ai : Nat) (aj : Option Addr) (ak : Nat), v_ = .tuple #[vv (numericsV v u).1 ad ae af ag, vv (numericsV v u).2.1 ah ai aj ak, iv ((numericsV v u).2.2)] ∧ SRow W .u32 ad ((numericsV v u).1.mag) ae ∧ SRow W .u16 af ((numericsV v u).1.s) ag ∧ SRow W .u32 ah ((numericsV v u).2.1.mag) ai ∧ SRow W .u16 aj ((numericsV v u).2.1.s) ak) _ _ := k.dep 3 12 (by kernel_rfl) (by kernel_rfl)
     exact ⟨_, fun w hS => v_extract rfl gW rfl, rfl⟩)
 intro bv i9 _ b3 al
 obtain ⟨b4, fj, fk⟩ := aft al e0 gB aI b3
 have gX := al.fx 0 h8
 have gY := al.fx 6 b2
 obtain ⟨b5, bn, bl, bo, bw, fl, fm⟩ : (fun (v_ : Value) (W : World) => ∃ (a3 : Option Addr) (a4 : Nat) (a5 : Option Addr) (a6 : Nat), v_ = vv (numericsV v u).1 a3 a4 a5 a6 ∧ SRow W .u32 a3 ((numericsV v u).1.mag) a4 ∧ SRow W .u16 a5 ((numericsV v u).1.s) a6) _ _ := al.got 4 16 rfl (by kernel_rfl)
 have bw : bv.eval (.tmp 16) = vv (numericsV v u).1 b5 bn bl bo := bw
 obtain ⟨bu, bp, b6, bq, bx, fn, fo⟩ : (fun (v_ : Value) (W : World) => ∃ (a7 : Option Addr) (a8 : Nat) (a9 : Option Addr) (ba : Nat), v_ = vv (numericsV v u).2.1 a7 a8 a9 ba ∧ SRow W .u32 a7 ((numericsV v u).2.1.mag) a8 ∧ SRow W .u16 a9 ((numericsV v u).2.1.s) ba) _ _ := al.got 5 17 rfl (by kernel_rfl)
 have bx : bv.eval (.tmp 17) = vv (numericsV v u).2.1 bu bp b6 bq := bx
 have e2 := al.ge 6 18 rfl
 obtain ⟨aP, b7, b8, bb⟩ : IsNew _ _ _ _ _ := al.got 7 8 rfl (by kernel_rfl)
 obtain ⟨bz, b9, ca, fp⟩ : IsNew _ _ _ _ _ := al.got 8 9 rfl (by kernel_rfl)
 have fq := bm.new_ b3
 have hne60 : aP ≠ bz := al.ne 7 8 8 9 b7 b9
 have hne61 : aT ≠ aP := by have h1 := bm.lt; have h2 := b8; omega
 have hne62 : aT ≠ bz := by have h1 := bm.lt; have h2 := ca; omega
 have hH := Nat.le_trans aI.size b8
 have hI := Nat.le_trans aI.size ca
 obtain ⟨gZ, cS, cT, bd, cb⟩ := s_many (P := Tryz.prog) (t := 29) (i := 0) [iv ((numericsV v u).1.k), iv ((numericsV v u).1.nk), iv ((numericsV v u).1.nn), .bool ((numericsV v u).1.neg), sv b5 ((numericsV v u).1.mag) bn, sv bl ((numericsV v u).1.s) bo, iv ((numericsV v u).1.ref)] Tryz.sizeOf29 rfl rfl rfl bb lb
 have fr : Blk gZ aP 29 [iv ((numericsV v u).1.k), iv ((numericsV v u).1.nk), iv ((numericsV v u).1.nn), .bool ((numericsV v u).1.neg), sv b5 ((numericsV v u).1.mag) bn, sv bl ((numericsV v u).1.s) bo, iv ((numericsV v u).1.ref)] := cT
 refine st_act rfl rfl fun ja fs => a_store' rfl b7 bw cS (fs _ _ trivial ?_)
 have ft := fl.far bb bd (by first | rfl | decide | simp [notK])
 have fu := fm.far bb bd (by first | rfl | decide | simp [notK])
 have fv := fn.far bb bd (by first | rfl | decide | simp [notK])
 have fw := fo.far bb bd (by first | rfl | decide | simp [notK])
 have fy := cb _ _ _ (hne61) fq
 have be := cb _ _ _ (fun h => hne60 h.symm) fp
 have fz := fk.trans bd (fun _ h b => by subst b; omega)
 obtain ⟨g0, cU, cV, bf, cc⟩ := s_many (P := Tryz.prog) (t := 29) (i := 0) [iv ((numericsV v u).2.1.k), iv ((numericsV v u).2.1.nk), iv ((numericsV v u).2.1.nn), .bool ((numericsV v u).2.1.neg), sv bu ((numericsV v u).2.1.mag) bp, sv b6 ((numericsV v u).2.1.s) bq, iv ((numericsV v u).2.1.ref)] Tryz.sizeOf29 rfl rfl rfl be lb
 have cd : Blk g0 bz 29 [iv ((numericsV v u).2.1.k), iv ((numericsV v u).2.1.nk), iv ((numericsV v u).2.1.nn), .bool ((numericsV v u).2.1.neg), sv bu ((numericsV v u).2.1.mag) bp, sv b6 ((numericsV v u).2.1.s) bq, iv ((numericsV v u).2.1.ref)] := cV
 refine st_act rfl rfl fun jb fA => a_store' rfl b9 bx cU (fA _ _ trivial ?_)
 have ce := ft.far be bf (by first | rfl | decide | simp [notK])
 have cf := fu.far be bf (by first | rfl | decide | simp [notK])
 have ch := fv.far be bf (by first | rfl | decide | simp [notK])
 have ci := fw.far be bf (by first | rfl | decide | simp [notK])
 have cj := cc _ _ _ (hne62) fy
 have cl := cc _ _ _ (hne60) fr
 have cm := fz.trans bf (fun _ h b => by subst b; omega)
 refine st_take rfl rfl (y_assign (v := iv ((numericsV v u).2.2)) rfl e2) rfl ?_
 obtain ⟨g1, ab⟩ : ∃ a', a' = bv.put (some 10) (iv ((numericsV v u).2.2)) := ⟨_, rfl⟩
 have bh := pz ab b4
 have cn := pd ab fj
 have e3 := pn ab gX (by decide)
 have e4 := pn ab gY (by decide)
 have hJ := pn ab bw (by decide)
 have hK := pn ab bx (by decide)
 have hL := pn ab e2 (by decide)
 have co := pn ab b7 (by decide)
 have cp := pn ab b9 (by decide)
 have bi : g1.eval (.tmp 10) = iv ((numericsV v u).2.2) := by rw [ab]; exact put_same _ _ _ (by rw [b4]; decide)
 show stepsTo _ _ _ _ _ (bv.put (some 10) (iv ((numericsV v u).2.2))) _
 rw [← ab]
 refine st_nil (fa _ _ (wp_seq_k fun hM cW => ?_))
 refine wp_block ?_
 refine wp_seq_k fun hN bA => ?_
 rcases bc (decide (((numericsV v u).2.2) = 0)) with ac | ac
 have cq := oT ac
 refine wp_g0 [true, true, true] [] 58
   [ve (iv ((numericsV v u).2.2)), vF, vF] bh (.eq (.eq (.eq (.nil)))) ?_ ?_
 exact .m (fun k => k.fx 10 bi) <| .t (fun _ w hn k => ⟨_, v_bin rfl (k.eq1 0 20 rfl) rfl (fun _ => rfl) (r_neq ac), rfl⟩) <| .a (fun k => k.eq1 1 21 rfl) .nil
 refine aftI bh cn cm fun hO hP aQ bB bC am aB => ?_
 have br := aB.fx 0 e3
 have cr := aB.fx 6 e4
 have bj := aB.fx 8 co
 have ct := aB.fx 9 cp
 have hQ := aB.fx 10 bi
 have fB := aB.ge 2 19 rfl
 have bD := cj.new_ am
 have aR := cl.new_ am
 have bE := cd.new_ am
 have bF := ce.new_ am
 have bG := cf.new_ am
 have bH := ch.new_ am
 have bI := ci.new_ am
 refine st_nil (bA _ _ ?_)
 refine wp_cond_false fB ?_
 refine wp_seq_k fun hR bJ => ?_
 rcases bc (decide (((numericsV v u).1.k) = 4)) with aa | aa
 have cw := oT aa
 refine wp_g0 (.replicate 8 true) [] 58
   [ve (pv aP), ve (iv ((numericsV v u).1.k)), vT, vT, ve (.string ⟨#[94]⟩), vF, vF, vF] aQ (.eq (.eq (.eq (.eq (.eq (.eq (.eq (.eq (.nil))))))))) ?_ ?_
 exact .f (fun k => k.fx 8 bj) <| .t (fun _ w hn k => ⟨_, v_load rfl (k.eq1 0 25 rfl) (l_one Tryz.isAgg3 ((aR.new_ hn).cell 0)), rfl⟩) <| .t (fun _ w hn k => ⟨_, v_bin rfl (k.eq1 1 26 rfl) rfl (fun _ => rfl) (r_eql aa), rfl⟩) <| .m (fun k => k.eq1 2 27 rfl) <| .gm (fun k => k.eq1 3 28 rfl) (fun k => k.fx 0 br) <| .g (fun k => k.eq1 3 28 rfl) (fun _ w hn k => ⟨_, v_bin rfl (k.eq1 4 29 rfl) rfl (fun _ => rfl) (r_eqlS (r := false) (by kernel_rfl)), rfl⟩) <| .t (fun _ w hn k => ⟨_, v_pickT rfl (k.eq1 3 28 rfl) (k.eq1 5 30 rfl), rfl⟩) <| .a (fun k => k.eq1 6 31 rfl) .nil
 refine aftI aQ bB bC fun hT hU bK cX cY an aJ => ?_
 have fC := aJ.fx 0 br
 have fD := aJ.fx 6 cr
 have cx := aJ.fx 8 bj
 have fE := aJ.fx 9 ct
 have fF := aJ.ge 7 24 rfl
 have cZ := bD.new_ an
 have bL := aR.new_ an
 have c0 := bE.new_ an
 have c1 := bF.new_ an
 have c3 := bG.new_ an
 have c5 := bH.new_ an
 have c7 := bI.new_ an
 refine st_nil (bJ _ _ ?_)
 refine wp_cond_false fF ?_
 refine wp_seq_k fun hV c9 => ?_
 refine wp_g0 [true, true, true, true] [] 58
   [ve (pv aP), ve (iv ((numericsV v u).1.k)), vT, vT] bK (.eq (.eq (.eq (.eq (.nil))))) ?_ ?_
 exact .f (fun k => k.fx 8 cx) <| .t (fun _ w hn k => ⟨_, v_load rfl (k.eq1 0 34 rfl) (l_one Tryz.isAgg3 ((bL.new_ hn).cell 0)), rfl⟩) <| .t (fun _ w hn k => ⟨_, v_bin rfl (k.eq1 1 35 rfl) rfl (fun _ => rfl) (r_eql aa), rfl⟩) <| .a (fun k => k.eq1 2 36 rfl) .nil
 refine aftI bK cX cY fun hW hX bM da db ao aK => ?_
 have hY := aK.fx 0 fC
 have fG := aK.fx 6 fD
 have hZ := aK.fx 8 cx
 have h4 := aK.fx 9 fE
 have fH := aK.ge 3 33 rfl
 have dc := cZ.new_ ao
 have g2 := bL.new_ ao
 have g3 := c0.new_ ao
 have g4 := c1.new_ ao
 have g5 := c3.new_ ao
 have g6 := c5.new_ ao
 have g7 := c7.new_ ao
 refine st_nil (c9 _ _ ?_)
 refine wp_cond_true fH ?_
 refine wp_seq_k fun h5 dd => ?_
 refine wp_g0 [true, false, false] [(1, false), (2, true)] 58
   [ve (vv (Vl.mk 0 0 0 false [] [] 0) none 0 none 0), vt, vt] bM (.eq (.tt (.tt (.nil)))) ?_ ?_
 exact .t (fun _ w hn k => ⟨_, v_build (ps := []) rfl parts0 (by kernel_rfl), rfl⟩) <| .off <| .off .nil
 refine aftI bM da db fun cy h6 bN de df dg bO => ?_
 have cz := bO.fx 6 fG
 have cA := bO.ge 0 37 rfl
 have dh := dc.new_ dg
 obtain ⟨fI, cB, cC, di, g8⟩ := s_many (P := Tryz.prog) (t := 29) (i := 0) [iv 0, iv 0, iv 0, .bool false, sv none ([]) 0, sv none ([]) 0, iv 0] Tryz.sizeOf29 rfl rfl rfl dh lb
 have dj : Blk fI aT 29 [iv 0, iv 0, iv 0, .bool false, sv none ([]) 0, sv none ([]) 0, iv 0] := cC
 refine st_act rfl rfl fun h7 dk => a_store' rfl cz cA cB (dk _ _ trivial ?_)
 have dl := df.trans di (fun _ h b => by subst b; omega)
 refine st_take rfl rfl (y_assign (v := iv 3) rfl rfl) rfl ?_
 obtain ⟨fJ, aC⟩ : ∃ a', a' = cy.put (some 7) (iv 3) := ⟨_, rfl⟩
 have g9 := pz aC bN
 have dm := pd aC de
 have fK := pn aC cz (by decide)
 have ia := pn aC cA (by decide)
 have fL : fJ.eval (.tmp 7) = iv 3 := by rw [aC]; exact put_same _ _ _ (by rw [bN]; decide)
 show stepsTo _ _ _ _ _ (cy.put (some 7) (iv 3)) _
 rw [← aC]
 refine st_nil (dd _ _ ?_)
 refine wp_ret (ret_k dm (v := .tuple #[vv (Vl.mk 0 0 0 false [] [] 0) none 0 none 0, iv 3]) (res_ct rfl fK fL (l_agg Tryz.isAgg29 Tryz.sizeOf29 dj rfl)) ?_)
 refine ⟨?_, dl⟩
 show Ending.returned (.tuple #[vv (Vl.mk 0 0 0 false [] [] 0) none 0 none 0, iv 3]) = Ending.returned (.tuple #[vv (Vl.mk (bitsV 3 v u).1 (bitsV 3 v u).2.1.k (bitsV 3 v u).2.1.n false [] [] 0) none 0 none 0, iv ((bitsV 3 v u).2.2)])
 first | rfl | (simp only [bitsV_eq, ac, aa, bsm] <;> rfl) | (exfalso; omega)
 have cw := oF aa
 refine wp_g0 (.replicate 8 true) [] 58
   [ve (pv aP), ve (iv ((numericsV v u).1.k)), vF, vF, vU, vU, vF, vF] aQ (.eq (.eq (.eq (.eq (.eq (.eq (.eq (.eq (.nil))))))))) ?_ ?_
 exact .f (fun k => k.fx 8 bj) <| .t (fun _ w hn k => ⟨_, v_load rfl (k.eq1 0 25 rfl) (l_one Tryz.isAgg3 ((aR.new_ hn).cell 0)), rfl⟩) <| .t (fun _ w hn k => ⟨_, v_bin rfl (k.eq1 1 26 rfl) rfl (fun _ => rfl) (r_eql aa), rfl⟩) <| .m (fun k => k.eq1 2 27 rfl) <| .s (fun k => k.eq1 3 28 rfl) <| .s (fun k => k.eq1 3 28 rfl) <| .t (fun _ w hn k => ⟨_, v_pickF rfl (k.eq1 3 28 rfl) rfl, rfl⟩) <| .a (fun k => k.eq1 6 31 rfl) .nil
 refine aftI aQ bB bC fun ib ic bP dn dp ap aL => ?_
 have fM := aL.fx 0 br
 have fN := aL.fx 6 cr
 have cD := aL.fx 8 bj
 have fO := aL.fx 9 ct
 have fP := aL.ge 7 24 rfl
 have dq := bD.new_ ap
 have bQ := aR.new_ ap
 have dr := bE.new_ ap
 have ds := bF.new_ ap
 have dt := bG.new_ ap
 have dw := bH.new_ ap
 have dx := bI.new_ ap
 refine st_nil (bJ _ _ ?_)
 refine wp_cond_false fP ?_
 refine wp_seq_k fun id dy => ?_
 refine wp_g0 [true, true, true, true] [] 58
   [ve (pv aP), ve (iv ((numericsV v u).1.k)), vF, vF] bP (.eq (.eq (.eq (.eq (.nil))))) ?_ ?_
 exact .f (fun k => k.fx 8 cD) <| .t (fun _ w hn k => ⟨_, v_load rfl (k.eq1 0 34 rfl) (l_one Tryz.isAgg3 ((bQ.new_ hn).cell 0)), rfl⟩) <| .t (fun _ w hn k => ⟨_, v_bin rfl (k.eq1 1 35 rfl) rfl (fun _ => rfl) (r_eql aa), rfl⟩) <| .a (fun k => k.eq1 2 36 rfl) .nil
 refine aftI bP dn dp fun ie ig bR dz dA aq aM => ?_
 have fQ := aM.fx 0 fM
 have fR := aM.fx 6 fN
 have fS := aM.fx 8 cD
 have fT := aM.fx 9 fO
 have fU := aM.ge 3 33 rfl
 have dB := dq.new_ aq
 have dC := bQ.new_ aq
 have dD := dr.new_ aq
 have dE := ds.new_ aq
 have dF := dt.new_ aq
 have dG := dw.new_ aq
 have dH := dx.new_ aq
 refine st_nil (dy _ _ ?_)
 refine wp_cond_false fU ?_
 refine wp_skip ?_
 refine cW _ _ ?_
 refine wp_seq_k fun ih dI => ?_
 refine wp_g0 [true] [] 58
   [ve (iv 0)] bR (.eq (.nil)) ?_ ?_
 exact .t (fun _ w hn k => ⟨_, v_assign rfl rfl, rfl⟩) .nil
 refine aftI bR dz dA fun ii ij bS dJ dK ar aN => ?_
 have fV := aN.fx 0 fQ
 have fW := aN.fx 6 fR
 have fX := aN.fx 8 fS
 have fY := aN.fx 9 fT
 have fZ := aN.ge 0 11 rfl
 have dL := dB.new_ ar
 have dM := dC.new_ ar
 have dN := dD.new_ ar
 have dO := dE.new_ ar
 have dP := dF.new_ ar
 have dQ := dG.new_ ar
 have dR := dH.new_ ar
 refine st_nil (dI _ _ (wp_seq_k fun ik dS => ?_))
 refine wp_seq_k fun il dT => ?_
 refine wp_g0 [true] [] 58
   [ve (.string ⟨#[94]⟩)] bS (.eq (.nil)) ?_ ?_
 exact .m (fun k => k.fx 0 fV) .nil
 refine aftI bS dJ dK fun im io bT dU dV au aO => ?_
 have f0 := aO.fx 6 fW
 have f1 := aO.fx 8 fX
 have f2 := aO.fx 9 fY
 have f3 := aO.fx 11 fZ
 have cE := aO.ge 0 38 rfl
 have dW := dL.new_ au
 have dX := dM.new_ au
 have dY := dN.new_ au
 have dZ := dO.new_ au
 have d0 := dP.new_ au
 have d1 := dQ.new_ au
 have d2 := dR.new_ au
 refine st_nil (dT _ _ ?_)
 refine wp_block ?_
 refine wp_seq_k fun ip d3 => ?_
 refine wp_g0 [true, true] [] 58
   [vF, vF] bT (.eq (.eq (.nil))) ?_ ?_
 exact .t (fun _ w hn k => ⟨_, v_bin rfl (k.fx 38 cE) rfl (fun _ => rfl) (r_eqlS (r := false) (by kernel_rfl)), rfl⟩) <| .a (fun k => k.eq1 0 40 rfl) .nil
 refine aftI bT dU dV fun iq ir bU d4 d5 av aD => ?_
 have f4 := aD.fx 6 f0
 have f5 := aD.fx 8 f1
 have f6 := aD.fx 9 f2
 have f7 := aD.fx 11 f3
 have cF := aD.fx 38 cE
 have f8 := aD.ge 1 39 rfl
 have d6 := dW.new_ av
 have d7 := dX.new_ av
 have d8 := dY.new_ av
 have d9 := dZ.new_ av
 have ea := d0.new_ av
 have eb := d1.new_ av
 have ec := d2.new_ av
 refine st_nil (d3 _ _ ?_)
 refine wp_cond_false f8 ?_
 refine wp_seq_k fun it ed => ?_
 refine wp_g0 [true, true] [] 58
   [vF, vF] bU (.eq (.eq (.nil))) ?_ ?_
 exact .t (fun _ w hn k => ⟨_, v_bin rfl (k.fx 38 cF) rfl (fun _ => rfl) (r_eqlS (r := false) (by kernel_rfl)), rfl⟩) <| .a (fun k => k.eq1 0 42 rfl) .nil
 refine aftI bU d4 d5 fun iu iw bV ee ef aw aE => ?_
 have f9 := aE.fx 6 f4
 have ga := aE.fx 8 f5
 have gb := aE.fx 9 f6
 have gc := aE.fx 11 f7
 have cG := aE.fx 38 cF
 have gd := aE.ge 1 41 rfl
 have eg := d6.new_ aw
 have eh := d7.new_ aw
 have ei := d8.new_ aw
 have ej := d9.new_ aw
 have ek := ea.new_ aw
 have el := eb.new_ aw
 have em := ec.new_ aw
 refine st_nil (ed _ _ ?_)
 refine wp_cond_false gd ?_
 refine wp_seq_k fun ix en => ?_
 refine wp_g0 [true, true] [] 58
   [vT, vT] bV (.eq (.eq (.nil))) ?_ ?_
 exact .t (fun _ w hn k => ⟨_, v_bin rfl (k.fx 38 cG) rfl (fun _ => rfl) (r_eqlS (r := true) (by kernel_rfl)), rfl⟩) <| .a (fun k => k.eq1 0 44 rfl) .nil
 refine aftI bV ee ef fun iy iz bW eo ep ax aF => ?_
 have gf := aF.fx 6 f9
 have gg := aF.fx 8 ga
 have gh := aF.fx 9 gb
 have iA := aF.fx 11 gc
 have iB := aF.fx 38 cG
 have gi := aF.ge 1 43 rfl
 have er := eg.new_ ax
 have es := eh.new_ ax
 have et := ei.new_ ax
 have eu := ej.new_ ax
 have ev := ek.new_ ax
 have ew := el.new_ ax
 have ex := em.new_ ax
 refine st_nil (en _ _ ?_)
 refine wp_cond_true gi ?_
 refine wp_g0 [true] [] 58
   [ve (iv 3)] bW (.eq (.nil)) ?_ ?_
 exact .t (fun _ w hn k => ⟨_, v_assign rfl rfl, rfl⟩) .nil
 refine aftI bW eo ep fun iC iD bX ey ez ay aS => ?_
 have gj := aS.fx 6 gf
 have gk := aS.fx 8 gg
 have gl := aS.fx 9 gh
 have gn := aS.ge 0 11 rfl
 have eA := er.new_ ay
 have eB := es.new_ ay
 have eC := et.new_ ay
 have ha := eu.new_ ay
 have hc := ev.new_ ay
 have hd := ew.new_ ay
 have hf := ex.new_ ay
 refine st_nil (dS _ _ (wp_seq_k fun iE eD => ?_))
 refine wp_g0 [true, true, true, true, true, true, true, false, false] [(7, false), (8, true)] 58
   [ve (iv 3), ve (.pointer (some ⟨aP, 1, none⟩)), ve (nv (Nm.mk ((numericsV v u).1.nk) ((numericsV v u).1.nn))), ve (.pointer (some ⟨bz, 1, none⟩)), ve (nv (Nm.mk ((numericsV v u).2.1.nk) ((numericsV v u).2.1.nn))), ve (nv (bitM 3 (Nm.mk ((numericsV v u).1.nk) ((numericsV v u).1.nn)) (Nm.mk ((numericsV v u).2.1.nk) ((numericsV v u).2.1.nn)))), ve (vv (Vl.mk 3 (bitM 3 (Nm.mk ((numericsV v u).1.nk) ((numericsV v u).1.nn)) (Nm.mk ((numericsV v u).2.1.nk) ((numericsV v u).2.1.nn))).k (bitM 3 (Nm.mk ((numericsV v u).1.nk) ((numericsV v u).1.nn)) (Nm.mk ((numericsV v u).2.1.nk) ((numericsV v u).2.1.nn))).n false [] [] 0) none 0 none 0), vt, vt] bX (.eq (.eq (.eq (.eq (.eq (.eq (.eq (.tt (.tt (.nil)))))))))) ?_ ?_
 exact .m (fun k => k.fx 11 gn) <| .f (fun k => k.fx 8 gk) <| .t (fun _ w hn k => ⟨_, v_load rfl (k.eq1 1 52 rfl) (l_part Tryz.isAgg23 Tryz.sizeOf23 (eB.new_ hn) lb), rfl⟩) <| .f (fun k => k.fx 9 gl) <| .t (fun _ w hn k => ⟨_, v_load rfl (k.eq1 3 54 rfl) (l_part Tryz.isAgg23 Tryz.sizeOf23 (eC.new_ hn) lb), rfl⟩) <| .o1 (ck rfl rfl rfl (fun _ w hn k => ⟨#[iv 3, nv (Nm.mk ((numericsV v u).1.nk) ((numericsV v u).1.nn)), nv (Nm.mk ((numericsV v u).2.1.nk) ((numericsV v u).2.1.nn))], args3 (k.eq1 0 51 rfl) (k.eq1 2 53 rfl) (k.eq1 4 55 rfl), fun _ => by kernel_rfl, bit_c 3 (Nm.mk ((numericsV v u).1.nk) ((numericsV v u).1.nn)) (Nm.mk ((numericsV v u).2.1.nk) ((numericsV v u).2.1.nn)) _ ⟩) fun _ => rfl) <| .o1 (ck rfl rfl rfl (fun _ w hn k => ⟨#[nv (bitM 3 (Nm.mk ((numericsV v u).1.nk) ((numericsV v u).1.nn)) (Nm.mk ((numericsV v u).2.1.nk) ((numericsV v u).2.1.nn)))], args1 (k.eq1 5 56 rfl), fun _ => by kernel_rfl, cnum_c (bitM 3 (Nm.mk ((numericsV v u).1.nk) ((numericsV v u).1.nn)) (Nm.mk ((numericsV v u).2.1.nk) ((numericsV v u).2.1.nn))) _ ⟩) fun _ => rfl) <| .off <| .off .nil
 refine aftI bX ey ez fun cH iF bY eE eF eG bZ => ?_
 have cI := bZ.fx 6 gj
 have cJ := bZ.ge 6 57 rfl
 have eH := eA.new_ eG
 obtain ⟨go, cK, cL, eI, hg⟩ := s_many (P := Tryz.prog) (t := 29) (i := 0) [iv 3, iv ((bitM 3 (Nm.mk ((numericsV v u).1.nk) ((numericsV v u).1.nn)) (Nm.mk ((numericsV v u).2.1.nk) ((numericsV v u).2.1.nn))).k), iv ((bitM 3 (Nm.mk ((numericsV v u).1.nk) ((numericsV v u).1.nn)) (Nm.mk ((numericsV v u).2.1.nk) ((numericsV v u).2.1.nn))).n), .bool false, sv none ([]) 0, sv none ([]) 0, iv 0] Tryz.sizeOf29 rfl rfl rfl eH lb
 have eJ : Blk go aT 29 [iv 3, iv ((bitM 3 (Nm.mk ((numericsV v u).1.nk) ((numericsV v u).1.nn)) (Nm.mk ((numericsV v u).2.1.nk) ((numericsV v u).2.1.nn))).k), iv ((bitM 3 (Nm.mk ((numericsV v u).1.nk) ((numericsV v u).1.nn)) (Nm.mk ((numericsV v u).2.1.nk) ((numericsV v u).2.1.nn))).n), .bool false, sv none ([]) 0, sv none ([]) 0, iv 0] := cL
 refine st_act rfl rfl fun iG eK => a_store' rfl cI cJ cK (eK _ _ trivial ?_)
 have eL := eF.trans eI (fun _ h b => by subst b; omega)
 refine st_take rfl rfl (y_assign (v := iv 0) rfl rfl) rfl ?_
 obtain ⟨gp, aG⟩ : ∃ a', a' = cH.put (some 7) (iv 0) := ⟨_, rfl⟩
 have hh := pz aG bY
 have eM := pd aG eE
 have gq := pn aG cI (by decide)
 have iH := pn aG cJ (by decide)
 have gr : gp.eval (.tmp 7) = iv 0 := by rw [aG]; exact put_same _ _ _ (by rw [bY]; decide)
 show stepsTo _ _ _ _ _ (cH.put (some 7) (iv 0)) _
 rw [← aG]
 refine st_nil (eD _ _ ?_)
 refine wp_ret (ret_k eM (v := .tuple #[vv (Vl.mk 3 (bitM 3 (Nm.mk ((numericsV v u).1.nk) ((numericsV v u).1.nn)) (Nm.mk ((numericsV v u).2.1.nk) ((numericsV v u).2.1.nn))).k (bitM 3 (Nm.mk ((numericsV v u).1.nk) ((numericsV v u).1.nn)) (Nm.mk ((numericsV v u).2.1.nk) ((numericsV v u).2.1.nn))).n false [] [] 0) none 0 none 0, iv 0]) (res_ct rfl gq gr (l_agg Tryz.isAgg29 Tryz.sizeOf29 eJ rfl)) ?_)
 refine ⟨?_, eL⟩
 show Ending.returned (.tuple #[vv (Vl.mk 3 (bitM 3 (Nm.mk ((numericsV v u).1.nk) ((numericsV v u).1.nn)) (Nm.mk ((numericsV v u).2.1.nk) ((numericsV v u).2.1.nn))).k (bitM 3 (Nm.mk ((numericsV v u).1.nk) ((numericsV v u).1.nn)) (Nm.mk ((numericsV v u).2.1.nk) ((numericsV v u).2.1.nn))).n false [] [] 0) none 0 none 0, iv 0]) = Ending.returned (.tuple #[vv (Vl.mk (bitsV 3 v u).1 (bitsV 3 v u).2.1.k (bitsV 3 v u).2.1.n false [] [] 0) none 0 none 0, iv ((bitsV 3 v u).2.2)])
 first | rfl | (simp only [bitsV_eq, ac, aa, bsm] <;> rfl) | (exfalso; omega)
 have cq := oF ac
 refine wp_g0 [true, true, true] [] 58
   [ve (iv ((numericsV v u).2.2)), vT, vT] bh (.eq (.eq (.eq (.nil)))) ?_ ?_
 exact .m (fun k => k.fx 10 bi) <| .t (fun _ w hn k => ⟨_, v_bin rfl (k.eq1 0 20 rfl) rfl (fun _ => rfl) (r_neq ac), rfl⟩) <| .a (fun k => k.eq1 1 21 rfl) .nil
 refine aftI bh cn cm fun iI iJ b0 eN eO az aH => ?_
 have iK := aH.fx 0 e3
 have gs := aH.fx 6 e4
 have iL := aH.fx 8 co
 have iM := aH.fx 9 cp
 have gt := aH.fx 10 bi
 have gu := aH.ge 2 19 rfl
 have eP := cj.new_ az
 have hi := cl.new_ az
 have hj := cd.new_ az
 have hl := ce.new_ az
 have ho := cf.new_ az
 have hr := ch.new_ az
 have hs := ci.new_ az
 refine st_nil (bA _ _ ?_)
 refine wp_cond_true gu ?_
 refine wp_seq_k fun iN eQ => ?_
 refine wp_g [true, true, false, false] [1] [(2, false), (3, true)] 58
   [ve (vv (Vl.mk 0 0 0 false [] [] 0) none 0 none 0), ve (iv ((numericsV v u).2.2)), vt, vt]
   [] newsNil b0 (.eq (.eq (.tt (.tt (.nil))))) ?_ ?_ ?_
 refine .t (fun _ w hn k => ⟨_, v_build (ps := []) rfl parts0 (by kernel_rfl), rfl⟩) ?_
 refine .o3 ?_
 exact .off <| .off .nil
 intro i h
 simp only [List.contains_eq_mem, List.mem_cons, List.not_mem_nil, or_false, decide_eq_true_eq] at h
 subst h
 exact eager_take rfl rfl fun _ w hn k => ⟨iv ((numericsV v u).2.2), fun w => v_move rfl (k.fx 10 gt), rfl⟩
 refine aftI b0 eN eO fun cM iO b1 eR eS eT bk => ?_
 have cN := bk.fx 6 gs
 have cO := bk.ge 0 22 rfl
 have cP := bk.ge 1 23 rfl
 have eU := eP.new_ eT
 obtain ⟨gv, cQ, cR, eV, ht⟩ := s_many (P := Tryz.prog) (t := 29) (i := 0) [iv 0, iv 0, iv 0, .bool false, sv none ([]) 0, sv none ([]) 0, iv 0] Tryz.sizeOf29 rfl rfl rfl eU lb
 have eW : Blk gv aT 29 [iv 0, iv 0, iv 0, .bool false, sv none ([]) 0, sv none ([]) 0, iv 0] := cR
 refine st_act rfl rfl fun iP eX => a_store' rfl cN cO cQ (eX _ _ trivial ?_)
 have eY := eS.trans eV (fun _ h b => by subst b; omega)
 refine st_take rfl rfl (y_assign (v := iv ((numericsV v u).2.2)) rfl cP) rfl ?_
 obtain ⟨gw, aA⟩ : ∃ a', a' = cM.put (some 7) (iv ((numericsV v u).2.2)) := ⟨_, rfl⟩
 have hu := pz aA b1
 have eZ := pd aA eR
 have gx := pn aA cN (by decide)
 have iQ := pn aA cO (by decide)
 have iR := pn aA cP (by decide)
 have gy : gw.eval (.tmp 7) = iv ((numericsV v u).2.2) := by rw [aA]; exact put_same _ _ _ (by rw [b1]; decide)
 show stepsTo _ _ _ _ _ (cM.put (some 7) (iv ((numericsV v u).2.2))) _
 rw [← aA]
 refine st_nil (eQ _ _ ?_)
 refine wp_ret (ret_k eZ (v := .tuple #[vv (Vl.mk 0 0 0 false [] [] 0) none 0 none 0, iv ((numericsV v u).2.2)]) (res_ct rfl gx gy (l_agg Tryz.isAgg29 Tryz.sizeOf29 eW rfl)) ?_)
 refine ⟨?_, eY⟩
 show Ending.returned (.tuple #[vv (Vl.mk 0 0 0 false [] [] 0) none 0 none 0, iv ((numericsV v u).2.2)]) = Ending.returned (.tuple #[vv (Vl.mk (bitsV 3 v u).1 (bitsV 3 v u).2.1.k (bitsV 3 v u).2.1.n false [] [] 0) none 0 none 0, iv ((bitsV 3 v u).2.2)])
 first | rfl | (simp only [bitsV_eq, ac, bsm] <;> rfl) | (exfalso; omega)
theorem bin3_c  (v : Vl) (Av : Option Addr) (cv : Nat) (Bv : Option Addr) (dv : Nat) (u : Vl) (Au : Option Addr) (cu : Nat) (Bu : Option Addr) (du : Nat) (w : World) (hmv : SRow w .u32 Av v.mag cv) (hsv : SRow w .u16 Bv v.s dv) (hmu : SRow w .u32 Au u.mag cu) (hsu : SRow w .u16 Bu u.s du) (hvv : VOk v) (hvu : VOk u) : Calls Tryz.prog 12 #[.string ⟨#[94]⟩, vv v Av cv Bv dv, vv u Au cu Bu du] w (IsRet (.tuple #[vv (Vl.mk (bitsV 3 (cleanV v) (cleanV u)).1 (bitsV 3 (cleanV v) (cleanV u)).2.1.k (bitsV 3 (cleanV v) (cleanV u)).2.1.n false [] [] 0) none 0 none 0, iv ((bitsV 3 (cleanV v) (cleanV u)).2.2)]) w) := by
 refine enter_abs Tryz.func12 rfl fun a0 aM eD hp => ?_
 have aM : a0.tmps.size = 120 := aM
 have aN : New w w := Upd.refl _ _
 have hp0 : a0.eval (.tmp 0) = .string ⟨#[94]⟩ := hp 0 _ rfl
 have hp1 : a0.eval (.tmp 1) = vv v Av cv Bv dv := hp 1 _ rfl
 have hp2 : a0.eval (.tmp 2) = vv u Au cu Bu du := hp 2 _ rfl
 refine wp_seq_k fun K1 eE => ?_
 refine wp_g [true, true, true, true] [] [] 120
   [IsNew w 29 [iv v.k, iv v.nk, iv v.nn, .bool v.neg, sv Av v.mag cv, sv Bv v.s dv, iv v.ref], IsNew w 29 [iv u.k, iv u.nk, iv u.nn, .bool u.neg, sv Au u.mag cu, sv Bu u.s du, iv u.ref], IsNew w 29 [iv 0, iv 0, iv 0, .bool false, sv none ([]) 0, sv none ([]) 0, iv 0], ve (iv 0)]
   [0, 1, 2] (newsCons (fun v w h => IsNew.old h) (newsCons (fun v w h => IsNew.old h) (newsCons (fun v w h => IsNew.old h) newsNil))) aM (.nw (.nw (.nw (.eq (.nil))))) ?_ (fun i h => by cases h) ?_
 exact .o2 (step_allocN (cs := [iv v.k, iv v.nk, iv v.nn, .bool v.neg, sv Av v.mag cv, sv Bv v.s dv, iv v.ref]) (t := 29) rfl (noG rfl) (fun _ w hn k => v_box rfl (k.fx 1 hp1) (fun w => rfl)) (fun q _ hq hb => ⟨q, rfl, hq, hb⟩)) <| .o2 (step_allocN (cs := [iv u.k, iv u.nk, iv u.nn, .bool u.neg, sv Au u.mag cu, sv Bu u.s du, iv u.ref]) (t := 29) rfl (noG rfl) (fun _ w hn k => v_box rfl (k.fx 2 hp2) (fun w => rfl)) (fun q _ hq hb => ⟨q, rfl, hq, hb⟩)) <| .o2 (step_allocN (cs := [iv 0, iv 0, iv 0, .bool false, sv none ([]) 0, sv none ([]) 0, iv 0]) (t := 29) rfl (noG rfl) (fun _ w hn k => rfl) (fun q _ hq hb => ⟨q, rfl, hq, hb⟩)) <| .t (fun _ w hn k => ⟨_, v_assign rfl rfl, rfl⟩) .nil
 refine aftI aM eD aN fun a2 w3 de eF av fv aw => ?_
 have h8 := aw.fx 0 hp0
 obtain ⟨aY, h9, dk, aZ⟩ : IsNew _ _ _ _ _ := aw.got 0 4 rfl (by kernel_rfl)
 obtain ⟨a1, aO, dl, a3⟩ : IsNew _ _ _ _ _ := aw.got 1 5 rfl (by kernel_rfl)
 obtain ⟨a4, a5, dm, dn⟩ : IsNew _ _ _ _ _ := aw.got 2 6 rfl (by kernel_rfl)
 have hne21 : aY ≠ a1 := aw.ne 0 1 4 5 h9 aO
 have hne22 : aY ≠ a4 := aw.ne 0 2 4 6 h9 a5
 have hne23 : a1 ≠ a4 := aw.ne 1 2 5 6 aO a5
 have eW := Nat.le_trans aN.size dk
 have eX := Nat.le_trans aN.size dl
 have eY := Nat.le_trans aN.size dm
 refine st_nil (eE _ _ (wp_seq_k fun fw dp => ?_))
 refine wp_g0 [true, true, true, true, false, false] [(4, false), (5, false)] 120
   [ve (vv v Av cv Bv dv),
    (VP (cleanV v)), ve (vv u Au cu Bu du),
    (VP (cleanV u)), vt, vt] de (.eq (.cons (fun v W W' hn ⟨A5, c6, A7, c8, he, h0, h1⟩ => ⟨A5, c6, A7, c8, he, h0.new_ hn, h1.new_ hn⟩) (.eq (.cons (fun v W W' hn ⟨eG, eH, eI, eJ, he, h0, h1⟩ => ⟨eG, eH, eI, eJ, he, h0.new_ hn, h1.new_ hn⟩) (.tt (.tt (.nil))))))) ?_ ?_
 refine .t (fun _ w hn k => ⟨_, v_load rfl (k.fx 4 h9) (l_agg Tryz.isAgg29 Tryz.sizeOf29 (aZ.new_ hn) rfl), rfl⟩) ?_
 refine .o1 (tkC rfl (noG rfl) rfl fun _ w hn k => (by
       refine ⟨#[vv v Av cv Bv dv], _, args1 (k.eq1 0 10 rfl), fun w => by kernel_rfl, clean_c v _ _ _ _ _ (hmv.new_ (av.transNew hn)) (hsv.new_ (av.transNew hn)), ?_⟩
       rintro e w' ⟨A1, c2, A3, c4, rfl, hmo0, hmo1, hm⟩
       exact ⟨_, rfl, hm, ⟨A1, c2, A3, c4, rfl, hmo0, hmo1⟩⟩)) ?_
 refine .t (fun _ w hn k => ⟨_, v_load rfl (k.fx 5 aO) (l_agg Tryz.isAgg29 Tryz.sizeOf29 (a3.new_ hn) rfl), rfl⟩) ?_
 refine .o1 (tkC rfl (noG rfl) rfl fun _ w hn k => (by
       refine ⟨#[vv u Au cu Bu du], _, args1 (k.eq1 2 12 rfl), fun w => by kernel_rfl, clean_c u _ _ _ _ _ (hmu.new_ (av.transNew hn)) (hsu.new_ (av.transNew hn)), ?_⟩
       rintro e w' ⟨A9, eK, eL, eM, rfl, hmo0, hmo1, hm⟩
       exact ⟨_, rfl, hm, ⟨A9, eK, eL, eM, rfl, hmo0, hmo1⟩⟩)) ?_
 exact .off <| .off .nil
 refine aftI de eF av fun df fy a6 dq dr aL au => ?_
 have dg := au.fx 0 h8
 have dh := au.fx 4 h9
 have di := au.fx 5 aO
 have eN := au.fx 6 a5
 obtain ⟨aH, ax, aI, ay, a7, ds, dt⟩ : (VP (cleanV v)) _ _ := au.got 1 11 rfl (by kernel_rfl)
 have a7 : df.eval (.tmp 11) = vv (cleanV v) aH ax aI ay := a7
 obtain ⟨aJ, az, aK, aA, a8, dw, dx⟩ : (VP (cleanV u)) _ _ := au.got 3 13 rfl (by kernel_rfl)
 have a8 : df.eval (.tmp 13) = vv (cleanV u) aJ az aK aA := a8
 have aB := aZ.new_ aL
 have dy := a3.new_ aL
 have dz := dn.new_ aL
 obtain ⟨eO, br, bs, aC, a9⟩ := s_many (P := Tryz.prog) (t := 29) (i := 0) [iv ((cleanV v).k), iv ((cleanV v).nk), iv ((cleanV v).nn), .bool ((cleanV v).neg), sv aH ((cleanV v).mag) ax, sv aI ((cleanV v).s) ay, iv ((cleanV v).ref)] Tryz.sizeOf29 rfl rfl rfl aB lb
 have dA : Blk eO aY 29 [iv ((cleanV v).k), iv ((cleanV v).nk), iv ((cleanV v).nn), .bool ((cleanV v).neg), sv aH ((cleanV v).mag) ax, sv aI ((cleanV v).s) ay, iv ((cleanV v).ref)] := bs
 refine st_act rfl rfl fun fz dB => a_store' rfl dh a7 br (dB _ _ trivial ?_)
 have dC := ds.far aB aC (by first | rfl | decide | simp [notK])
 have dD := dt.far aB aC (by first | rfl | decide | simp [notK])
 have dE := dw.far aB aC (by first | rfl | decide | simp [notK])
 have dF := dx.far aB aC (by first | rfl | decide | simp [notK])
 have aD := a9 _ _ _ (fun h => hne21 h.symm) dy
 have dG := a9 _ _ _ (fun h => hne22 h.symm) dz
 have dH := dr.trans aC (fun _ h b => by subst b; omega)
 obtain ⟨eP, bt, bu, aE, ba⟩ := s_many (P := Tryz.prog) (t := 29) (i := 0) [iv ((cleanV u).k), iv ((cleanV u).nk), iv ((cleanV u).nn), .bool ((cleanV u).neg), sv aJ ((cleanV u).mag) az, sv aK ((cleanV u).s) aA, iv ((cleanV u).ref)] Tryz.sizeOf29 rfl rfl rfl aD lb
 have dI : Blk eP a1 29 [iv ((cleanV u).k), iv ((cleanV u).nk), iv ((cleanV u).nn), .bool ((cleanV u).neg), sv aJ ((cleanV u).mag) az, sv aK ((cleanV u).s) aA, iv ((cleanV u).ref)] := bu
 refine st_act rfl rfl fun fA dJ => a_store' rfl di a8 bt (dJ _ _ trivial ?_)
 have dK := dC.far aD aE (by first | rfl | decide | simp [notK])
 have dL := dD.far aD aE (by first | rfl | decide | simp [notK])
 have dM := dE.far aD aE (by first | rfl | decide | simp [notK])
 have dN := dF.far aD aE (by first | rfl | decide | simp [notK])
 have dO := ba _ _ _ (hne21) dA
 have dP := ba _ _ _ (fun h => hne23 h.symm) dG
 have dQ := dH.trans aE (fun _ h b => by subst b; omega)
 refine st_nil (dp _ _ (wp_seq_k fun fB eZ => ?_))
 refine wp_seq_k fun fC dR => ?_
 refine wp_g0 [true] [] 120
   [ve (.string ⟨#[94]⟩)] a6 (.eq (.nil)) ?_ ?_
 exact .m (fun k => k.fx 0 dg) .nil
 refine aftI a6 dq dQ fun fD fE bb dS bv ar aF => ?_
 have eQ := aF.fx 0 dg
 have eR := aF.fx 4 dh
 have eS := aF.fx 5 di
 have eT := aF.fx 6 eN
 have dj := aF.ge 0 14 rfl
 have dT := dO.new_ ar
 have dU := dI.new_ ar
 have bw := dP.new_ ar
 have bx := dK.new_ ar
 have bz := dL.new_ ar
 have bA := dM.new_ ar
 have bB := dN.new_ ar
 refine st_nil (dR _ _ ?_)
 refine wp_block ?_
 refine wp_seq_k fun e0 bC => ?_
 refine wp_g0 [true, true] [] 120
   [vF, vF] bb (.eq (.eq (.nil))) ?_ ?_
 exact .t (fun _ w hn k => ⟨_, v_bin rfl (k.fx 14 dj) rfl (fun _ => rfl) (r_eqlS (r := false) (by kernel_rfl)), rfl⟩) <| .a (fun k => k.eq1 0 16 rfl) .nil
 refine aftI bb dS bv fun e1 e2 aP bD bE aa aj => ?_
 have dV := aj.fx 0 eQ
 have dW := aj.fx 4 eR
 have dX := aj.fx 5 eS
 have dY := aj.fx 6 eT
 have bd := aj.fx 14 dj
 have dZ := aj.ge 1 15 rfl
 have bF := dT.new_ aa
 have bG := dU.new_ aa
 have bH := bw.new_ aa
 have bI := bx.new_ aa
 have bJ := bz.new_ aa
 have bK := bA.new_ aa
 have bL := bB.new_ aa
 refine st_nil (bC _ _ ?_)
 refine wp_cond_false dZ ?_
 refine wp_seq_k fun e3 bM => ?_
 refine wp_seq_k fun e4 bN => ?_
 refine wp_g0 [true, true] [] 120
   [vF, vF] aP (.eq (.eq (.nil))) ?_ ?_
 exact .t (fun _ w hn k => ⟨_, v_bin rfl (k.fx 14 bd) rfl (fun _ => rfl) (r_eqlS (r := false) (by kernel_rfl)), rfl⟩) <| .a (fun k => k.eq1 0 37 rfl) .nil
 refine aftI aP bD bE fun e5 e6 aQ bO bP ab ak => ?_
 have d0 := ak.fx 0 dV
 have d1 := ak.fx 4 dW
 have d2 := ak.fx 5 dX
 have d3 := ak.fx 6 dY
 have be := ak.fx 14 bd
 have d4 := ak.ge 1 36 rfl
 have bQ := bF.new_ ab
 have bR := bG.new_ ab
 have bS := bH.new_ ab
 have bT := bI.new_ ab
 have bU := bJ.new_ ab
 have bV := bK.new_ ab
 have bW := bL.new_ ab
 refine st_nil (bN _ _ ?_)
 refine wp_cond_false d4 ?_
 refine wp_seq_k fun e7 bX => ?_
 refine wp_g0 [true, true] [] 120
   [vF, vF] aQ (.eq (.eq (.nil))) ?_ ?_
 exact .t (fun _ w hn k => ⟨_, v_bin rfl (k.fx 14 be) rfl (fun _ => rfl) (r_eqlS (r := false) (by kernel_rfl)), rfl⟩) <| .a (fun k => k.eq1 0 38 rfl) .nil
 refine aftI aQ bO bP fun e8 e9 aR bY bZ ac al => ?_
 have d5 := al.fx 0 d0
 have d6 := al.fx 4 d1
 have d7 := al.fx 5 d2
 have d8 := al.fx 6 d3
 have bf := al.fx 14 be
 have d9 := al.ge 1 36 rfl
 have b0 := bQ.new_ ac
 have b1 := bR.new_ ac
 have b2 := bS.new_ ac
 have b3 := bT.new_ ac
 have b4 := bU.new_ ac
 have b5 := bV.new_ ac
 have b6 := bW.new_ ac
 refine st_nil (bX _ _ ?_)
 refine wp_cond_false d9 ?_
 refine wp_seq_k fun fa b7 => ?_
 refine wp_g0 [true, true] [] 120
   [vF, vF] aR (.eq (.eq (.nil))) ?_ ?_
 exact .t (fun _ w hn k => ⟨_, v_bin rfl (k.fx 14 bf) rfl (fun _ => rfl) (r_eqlS (r := false) (by kernel_rfl)), rfl⟩) <| .a (fun k => k.eq1 0 39 rfl) .nil
 refine aftI aR bY bZ fun fb fc aS b8 b9 ad am => ?_
 have ea := am.fx 0 d5
 have eb := am.fx 4 d6
 have ec := am.fx 5 d7
 have ed := am.fx 6 d8
 have bg := am.fx 14 bf
 have ee := am.ge 1 36 rfl
 have ca := b0.new_ ad
 have cb := b1.new_ ad
 have cc := b2.new_ ad
 have cd := b3.new_ ad
 have ce := b4.new_ ad
 have cf := b5.new_ ad
 have ch := b6.new_ ad
 refine st_nil (b7 _ _ ?_)
 refine wp_cond_false ee ?_
 refine wp_g0 [true, true] [] 120
   [vF, vF] aS (.eq (.eq (.nil))) ?_ ?_
 exact .t (fun _ w hn k => ⟨_, v_bin rfl (k.fx 14 bg) rfl (fun _ => rfl) (r_eqlS (r := false) (by kernel_rfl)), rfl⟩) <| .a (fun k => k.eq1 0 40 rfl) .nil
 refine aftI aS b8 b9 fun fd fe aT ci cj ae an => ?_
 have ef := an.fx 0 ea
 have eg := an.fx 4 eb
 have eh := an.fx 5 ec
 have ei := an.fx 6 ed
 have bh := an.fx 14 bg
 have ej := an.ge 1 36 rfl
 have cl := ca.new_ ae
 have cm := cb.new_ ae
 have cn := cc.new_ ae
 have co := cd.new_ ae
 have cp := ce.new_ ae
 have cq := cf.new_ ae
 have cr := ch.new_ ae
 refine st_nil (bM _ _ ?_)
 refine wp_cond_false ej ?_
 refine wp_seq_k fun ff ct => ?_
 refine wp_seq_k fun fg cw => ?_
 refine wp_g0 [true, true] [] 120
   [vF, vF] aT (.eq (.eq (.nil))) ?_ ?_
 exact .t (fun _ w hn k => ⟨_, v_bin rfl (k.fx 14 bh) rfl (fun _ => rfl) (r_eqlS (r := false) (by kernel_rfl)), rfl⟩) <| .a (fun k => k.eq1 0 48 rfl) .nil
 refine aftI aT ci cj fun fh fi aU cx cy af ao => ?_
 have ek := ao.fx 0 ef
 have el := ao.fx 4 eg
 have em := ao.fx 5 eh
 have en := ao.fx 6 ei
 have bi := ao.fx 14 bh
 have eo := ao.ge 1 47 rfl
 have cz := cl.new_ af
 have cA := cm.new_ af
 have cB := cn.new_ af
 have cC := co.new_ af
 have cD := cp.new_ af
 have cE := cq.new_ af
 have cF := cr.new_ af
 refine st_nil (cw _ _ ?_)
 refine wp_cond_false eo ?_
 refine wp_seq_k fun fj cG => ?_
 refine wp_g0 [true, true] [] 120
   [vF, vF] aU (.eq (.eq (.nil))) ?_ ?_
 exact .t (fun _ w hn k => ⟨_, v_bin rfl (k.fx 14 bi) rfl (fun _ => rfl) (r_eqlS (r := false) (by kernel_rfl)), rfl⟩) <| .a (fun k => k.eq1 0 49 rfl) .nil
 refine aftI aU cx cy fun fk fl aV cH cI ag ap => ?_
 have ep := ap.fx 0 ek
 have er := ap.fx 4 el
 have es := ap.fx 5 em
 have et := ap.fx 6 en
 have bj := ap.fx 14 bi
 have eu := ap.ge 1 47 rfl
 have cJ := cz.new_ ag
 have cK := cA.new_ ag
 have cL := cB.new_ ag
 have cM := cC.new_ ag
 have cN := cD.new_ ag
 have cO := cE.new_ ag
 have cP := cF.new_ ag
 refine st_nil (cG _ _ ?_)
 refine wp_cond_false eu ?_
 refine wp_seq_k fun fm cQ => ?_
 refine wp_g0 [true, true] [] 120
   [vT, vT] aV (.eq (.eq (.nil))) ?_ ?_
 exact .t (fun _ w hn k => ⟨_, v_bin rfl (k.fx 14 bj) rfl (fun _ => rfl) (r_eqlS (r := true) (by kernel_rfl)), rfl⟩) <| .a (fun k => k.eq1 0 50 rfl) .nil
 refine aftI aV cH cI fun fn fo aW cR cS ah aq => ?_
 have ev := aq.fx 0 ep
 have ew := aq.fx 4 er
 have ex := aq.fx 5 es
 have ey := aq.fx 6 et
 have fp := aq.fx 14 bj
 have bk := aq.ge 1 47 rfl
 have cT := cJ.new_ ah
 have cU := cK.new_ ah
 have cV := cL.new_ ah
 have cW := cM.new_ ah
 have cX := cN.new_ ah
 have cY := cO.new_ ah
 have cZ := cP.new_ ah
 refine st_nil (cQ _ _ ?_)
 refine wp_cond_true bk ?_
 refine wp_skip ?_
 refine ct _ _ ?_
 refine wp_cond_true bk ?_
 refine wp_seq_k fun fq c0 => ?_
 refine wp_g0 [true, true, true, true, true, true, false, false] [(6, false), (7, true)] 120
   [ve (.string ⟨#[94]⟩), ve (vv (cleanV v) aH ax aI ay), ve (vv (cleanV u) aJ az aK aA), ve (.tuple #[vv (Vl.mk (bitsV 3 (cleanV v) (cleanV u)).1 (bitsV 3 (cleanV v) (cleanV u)).2.1.k (bitsV 3 (cleanV v) (cleanV u)).2.1.n false [] [] 0) none 0 none 0, iv ((bitsV 3 (cleanV v) (cleanV u)).2.2)]), ve (vv (Vl.mk (bitsV 3 (cleanV v) (cleanV u)).1 (bitsV 3 (cleanV v) (cleanV u)).2.1.k (bitsV 3 (cleanV v) (cleanV u)).2.1.n false [] [] 0) none 0 none 0), ve (iv ((bitsV 3 (cleanV v) (cleanV u)).2.2)), vt, vt] aW (.eq (.eq (.eq (.eq (.eq (.eq (.tt (.tt (.nil))))))))) ?_ ?_
 exact .m (fun k => k.fx 0 ev) <| .t (fun _ w hn k => ⟨_, v_load rfl (k.fx 4 ew) (l_agg Tryz.isAgg29 Tryz.sizeOf29 (cT.new_ hn) rfl), rfl⟩) <| .t (fun _ w hn k => ⟨_, v_load rfl (k.fx 5 ex) (l_agg Tryz.isAgg29 Tryz.sizeOf29 (cU.new_ hn) rfl), rfl⟩) <| .o1 (ck rfl rfl rfl (fun _ w hn k => ⟨#[.string ⟨#[94]⟩, vv (cleanV v) aH ax aI ay, vv (cleanV u) aJ az aK aA], args3 (k.eq1 0 54 rfl) (k.eq1 1 55 rfl) (k.eq1 2 56 rfl), fun _ => by kernel_rfl, bits3_c (cleanV v) _ _ _ _ (cleanV u) _ _ _ _ _ (cW.new_ hn) (cX.new_ hn) (cY.new_ hn) (cZ.new_ hn) hvv.clean hvu.clean⟩) fun _ => rfl) <| .t (fun _ w hn k => ⟨_, v_extract rfl (k.eq1 3 57 rfl) rfl, rfl⟩) <| .t (fun _ w hn k => ⟨_, v_extract rfl (k.eq1 3 57 rfl) rfl, rfl⟩) <| .off <| .off .nil
 refine aftI aW cR cS fun bl fr aX c1 c3 c5 aG => ?_
 have bm := aG.fx 6 ey
 have bn := aG.ge 4 58 rfl
 have bo := aG.ge 5 59 rfl
 have c7 := cV.new_ c5
 obtain ⟨ez, bp, bq, c9, eU⟩ := s_many (P := Tryz.prog) (t := 29) (i := 0) [iv ((bitsV 3 (cleanV v) (cleanV u)).1), iv ((bitsV 3 (cleanV v) (cleanV u)).2.1.k), iv ((bitsV 3 (cleanV v) (cleanV u)).2.1.n), .bool false, sv none ([]) 0, sv none ([]) 0, iv 0] Tryz.sizeOf29 rfl rfl rfl c7 lb
 have da : Blk ez a4 29 [iv ((bitsV 3 (cleanV v) (cleanV u)).1), iv ((bitsV 3 (cleanV v) (cleanV u)).2.1.k), iv ((bitsV 3 (cleanV v) (cleanV u)).2.1.n), .bool false, sv none ([]) 0, sv none ([]) 0, iv 0] := bq
 refine st_act rfl rfl fun fs db => a_store' rfl bm bn bp (db _ _ trivial ?_)
 have dc := c3.trans c9 (fun _ h b => by subst b; omega)
 refine st_take rfl rfl (y_assign (v := iv ((bitsV 3 (cleanV v) (cleanV u)).2.2)) rfl bo) rfl ?_
 obtain ⟨eA, ai⟩ : ∃ a', a' = bl.put (some 7) (iv ((bitsV 3 (cleanV v) (cleanV u)).2.2)) := ⟨_, rfl⟩
 have eV := pz ai aX
 have dd := pd ai c1
 have eB := pn ai bm (by decide)
 have ft := pn ai bn (by decide)
 have fu := pn ai bo (by decide)
 have eC : eA.eval (.tmp 7) = iv ((bitsV 3 (cleanV v) (cleanV u)).2.2) := by rw [ai]; exact put_same _ _ _ (by rw [aX]; decide)
 show stepsTo _ _ _ _ _ (bl.put (some 7) (iv ((bitsV 3 (cleanV v) (cleanV u)).2.2))) _
 rw [← ai]
 refine st_nil (c0 _ _ ?_)
 refine wp_ret (ret_k dd (v := .tuple #[vv (Vl.mk (bitsV 3 (cleanV v) (cleanV u)).1 (bitsV 3 (cleanV v) (cleanV u)).2.1.k (bitsV 3 (cleanV v) (cleanV u)).2.1.n false [] [] 0) none 0 none 0, iv ((bitsV 3 (cleanV v) (cleanV u)).2.2)]) (res_ct rfl eB eC (l_agg Tryz.isAgg29 Tryz.sizeOf29 da rfl)) ?_)
 exact ⟨rfl, dc⟩
theorem tilde_c  (v : Vl) (Av : Option Addr) (cv : Nat) (Bv : Option Addr) (dv : Nat) (w : World) (hmv : SRow w .u32 Av v.mag cv) (hsv : SRow w .u16 Bv v.s dv) (hvv : VOk v) : Calls Tryz.prog 13 #[.string ⟨#[126]⟩, vv v Av cv Bv dv] w (IsRet (.tuple #[vv (Vl.mk (tildeV v).1 (tildeV v).2.1.k (tildeV v).2.1.n false [] [] 0) none 0 none 0, iv ((tildeV v).2.2)]) w) := by
 refine enter_abs Tryz.func13 rfl fun a0 aW ez hp => ?_
 have aW : a0.tmps.size = 76 := aW
 have bq : New w w := Upd.refl _ _
 have hp0 : a0.eval (.tmp 0) = .string ⟨#[126]⟩ := hp 0 _ rfl
 have hp1 : a0.eval (.tmp 1) = vv v Av cv Bv dv := hp 1 _ rfl
 refine wp_seq_k fun K1 eA => ?_
 refine wp_g [true, true, true] [] [] 76
   [IsNew w 29 [iv v.k, iv v.nk, iv v.nn, .bool v.neg, sv Av v.mag cv, sv Bv v.s dv, iv v.ref], IsNew w 29 [iv 0, iv 0, iv 0, .bool false, sv none ([]) 0, sv none ([]) 0, iv 0], ve (iv 0)]
   [0, 1] (newsCons (fun v w h => IsNew.old h) (newsCons (fun v w h => IsNew.old h) newsNil)) aW (.nw (.nw (.eq (.nil)))) ?_ (fun i h => by cases h) ?_
 exact .o2 (step_allocN (cs := [iv v.k, iv v.nk, iv v.nn, .bool v.neg, sv Av v.mag cv, sv Bv v.s dv, iv v.ref]) (t := 29) rfl (noG rfl) (fun _ w hn k => v_box rfl (k.fx 1 hp1) (fun w => rfl)) (fun q _ hq hb => ⟨q, rfl, hq, hb⟩)) <| .o2 (step_allocN (cs := [iv 0, iv 0, iv 0, .bool false, sv none ([]) 0, sv none ([]) 0, iv 0]) (t := 29) rfl (noG rfl) (fun _ w hn k => rfl) (fun q _ hq hb => ⟨q, rfl, hq, hb⟩)) <| .t (fun _ w hn k => ⟨_, v_assign rfl rfl, rfl⟩) .nil
 refine aftI aW ez bq fun a2 w3 dj eB dq fZ aX => ?_
 have h8 := aX.fx 0 hp0
 obtain ⟨eC, h9, dr, ds⟩ : IsNew _ _ _ _ _ := aX.got 0 3 rfl (by kernel_rfl)
 obtain ⟨aS, dk, dt, du⟩ : IsNew _ _ _ _ _ := aX.got 1 4 rfl (by kernel_rfl)
 have hne17 : eC ≠ aS := aX.ne 0 1 3 4 h9 dk
 have fk := Nat.le_trans bq.size dr
 have fl := Nat.le_trans bq.size dt
 refine st_nil (eA _ _ (wp_seq_k fun f0 dw => ?_))
 refine wp_seq_k fun f1 dx => ?_
 refine wp_g0 [true] [] 76
   [ve (.string ⟨#[126]⟩)] dj (.eq (.nil)) ?_ ?_
 exact .m (fun k => k.fx 0 h8) .nil
 refine aftI dj eB dq fun f2 f3 br dy dz bs aH => ?_
 have eD := aH.fx 0 h8
 have eE := aH.fx 3 h9
 have eF := aH.fx 4 dk
 have dl := aH.ge 0 10 rfl
 have dA := ds.new_ bs
 have dB := du.new_ bs
 refine st_nil (dx _ _ ?_)
 refine wp_block ?_
 refine wp_seq_k fun f4 dC => ?_
 refine wp_g0 [true, true] [] 76
   [vF, vF] br (.eq (.eq (.nil))) ?_ ?_
 exact .t (fun _ w hn k => ⟨_, v_bin rfl (k.fx 10 dl) rfl (fun _ => rfl) (r_eqlS (r := false) (by kernel_rfl)), rfl⟩) <| .a (fun k => k.eq1 0 13 rfl) .nil
 refine aftI br dy dz fun f5 f6 bt dD dE bu az => ?_
 have eG := az.fx 0 eD
 have eH := az.fx 3 eE
 have eI := az.fx 4 eF
 have dm := az.fx 10 dl
 have eJ := az.ge 1 12 rfl
 have dF := dA.new_ bu
 have dG := dB.new_ bu
 refine st_nil (dC _ _ ?_)
 refine wp_cond_false eJ ?_
 refine wp_seq_k fun f7 dH => ?_
 refine wp_g0 [true, true] [] 76
   [vF, vF] bt (.eq (.eq (.nil))) ?_ ?_
 exact .t (fun _ w hn k => ⟨_, v_bin rfl (k.fx 10 dm) rfl (fun _ => rfl) (r_eqlS (r := false) (by kernel_rfl)), rfl⟩) <| .a (fun k => k.eq1 0 19 rfl) .nil
 refine aftI bt dD dE fun f8 f9 bv dI dJ bw aA => ?_
 have eK := aA.fx 0 eG
 have eL := aA.fx 3 eH
 have eM := aA.fx 4 eI
 have dn := aA.fx 10 dm
 have eN := aA.ge 1 18 rfl
 have dK := dF.new_ bw
 have dL := dG.new_ bw
 refine st_nil (dH _ _ ?_)
 refine wp_cond_false eN ?_
 refine wp_seq_k fun ga dM => ?_
 refine wp_g0 [true, true] [] 76
   [vF, vF] bv (.eq (.eq (.nil))) ?_ ?_
 exact .t (fun _ w hn k => ⟨_, v_bin rfl (k.fx 10 dn) rfl (fun _ => rfl) (r_eqlS (r := false) (by kernel_rfl)), rfl⟩) <| .a (fun k => k.eq1 0 22 rfl) .nil
 refine aftI bv dI dJ fun gb gc bx dN dO bz aB => ?_
 have eO := aB.fx 0 eK
 have eP := aB.fx 3 eL
 have eQ := aB.fx 4 eM
 have dp := aB.fx 10 dn
 have eR := aB.ge 1 21 rfl
 have dP := dK.new_ bz
 have dQ := dL.new_ bz
 refine st_nil (dM _ _ ?_)
 refine wp_cond_false eR ?_
 refine wp_seq_k fun gd dR => ?_
 refine wp_seq_k fun gf dS => ?_
 refine wp_g0 [true, true] [] 76
   [vF, vF] bx (.eq (.eq (.nil))) ?_ ?_
 exact .t (fun _ w hn k => ⟨_, v_bin rfl (k.fx 10 dp) rfl (fun _ => rfl) (r_eqlS (r := false) (by kernel_rfl)), rfl⟩) <| .a (fun k => k.eq1 0 35 rfl) .nil
 refine aftI bx dN dO fun gg gh bA dT dU bB aC => ?_
 have eS := aC.fx 0 eO
 have eT := aC.fx 3 eP
 have eU := aC.fx 4 eQ
 have eV := aC.fx 10 dp
 have eW := aC.ge 1 34 rfl
 have dV := dP.new_ bB
 have dW := dQ.new_ bB
 refine st_nil (dS _ _ ?_)
 refine wp_cond_false eW ?_
 refine wp_g0 [true, true] [] 76
   [vT, vT] bA (.eq (.eq (.nil))) ?_ ?_
 exact .t (fun _ w hn k => ⟨_, v_bin rfl (k.fx 10 eV) rfl (fun _ => rfl) (r_eqlS (r := true) (by kernel_rfl)), rfl⟩) <| .a (fun k => k.eq1 0 36 rfl) .nil
 refine aftI bA dT dU fun gi eX aY b6 an bC ao => ?_
 have dX := ao.fx 0 eS
 have dY := ao.fx 3 eT
 have dZ := ao.fx 4 eU
 have d0 := ao.ge 1 34 rfl
 have b7 := dV.new_ bC
 have aZ := dW.new_ bC
 refine st_nil (dR _ _ ?_)
 refine wp_cond_true d0 ?_
 refine wp_skip ?_
 refine dw _ _ ?_
 refine wp_seq_k fun fm b8 => ?_
 refine wp_gS (fun W => True) (fun W W' hn h => trivial) trivial [true, true, true, true, true, true, false, false] [4] [(6, false), (7, true)] 76
   [ve (vv v Av cv Bv dv), (fun (v_ : Value) (W : World) => ∃ (A5 : Option Addr) (c6 : Nat) (A7 : Option Addr) (c8 : Nat), v_ = .tuple #[vv (numericV v).1 A5 c6 A7 c8, iv ((numericV v).2)] ∧ SRow W .u32 A5 ((numericV v).1.mag) c6 ∧ SRow W .u16 A7 ((numericV v).1.s) c8), (fun (v_ : Value) (W : World) => ∃ (ah : Option Addr) (ai : Nat) (aj : Option Addr) (ak : Nat), v_ = .tuple #[vv (numericV v).1 ah ai aj ak, iv ((numericV v).2)] ∧ SRow W .u32 ah ((numericV v).1.mag) ai ∧ SRow W .u16 aj ((numericV v).1.s) ak), (fun (v_ : Value) (W : World) => ∃ (aD : Option Addr) (aE : Nat) (aF : Option Addr) (aG : Nat), v_ = vv (numericV v).1 aD aE aF aG ∧ SRow W .u32 aD ((numericV v).1.mag) aE ∧ SRow W .u16 aF ((numericV v).1.s) aG), ve (iv ((numericV v).2)), IsNew eX 29 [iv 0, iv 0, iv 0, .bool false, sv none ([]) 0, sv none ([]) 0, iv 0], vt, vt]
   [5] (newsCons (fun v w h => IsNew.old h) newsNil) aY (.eq (.cons (fun v W W' hn ⟨A5, c6, A7, c8, he, h0, h1⟩ => ⟨A5, c6, A7, c8, he, h0.new_ hn, h1.new_ hn⟩) (.cons (fun v W W' hn ⟨ah, ai, aj, ak, he, h0, h1⟩ => ⟨ah, ai, aj, ak, he, h0.new_ hn, h1.new_ hn⟩) (.cons (fun v W W' hn ⟨aD, aE, aF, aG, he, h0, h1⟩ => ⟨aD, aE, aF, aG, he, h0.new_ hn, h1.new_ hn⟩) (.eq (.nw (.tt (.tt (.nil))))))))) ?_ ?_ ?_
 refine .t (fun _ w hn k => ⟨_, v_load rfl (k.fx 3 dY) (l_agg Tryz.isAgg29 Tryz.sizeOf29 (b7.new_ hn) rfl), rfl⟩) ?_
 refine .o1 (tkC rfl (noG rfl) rfl fun _ w hn k => (by
       refine ⟨#[vv v Av cv Bv dv], _, args1 (k.eq1 0 38 rfl), fun w => by kernel_rfl, cnumeric_c v _ _ _ _ _ (hmv.new_ (an.transNew hn)) (hsv.new_ (an.transNew hn)) hvv, ?_⟩
       rintro e w' ⟨A1, c2, A3, c4, rfl, hmo0, hmo1, hm⟩
       exact ⟨_, rfl, hm, ⟨A1, c2, A3, c4, rfl, hmo0, hmo1⟩⟩)) ?_
 refine .o1 (tk rfl rfl fun _ w hn k => (by
       obtain ⟨A9, eY, eZ, e0, e1, d1, d2⟩ : (fun (v_ : Value) (W : World) => ∃ (A5 : Option Addr) (c6 : Nat) (A7 : Option Addr) (c8 : Nat), v_ = .tuple #[vv (numericV v).1 A5 c6 A7 c8, iv ((numericV v).2)] ∧ SRow W .u32 A5 ((numericV v).1.mag) c6 ∧ SRow W .u16 A7 ((numericV v).1.s) c8) _ _ := k.dep 1 39 (by kernel_rfl) (by kernel_rfl)
       exact ⟨_, v_move rfl e1, ⟨A9, eY, eZ, e0, rfl, d1, d2⟩⟩)) ?_
 refine .o1 (tk rfl rfl fun _ w hn k => (by
       obtain ⟨e2, e3, e4, e5, e6, d3, d4⟩ : (fun (v_ : Value) (W : World) => ∃ (ah : Option Addr) (ai : Nat) (aj : Option Addr) (ak : Nat), v_ = .tuple #[vv (numericV v).1 ah ai aj ak, iv ((numericV v).2)] ∧ SRow W .u32 ah ((numericV v).1.mag) ai ∧ SRow W .u16 aj ((numericV v).1.s) ak) _ _ := k.dep 2 37 (by kernel_rfl) (by kernel_rfl)
       exact ⟨_, v_extract rfl e6 rfl, ⟨e2, e3, e4, e5, rfl, d3, d4⟩⟩)) ?_
 refine .o3 ?_
 exact .o2 (step_allocN (cs := [iv 0, iv 0, iv 0, .bool false, sv none ([]) 0, sv none ([]) 0, iv 0]) (t := 29) rfl (noG rfl) (fun _ w hn k => rfl) (fun q _ hq hb => ⟨q, rfl, hq, hb⟩)) <| .off <| .off .nil
 intro i h
 simp only [List.contains_eq_mem, List.mem_cons, List.not_mem_nil, or_false, decide_eq_true_eq] at h
 subst h
 exact eager_takeG rfl (noG rfl) fun _ w hn k => (by
     obtain ⟨gj, gk, gl, gm, e7, fn, fo⟩ : (fun (v_ : Value) (W : World) => ∃ (ah : Option Addr) (ai : Nat) (aj : Option Addr) (ak : Nat), v_ = .tuple #[vv (numericV v).1 ah ai aj ak, iv ((numericV v).2)] ∧ SRow W .u32 ah ((numericV v).1.mag) ai ∧ SRow W .u16 aj ((numericV v).1.s) ak) _ _ := k.dep 2 37 (by kernel_rfl) (by kernel_rfl)
     exact ⟨_, fun w hS => v_extract rfl e7 rfl, rfl⟩)
 intro aT fp _ a1 ae
 obtain ⟨a3, b9, ca⟩ := aft ae aY b6 an a1
 have d5 := ae.fx 0 dX
 have d6 := ae.fx 4 dZ
 obtain ⟨aU, aI, aV, aJ, aK, cb, cc⟩ : (fun (v_ : Value) (W : World) => ∃ (aD : Option Addr) (aE : Nat) (aF : Option Addr) (aG : Nat), v_ = vv (numericV v).1 aD aE aF aG ∧ SRow W .u32 aD ((numericV v).1.mag) aE ∧ SRow W .u16 aF ((numericV v).1.s) aG) _ _ := ae.got 3 40 rfl (by kernel_rfl)
 have aK : aT.eval (.tmp 40) = vv (numericV v).1 aU aI aV aJ := aK
 have bD := ae.ge 4 41 rfl
 obtain ⟨aL, bE, a4, aM⟩ : IsNew _ _ _ _ _ := ae.got 5 8 rfl (by kernel_rfl)
 have cd := aZ.new_ a1
 have hne132 : aS ≠ aL := by have h1 := aZ.lt; have h2 := a4; omega
 have e8 := Nat.le_trans an.size a4
 obtain ⟨d7, bF, bG, aN, ce⟩ := s_many (P := Tryz.prog) (t := 29) (i := 0) [iv ((numericV v).1.k), iv ((numericV v).1.nk), iv ((numericV v).1.nn), .bool ((numericV v).1.neg), sv aU ((numericV v).1.mag) aI, sv aV ((numericV v).1.s) aJ, iv ((numericV v).1.ref)] Tryz.sizeOf29 rfl rfl rfl aM lb
 have a5 : Blk d7 aL 29 [iv ((numericV v).1.k), iv ((numericV v).1.nk), iv ((numericV v).1.nn), .bool ((numericV v).1.neg), sv aU ((numericV v).1.mag) aI, sv aV ((numericV v).1.s) aJ, iv ((numericV v).1.ref)] := bG
 refine st_act rfl rfl fun fq cf => a_store' rfl bE aK bF (cf _ _ trivial ?_)
 have a6 := cb.far aM aN (by first | rfl | decide | simp [notK])
 have a7 := cc.far aM aN (by first | rfl | decide | simp [notK])
 have a8 := ce _ _ _ (hne132) cd
 have a9 := ca.trans aN (fun _ h b => by subst b; omega)
 refine st_take rfl rfl (y_assign (v := iv ((numericV v).2)) rfl bD) rfl ?_
 obtain ⟨d8, aa⟩ : ∃ a', a' = aT.put (some 9) (iv ((numericV v).2)) := ⟨_, rfl⟩
 have ap := pz aa a3
 have ba := pd aa b9
 have bH := pn aa d5 (by decide)
 have bI := pn aa d6 (by decide)
 have fr := pn aa aK (by decide)
 have fs := pn aa bD (by decide)
 have bJ := pn aa bE (by decide)
 have aO : d8.eval (.tmp 9) = iv ((numericV v).2) := by rw [aa]; exact put_same _ _ _ (by rw [a3]; decide)
 show stepsTo _ _ _ _ _ (aT.put (some 9) (iv ((numericV v).2))) _
 rw [← aa]
 refine st_nil (b8 _ _ (wp_seq_k fun ft ch => ?_))
 refine wp_block ?_
 refine wp_seq_k fun fu bb => ?_
 rcases bc (decide (((numericV v).2) = 0)) with ab | ab
 have bK := oT ab
 refine wp_g0 [true, true, true] [] 76
   [ve (iv ((numericV v).2)), vF, vF] ap (.eq (.eq (.eq (.nil)))) ?_ ?_
 exact .m (fun k => k.fx 9 aO) <| .t (fun _ w hn k => ⟨_, v_bin rfl (k.eq1 0 43 rfl) rfl (fun _ => rfl) (r_neq ab), rfl⟩) <| .a (fun k => k.eq1 1 44 rfl) .nil
 refine aftI ap ba a9 fun fv fw bd ci cj aq al => ?_
 have bL := al.fx 0 bH
 have d9 := al.fx 4 bI
 have ea := al.fx 8 bJ
 have fy := al.fx 9 aO
 have eb := al.ge 2 42 rfl
 have cl := a8.new_ aq
 have cm := a5.new_ aq
 have cn := a6.new_ aq
 have co := a7.new_ aq
 refine st_nil (bb _ _ ?_)
 refine wp_cond_false eb ?_
 refine wp_seq_k fun fz cp => ?_
 refine wp_g0 (.replicate 8 true) [] 76
   [ve (.string ⟨#[126]⟩), vF, vF, vU, vU, vU, vF, vF] bd (.eq (.eq (.eq (.eq (.eq (.eq (.eq (.eq (.nil))))))))) ?_ ?_
 exact .m (fun k => k.fx 0 bL) <| .t (fun _ w hn k => ⟨_, v_bin rfl (k.eq1 0 48 rfl) rfl (fun _ => rfl) (r_eqlS (r := false) (by kernel_rfl)), rfl⟩) <| .m (fun k => k.eq1 1 49 rfl) <| .s (fun k => k.eq1 2 50 rfl) <| .s (fun k => k.eq1 2 50 rfl) <| .s (fun k => k.eq1 2 50 rfl) <| .t (fun _ w hn k => ⟨_, v_pickF rfl (k.eq1 2 50 rfl) rfl, rfl⟩) <| .a (fun k => k.eq1 6 54 rfl) .nil
 refine aftI bd ci cj fun fA fB be cq cr ar au => ?_
 have ec := au.fx 0 bL
 have ed := au.fx 4 d9
 have ee := au.fx 8 ea
 have ef := au.ge 7 47 rfl
 have ct := cl.new_ ar
 have cu := cm.new_ ar
 have cw := cn.new_ ar
 have cx := co.new_ ar
 refine st_nil (cp _ _ ?_)
 refine wp_cond_false ef ?_
 refine wp_seq_k fun fC cy => ?_
 refine wp_g0 [true, true, true] [] 76
   [ve (.string ⟨#[126]⟩), vF, vF] be (.eq (.eq (.eq (.nil)))) ?_ ?_
 exact .m (fun k => k.fx 0 ec) <| .t (fun _ w hn k => ⟨_, v_bin rfl (k.eq1 0 60 rfl) rfl (fun _ => rfl) (r_eqlS (r := false) (by kernel_rfl)), rfl⟩) <| .a (fun k => k.eq1 1 61 rfl) .nil
 refine aftI be cq cr fun fD fE bf cz cA av aP => ?_
 have eg := aP.fx 4 ed
 have bM := aP.fx 8 ee
 have eh := aP.ge 2 59 rfl
 have cB := ct.new_ av
 have bg := cu.new_ av
 have cC := cw.new_ av
 have cD := cx.new_ av
 refine st_nil (cy _ _ ?_)
 refine wp_cond_false eh ?_
 refine wp_seq_k fun fF cE => ?_
 refine wp_g0 [true, true, true, true] [] 76
   [ve (pv aL), ve (iv ((numericV v).1.k)), ve (.bool (decide (((numericV v).1.k) = 4))), ve (.bool (decide (((numericV v).1.k) = 4)))] bf (.eq (.eq (.eq (.eq (.nil))))) ?_ ?_
 exact .f (fun k => k.fx 8 bM) <| .t (fun _ w hn k => ⟨_, v_load rfl (k.eq1 0 67 rfl) (l_one Tryz.isAgg3 ((bg.new_ hn).cell 0)), rfl⟩) <| .t (fun _ w hn k => ⟨_, v_bin rfl (k.eq1 1 68 rfl) rfl (fun _ => rfl) (r_eql rfl), rfl⟩) <| .a (fun k => k.eq1 2 69 rfl) .nil
 refine aftI bf cz cA fun fG fH aw bh bi ax aQ => ?_
 have bN := aQ.fx 4 eg
 have ei := aQ.fx 8 bM
 have bO := aQ.ge 3 66 rfl
 have bj := cB.new_ ax
 have cF := bg.new_ ax
 have e9 := cC.new_ ax
 have fa := cD.new_ ax
 refine st_nil (cE _ _ ?_)
 rcases bc (decide (((numericV v).1.k) = 4)) with ac | ac
 have bP := oT ac
 have cG := hB bO ac
 refine wp_cond_true cG ?_
 refine wp_seq_k fun fI cH => ?_
 refine wp_g0 [true, false, false] [(1, false), (2, true)] 76
   [ve (vv (Vl.mk 0 0 0 false [] [] 0) none 0 none 0), vt, vt] aw (.eq (.tt (.tt (.nil)))) ?_ ?_
 exact .t (fun _ w hn k => ⟨_, v_build (ps := []) rfl parts0 (by kernel_rfl), rfl⟩) <| .off <| .off .nil
 refine aftI aw bh bi fun bQ fJ bk cI cJ cK bl => ?_
 have bR := bl.fx 4 bN
 have bS := bl.ge 0 70 rfl
 have cL := bj.new_ cK
 obtain ⟨ej, bT, bU, cM, fb⟩ := s_many (P := Tryz.prog) (t := 29) (i := 0) [iv 0, iv 0, iv 0, .bool false, sv none ([]) 0, sv none ([]) 0, iv 0] Tryz.sizeOf29 rfl rfl rfl cL lb
 have cN : Blk ej aS 29 [iv 0, iv 0, iv 0, .bool false, sv none ([]) 0, sv none ([]) 0, iv 0] := bU
 refine st_act rfl rfl fun fK cO => a_store' rfl bR bS bT (cO _ _ trivial ?_)
 have cP := cJ.trans cM (fun _ h b => by subst b; omega)
 refine st_take rfl rfl (y_assign (v := iv 3) rfl rfl) rfl ?_
 obtain ⟨ek, af⟩ : ∃ a', a' = bQ.put (some 5) (iv 3) := ⟨_, rfl⟩
 have fc := pz af bk
 have cQ := pd af cI
 have el := pn af bR (by decide)
 have fL := pn af bS (by decide)
 have em : ek.eval (.tmp 5) = iv 3 := by rw [af]; exact put_same _ _ _ (by rw [bk]; decide)
 show stepsTo _ _ _ _ _ (bQ.put (some 5) (iv 3)) _
 rw [← af]
 refine st_nil (cH _ _ ?_)
 refine wp_ret (ret_k cQ (v := .tuple #[vv (Vl.mk 0 0 0 false [] [] 0) none 0 none 0, iv 3]) (res_ct rfl el em (l_agg Tryz.isAgg29 Tryz.sizeOf29 cN rfl)) ?_)
 refine ⟨?_, cP⟩
 show Ending.returned (.tuple #[vv (Vl.mk 0 0 0 false [] [] 0) none 0 none 0, iv 3]) = Ending.returned (.tuple #[vv (Vl.mk (tildeV v).1 (tildeV v).2.1.k (tildeV v).2.1.n false [] [] 0) none 0 none 0, iv ((tildeV v).2.2)])
 first | rfl | (simp only [tildeV, ab, ac, bsm] <;> rfl) | (exfalso; omega)
 have bP := oF ac
 have cR := hB bO ac
 refine wp_cond_false cR ?_
 refine wp_skip ?_
 refine ch _ _ ?_
 refine wp_seq_k fun fM cS => ?_
 refine wp_g0 [true, true, true, true, true, false, false] [(5, false), (6, true)] 76
   [ve (.pointer (some ⟨aL, 1, none⟩)), ve (nv (Nm.mk ((numericV v).1.nk) ((numericV v).1.nn))), ve (nv (Nm.mk 0 (-1))), ve (nv (bitM 3 (Nm.mk ((numericV v).1.nk) ((numericV v).1.nn)) (Nm.mk 0 (-1)))), ve (vv (Vl.mk 3 (bitM 3 (Nm.mk ((numericV v).1.nk) ((numericV v).1.nn)) (Nm.mk 0 (-1))).k (bitM 3 (Nm.mk ((numericV v).1.nk) ((numericV v).1.nn)) (Nm.mk 0 (-1))).n false [] [] 0) none 0 none 0), vt, vt] aw (.eq (.eq (.eq (.eq (.eq (.tt (.tt (.nil)))))))) ?_ ?_
 exact .f (fun k => k.fx 8 ei) <| .t (fun _ w hn k => ⟨_, v_load rfl (k.eq1 0 71 rfl) (l_part Tryz.isAgg23 Tryz.sizeOf23 (cF.new_ hn) lb), rfl⟩) <| .t (fun _ w hn k => ⟨_, v_build (ps := [(1, iv (-1))]) rfl (parts1 rfl) (by kernel_rfl), rfl⟩) <| .o1 (ck rfl rfl rfl (fun _ w hn k => ⟨#[iv 3, nv (Nm.mk ((numericV v).1.nk) ((numericV v).1.nn)), nv (Nm.mk 0 (-1))], args3 rfl (k.eq1 1 72 rfl) (k.eq1 2 73 rfl), fun _ => by kernel_rfl, bit_c 3 (Nm.mk ((numericV v).1.nk) ((numericV v).1.nn)) (Nm.mk 0 (-1)) _ ⟩) fun _ => rfl) <| .o1 (ck rfl rfl rfl (fun _ w hn k => ⟨#[nv (bitM 3 (Nm.mk ((numericV v).1.nk) ((numericV v).1.nn)) (Nm.mk 0 (-1)))], args1 (k.eq1 3 74 rfl), fun _ => by kernel_rfl, cnum_c (bitM 3 (Nm.mk ((numericV v).1.nk) ((numericV v).1.nn)) (Nm.mk 0 (-1))) _ ⟩) fun _ => rfl) <| .off <| .off .nil
 refine aftI aw bh bi fun bV fN bm cT cU cV bn => ?_
 have bW := bn.fx 4 bN
 have bX := bn.ge 4 75 rfl
 have cW := bj.new_ cV
 obtain ⟨en, bY, bZ, cX, fd⟩ := s_many (P := Tryz.prog) (t := 29) (i := 0) [iv 3, iv ((bitM 3 (Nm.mk ((numericV v).1.nk) ((numericV v).1.nn)) (Nm.mk 0 (-1))).k), iv ((bitM 3 (Nm.mk ((numericV v).1.nk) ((numericV v).1.nn)) (Nm.mk 0 (-1))).n), .bool false, sv none ([]) 0, sv none ([]) 0, iv 0] Tryz.sizeOf29 rfl rfl rfl cW lb
 have cY : Blk en aS 29 [iv 3, iv ((bitM 3 (Nm.mk ((numericV v).1.nk) ((numericV v).1.nn)) (Nm.mk 0 (-1))).k), iv ((bitM 3 (Nm.mk ((numericV v).1.nk) ((numericV v).1.nn)) (Nm.mk 0 (-1))).n), .bool false, sv none ([]) 0, sv none ([]) 0, iv 0] := bZ
 refine st_act rfl rfl fun fO cZ => a_store' rfl bW bX bY (cZ _ _ trivial ?_)
 have c0 := cU.trans cX (fun _ h b => by subst b; omega)
 refine st_take rfl rfl (y_assign (v := iv 0) rfl rfl) rfl ?_
 obtain ⟨eo, ag⟩ : ∃ a', a' = bV.put (some 5) (iv 0) := ⟨_, rfl⟩
 have fe := pz ag bm
 have c1 := pd ag cT
 have ep := pn ag bW (by decide)
 have fP := pn ag bX (by decide)
 have er : eo.eval (.tmp 5) = iv 0 := by rw [ag]; exact put_same _ _ _ (by rw [bm]; decide)
 show stepsTo _ _ _ _ _ (bV.put (some 5) (iv 0)) _
 rw [← ag]
 refine st_nil (cS _ _ ?_)
 refine wp_ret (ret_k c1 (v := .tuple #[vv (Vl.mk 3 (bitM 3 (Nm.mk ((numericV v).1.nk) ((numericV v).1.nn)) (Nm.mk 0 (-1))).k (bitM 3 (Nm.mk ((numericV v).1.nk) ((numericV v).1.nn)) (Nm.mk 0 (-1))).n false [] [] 0) none 0 none 0, iv 0]) (res_ct rfl ep er (l_agg Tryz.isAgg29 Tryz.sizeOf29 cY rfl)) ?_)
 refine ⟨?_, c0⟩
 show Ending.returned (.tuple #[vv (Vl.mk 3 (bitM 3 (Nm.mk ((numericV v).1.nk) ((numericV v).1.nn)) (Nm.mk 0 (-1))).k (bitM 3 (Nm.mk ((numericV v).1.nk) ((numericV v).1.nn)) (Nm.mk 0 (-1))).n false [] [] 0) none 0 none 0, iv 0]) = Ending.returned (.tuple #[vv (Vl.mk (tildeV v).1 (tildeV v).2.1.k (tildeV v).2.1.n false [] [] 0) none 0 none 0, iv ((tildeV v).2.2)])
 first | rfl | (simp only [tildeV, ab, ac, bsm] <;> rfl) | (exfalso; omega)
 have bK := oF ab
 refine wp_g0 [true, true, true] [] 76
   [ve (iv ((numericV v).2)), vT, vT] ap (.eq (.eq (.eq (.nil)))) ?_ ?_
 exact .m (fun k => k.fx 9 aO) <| .t (fun _ w hn k => ⟨_, v_bin rfl (k.eq1 0 43 rfl) rfl (fun _ => rfl) (r_neq ab), rfl⟩) <| .a (fun k => k.eq1 1 44 rfl) .nil
 refine aftI ap ba a9 fun fQ fR bo c3 c5 ay am => ?_
 have fS := am.fx 0 bH
 have es := am.fx 4 bI
 have fT := am.fx 8 bJ
 have et := am.fx 9 aO
 have eu := am.ge 2 42 rfl
 have c7 := a8.new_ ay
 have ff := a5.new_ ay
 have fg := a6.new_ ay
 have fh := a7.new_ ay
 refine st_nil (bb _ _ ?_)
 refine wp_cond_true eu ?_
 refine wp_seq_k fun fU c9 => ?_
 refine wp_g [true, true, false, false] [1] [(2, false), (3, true)] 76
   [ve (vv (Vl.mk 0 0 0 false [] [] 0) none 0 none 0), ve (iv ((numericV v).2)), vt, vt]
   [] newsNil bo (.eq (.eq (.tt (.tt (.nil))))) ?_ ?_ ?_
 refine .t (fun _ w hn k => ⟨_, v_build (ps := []) rfl parts0 (by kernel_rfl), rfl⟩) ?_
 refine .o3 ?_
 exact .off <| .off .nil
 intro i h
 simp only [List.contains_eq_mem, List.mem_cons, List.not_mem_nil, or_false, decide_eq_true_eq] at h
 subst h
 exact eager_take rfl rfl fun _ w hn k => ⟨iv ((numericV v).2), fun w => v_move rfl (k.fx 9 et), rfl⟩
 refine aftI bo c3 c5 fun b0 fV bp da db dc aR => ?_
 have b1 := aR.fx 4 es
 have b2 := aR.ge 0 45 rfl
 have b3 := aR.ge 1 46 rfl
 have dd := c7.new_ dc
 obtain ⟨ev, b4, b5, de, fi⟩ := s_many (P := Tryz.prog) (t := 29) (i := 0) [iv 0, iv 0, iv 0, .bool false, sv none ([]) 0, sv none ([]) 0, iv 0] Tryz.sizeOf29 rfl rfl rfl dd lb
 have df : Blk ev aS 29 [iv 0, iv 0, iv 0, .bool false, sv none ([]) 0, sv none ([]) 0, iv 0] := b5
 refine st_act rfl rfl fun fW dg => a_store' rfl b1 b2 b4 (dg _ _ trivial ?_)
 have dh := db.trans de (fun _ h b => by subst b; omega)
 refine st_take rfl rfl (y_assign (v := iv ((numericV v).2)) rfl b3) rfl ?_
 obtain ⟨ew, ad⟩ : ∃ a', a' = b0.put (some 5) (iv ((numericV v).2)) := ⟨_, rfl⟩
 have fj := pz ad bp
 have di := pd ad da
 have ex := pn ad b1 (by decide)
 have fX := pn ad b2 (by decide)
 have fY := pn ad b3 (by decide)
 have ey : ew.eval (.tmp 5) = iv ((numericV v).2) := by rw [ad]; exact put_same _ _ _ (by rw [bp]; decide)
 show stepsTo _ _ _ _ _ (b0.put (some 5) (iv ((numericV v).2))) _
 rw [← ad]
 refine st_nil (c9 _ _ ?_)
 refine wp_ret (ret_k di (v := .tuple #[vv (Vl.mk 0 0 0 false [] [] 0) none 0 none 0, iv ((numericV v).2)]) (res_ct rfl ex ey (l_agg Tryz.isAgg29 Tryz.sizeOf29 df rfl)) ?_)
 refine ⟨?_, dh⟩
 show Ending.returned (.tuple #[vv (Vl.mk 0 0 0 false [] [] 0) none 0 none 0, iv ((numericV v).2)]) = Ending.returned (.tuple #[vv (Vl.mk (tildeV v).1 (tildeV v).2.1.k (tildeV v).2.1.n false [] [] 0) none 0 none 0, iv ((tildeV v).2.2)])
 first | rfl | (simp only [tildeV, ab, bsm] <;> rfl) | (exfalso; omega)
theorem big_in {w : World} {b : Bool} {A : Option Addr} {m : List Nat} {c : Nat} (hr : SRow w .u32 A m c) (hl : Limbs m) : BigAt w (.agg #[.bool b, sv A m c]) (goodI b m) := ⟨b, _, m, rfl, hr, hl, rfl⟩
theorem text_len {v : Vl} (h : VOk v) : (textV v).1.length ≤ 20000 := by
  have h1 := textM_size (cleanV v).num
  have h2 := textI_size (b := (cleanV v).neg) h.clean.limbs
  have h3 := h.clean.slen
  unfold textV
  repeat' split
  all_goals first | exact h3 | exact Nat.zero_le _ | (show (asc _).length ≤ 20000; rw [asc_len]; first | (show (_ : Nat) ≤ _; decide) | (show (_ : Nat) ≤ _; omega))
theorem bText_c (a : Bool) (Aa : Option Addr) (ma : List Nat) (ca : Nat) (w : World) (hra : SRow w .u32 Aa ma ca) (ha : Limbs ma) : Calls Tryz.prog 141 #[.agg #[.bool a, sv Aa ma ca]] w (IsRet (.string (strOfNums (textI (goodI a ma)))) w) := text_any _ _ w (big_in hra ha)
def ctext_c_P (v : Vl) (Av : Option Addr) (cv : Nat) (Bv : Option Addr) (dv : Nat) (w : World) (en : Ending) (w' : World) : Prop := ∃ (Ar0 : Option Addr) (cr0 : Nat), en = .returned (.tuple #[sv Ar0 ((textV v).1) cr0, iv ((textV v).2)]) ∧ SOwn w' w.heap.size 74 .u16 Ar0 ((textV v).1) cr0 ∧ New w w'
theorem ctext_c (v : Vl) (Av : Option Addr) (cv : Nat) (Bv : Option Addr) (dv : Nat) (w : World) (hmv : SRow w .u32 Av v.mag cv) (hsv : SRow w .u16 Bv v.s dv) (hvv : VOk v) (HT : ItoaOk w) : Calls Tryz.prog 73 #[vv v Av cv Bv dv] w (ctext_c_P v Av cv Bv dv w) := by
 refine enter_abs Tryz.func73 rfl fun a0 bh eg hp => ?_
 have bh : a0.tmps.size = 38 := bh
 have dd : New w w := Upd.refl _ _
 have hp0 : a0.eval (.tmp 0) = vv v Av cv Bv dv := hp 0 _ rfl
 have hm := hvv.clean.mlen
 have hsl := hvv.clean.slen
 have hz1 : (textM (Nm.mk (cleanV v).nk (cleanV v).nn)).size ≤ 21 := textM_size (cleanV v).num
 have hz2 := textI_size (b := (cleanV v).neg) hvv.clean.limbs
 refine wp_seq_k fun K1 eh => ?_
 refine wp_g [true, true, true] [] [] 38
   [IsNew w 29 [iv v.k, iv v.nk, iv v.nn, .bool v.neg, sv Av v.mag cv, sv Bv v.s dv, iv v.ref], ve (sv none ([]) 0), ve (iv 0)]
   [0] (newsCons (fun v w h => IsNew.old h) newsNil) bh (.nw (.eq (.eq (.nil)))) ?_ (fun i h => by cases h) ?_
 exact .o2 (step_allocN (cs := [iv v.k, iv v.nk, iv v.nn, .bool v.neg, sv Av v.mag cv, sv Bv v.s dv, iv v.ref]) (t := 29) rfl (noG rfl) (fun _ w hn k => v_box rfl (k.fx 0 hp0) (fun w => rfl)) (fun q _ hq hb => ⟨q, rfl, hq, hb⟩)) <| .t (fun _ w hn k => ⟨_, v_assign rfl rfl, rfl⟩) <| .t (fun _ w hn k => ⟨_, v_assign rfl rfl, rfl⟩) .nil
 refine aftI bh eg dd fun a2 w3 de ei aY gf ej => ?_
 obtain ⟨q9, h8, dk, bD⟩ : IsNew _ _ _ _ _ := ej.got 0 1 rfl (by kernel_rfl)
 have fJ := Nat.le_trans dd.size dk
 refine st_nil (eh _ _ (wp_seq_k fun gg dl => ?_))
 refine wp_g0 [true, true, false] [(2, false)] 38
   [ve (vv v Av cv Bv dv),
    (VP (cleanV v)), vt] de (.eq (.cons (fun v W W' hn ⟨A5, c6, A7, c8, he, h0, h1⟩ => ⟨A5, c6, A7, c8, he, h0.new_ hn, h1.new_ hn⟩) (.tt (.nil)))) ?_ ?_
 refine .t (fun _ w hn k => ⟨_, v_load rfl (k.fx 1 h8) (l_agg Tryz.isAgg29 Tryz.sizeOf29 (bD.new_ hn) rfl), rfl⟩) ?_
 refine .o1 (tkC rfl (noG rfl) rfl fun _ w hn k => (by
       refine ⟨#[vv v Av cv Bv dv], _, args1 (k.eq1 0 4 rfl), fun w => by kernel_rfl, clean_c v _ _ _ _ _ (hmv.new_ (aY.transNew hn)) (hsv.new_ (aY.transNew hn)), ?_⟩
       rintro e w' ⟨A1, c2, A3, c4, rfl, hmo0, hmo1, hm⟩
       exact ⟨_, rfl, hm, ⟨A1, c2, A3, c4, rfl, hmo0, hmo1⟩⟩)) ?_
 exact .off .nil
 refine aftI de ei aY fun ek gh bE dm dn dp bF => ?_
 have bG := bF.fx 1 h8
 obtain ⟨aW, ay, az, aA, bH, dq, dr⟩ : (VP (cleanV v)) _ _ := bF.got 1 5 rfl (by kernel_rfl)
 have bH : ek.eval (.tmp 5) = vv (cleanV v) aW ay az aA := bH
 have aZ := bD.new_ dp
 obtain ⟨el, b5, b6, a1, fK⟩ := s_many (P := Tryz.prog) (t := 29) (i := 0) [iv ((cleanV v).k), iv ((cleanV v).nk), iv ((cleanV v).nn), .bool ((cleanV v).neg), sv aW ((cleanV v).mag) ay, sv az ((cleanV v).s) aA, iv ((cleanV v).ref)] Tryz.sizeOf29 rfl rfl rfl aZ lb
 have bI : Blk el q9 29 [iv ((cleanV v).k), iv ((cleanV v).nk), iv ((cleanV v).nn), .bool ((cleanV v).neg), sv aW ((cleanV v).mag) ay, sv az ((cleanV v).s) aA, iv ((cleanV v).ref)] := b6
 refine st_act rfl rfl fun gi ds => a_store' rfl bG bH b5 (ds _ _ trivial ?_)
 have dt := dq.far aZ a1 (by first | rfl | decide | simp [notK])
 have du := dr.far aZ a1 (by first | rfl | decide | simp [notK])
 have dw := dn.trans a1 (fun _ h b => by subst b; omega)
 refine st_nil (dl _ _ (wp_seq_k fun gj dx => ?_))
 refine wp_seq_k fun gk dy => ?_
 refine wp_g0 [true, true] [] 38
   [ve (pv q9), ve (iv ((cleanV v).k))] bE (.eq (.eq (.nil))) ?_ ?_
 exact .f (fun k => k.fx 1 bG) <| .t (fun _ w hn k => ⟨_, v_load rfl (k.eq1 0 6 rfl) (l_one Tryz.isAgg3 ((bI.new_ hn).cell 0)), rfl⟩) .nil
 refine aftI bE dm dw fun gl gm bJ dz dA a3 bK => ?_
 have em := bK.fx 1 bG
 have df := bK.ge 1 7 rfl
 have dB := bI.new_ a3
 have dC := dt.new_ a3
 have dD := du.new_ a3
 refine st_nil (dy _ _ ?_)
 refine wp_block ?_
 refine wp_seq_k fun gn dE => ?_
 refine wp_g0 [true, true] [] 38
   [ve (.bool (decide (((cleanV v).k) = 0))), ve (.bool (decide (((cleanV v).k) = 0)))] bJ (.eq (.eq (.nil))) ?_ ?_
 exact .t (fun _ w hn k => ⟨_, v_bin rfl (k.fx 7 df) rfl (fun _ => rfl) (r_eql rfl), rfl⟩) <| .a (fun k => k.eq1 0 9 rfl) .nil
 refine aftI bJ dz dA fun go bi aI bL a4 a5 a6 => ?_
 have en := a6.fx 1 em
 have dg := a6.fx 7 df
 have dh := a6.ge 1 8 rfl
 have dF := dB.new_ a5
 have dG := dC.new_ a5
 have dH := dD.new_ a5
 refine st_nil (dE _ _ ?_)
 rcases bc (decide (((cleanV v).k) = 0)) with ac | ac
 have b7 := oT ac
 have dI := hB dh ac
 refine wp_cond_true dI ?_
 refine wp_seq_k fun gp dJ => ?_
 refine wp_g0 [true, true, true] [] 38
   [(OP bi.heap.size 74 .u16 (asc ⟨#[117, 110, 100, 101, 102, 105, 110, 101, 100]⟩)),
    (OP bi.heap.size 74 .u16 (asc ⟨#[117, 110, 100, 101, 102, 105, 110, 101, 100]⟩)), ve (iv 0)] aI (.cons (fun _ _ _ n ⟨_, _, e, h⟩ => ⟨_, _, e, h.new_ n⟩) (.cons (fun v W W' hn ⟨er, es, he, h0⟩ => ⟨er, es, he, h0.new_ hn⟩) (.eq (.nil)))) ?_ ?_
 refine .o1 (tkC rfl (noG rfl) rfl fun _ w hn k => (by
       refine ⟨#[.string ⟨#[117, 110, 100, 101, 102, 105, 110, 101, 100]⟩], _, args1 rfl, fun w => by kernel_rfl, ascii_c ⟨#[117, 110, 100, 101, 102, 105, 110, 101, 100]⟩ _ (by first | omega | (show (_ : Nat) ≤ _; decide)), ?_⟩
       rintro e w' ⟨et, eu, rfl, hmo0, hm⟩
       exact ⟨_, rfl, hm, ⟨et, eu, rfl, (hmo0.more hn.size)⟩⟩)) ?_
 refine .o1 (tk rfl rfl fun _ w hn k => (by
       obtain ⟨ev, ew, ex, dK⟩ : (OP bi.heap.size 74 .u16 (asc ⟨#[117, 110, 100, 101, 102, 105, 110, 101, 100]⟩)) _ _ := k.dep 0 10 (by kernel_rfl) (by kernel_rfl)
       exact ⟨_, v_assign rfl ex, ⟨ev, ew, rfl, dK⟩⟩)) ?_
 exact .t (fun _ w hn k => ⟨_, v_assign rfl rfl, rfl⟩) .nil
 refine aftI aI bL a4 fun ey gq fL dL dM fM bM => ?_
 obtain ⟨aX, aB, bN, dN⟩ : (OP bi.heap.size 74 .u16 (asc ⟨#[117, 110, 100, 101, 102, 105, 110, 101, 100]⟩)) _ _ := bM.got 1 2 rfl (by kernel_rfl)
 have bN : ey.eval (.tmp 2) = sv aX (asc ⟨#[117, 110, 100, 101, 102, 105, 110, 101, 100]⟩) aB := bN
 have ez := bM.ge 2 3 rfl
 have dO := dN.more a4.size
 refine st_nil (dJ _ _ ?_)
 refine wp_ret (ret_k dL (v := .tuple #[sv aX (asc ⟨#[117, 110, 100, 101, 102, 105, 110, 101, 100]⟩) aB, iv 0]) (res_tt rfl bN ez _) ?_)
 have ad : (textV v).1 = (asc ⟨#[117, 110, 100, 101, 102, 105, 110, 101, 100]⟩) := by first | rfl | (simp only [textV, ac, bsm] <;> rfl) | (exfalso; omega)
 exact ⟨aX, aB, (by show Ending.returned (.tuple #[sv aX (asc ⟨#[117, 110, 100, 101, 102, 105, 110, 101, 100]⟩) aB, iv 0]) = Ending.returned (.tuple #[sv aX ((textV v).1) aB, iv ((textV v).2)]); (first | rfl | (simp only [textV, ac, ad, bsm] <;> rfl) | (exfalso; omega))), (by rw [ad]; exact dO), dM⟩
 have b7 := oF ac
 have dP := hB dh ac
 refine wp_cond_false dP ?_
 refine wp_seq_k fun gr dQ => ?_
 refine wp_g0 [true, true] [] 38
   [ve (.bool (decide (((cleanV v).k) = 1))), ve (.bool (decide (((cleanV v).k) = 1)))] aI (.eq (.eq (.nil))) ?_ ?_
 exact .t (fun _ w hn k => ⟨_, v_bin rfl (k.fx 7 dg) rfl (fun _ => rfl) (r_eql rfl), rfl⟩) <| .a (fun k => k.eq1 0 12 rfl) .nil
 refine aftI aI bL a4 fun gs bj aJ bO a7 a8 a9 => ?_
 have eA := a9.fx 1 en
 have di := a9.fx 7 dg
 have dj := a9.ge 1 11 rfl
 have dR := dF.new_ a8
 have dS := dG.new_ a8
 have dT := dH.new_ a8
 refine st_nil (dQ _ _ ?_)
 rcases bc (decide (((cleanV v).k) = 1)) with aa | aa
 have bP := oT aa
 have b8 := hB dj aa
 refine wp_cond_true b8 ?_
 refine wp_seq_k fun fN b9 => ?_
 refine wp_g0 [true, true, true] [] 38
   [(OP bj.heap.size 74 .u16 (asc ⟨#[110, 117, 108, 108]⟩)),
    (OP bj.heap.size 74 .u16 (asc ⟨#[110, 117, 108, 108]⟩)), ve (iv 0)] aJ (.cons (fun _ _ _ n ⟨_, _, e, h⟩ => ⟨_, _, e, h.new_ n⟩) (.cons (fun v W W' hn ⟨eD, eE, he, h0⟩ => ⟨eD, eE, he, h0.new_ hn⟩) (.eq (.nil)))) ?_ ?_
 refine .o1 (tkC rfl (noG rfl) rfl fun _ w hn k => (by
       refine ⟨#[.string ⟨#[110, 117, 108, 108]⟩], _, args1 rfl, fun w => by kernel_rfl, ascii_c ⟨#[110, 117, 108, 108]⟩ _ (by first | omega | (show (_ : Nat) ≤ _; decide)), ?_⟩
       rintro e w' ⟨az, eF, rfl, hmo0, hm⟩
       exact ⟨_, rfl, hm, ⟨az, eF, rfl, (hmo0.more hn.size)⟩⟩)) ?_
 refine .o1 (tk rfl rfl fun _ w hn k => (by
       obtain ⟨eG, eH, eI, dU⟩ : (OP bj.heap.size 74 .u16 (asc ⟨#[110, 117, 108, 108]⟩)) _ _ := k.dep 0 13 (by kernel_rfl) (by kernel_rfl)
       exact ⟨_, v_assign rfl eI, ⟨eG, eH, rfl, dU⟩⟩)) ?_
 exact .t (fun _ w hn k => ⟨_, v_assign rfl rfl, rfl⟩) .nil
 refine aftI aJ bO a7 fun dV fO fs ca cb ft bk => ?_
 obtain ⟨aC, aj, ba, cc⟩ : (OP bj.heap.size 74 .u16 (asc ⟨#[110, 117, 108, 108]⟩)) _ _ := bk.got 1 2 rfl (by kernel_rfl)
 have ba : dV.eval (.tmp 2) = sv aC (asc ⟨#[110, 117, 108, 108]⟩) aj := ba
 have dW := bk.ge 2 3 rfl
 have cd := cc.more a7.size
 refine st_nil (b9 _ _ ?_)
 refine wp_ret (ret_k ca (v := .tuple #[sv aC (asc ⟨#[110, 117, 108, 108]⟩) aj, iv 0]) (res_tt rfl ba dW _) ?_)
 have ad : (textV v).1 = (asc ⟨#[110, 117, 108, 108]⟩) := by first | rfl | (simp only [textV, ac, aa, bsm] <;> rfl) | (exfalso; omega)
 exact ⟨aC, aj, (by show Ending.returned (.tuple #[sv aC (asc ⟨#[110, 117, 108, 108]⟩) aj, iv 0]) = Ending.returned (.tuple #[sv aC ((textV v).1) aj, iv ((textV v).2)]); (first | rfl | (simp only [textV, ac, aa, ad, bsm] <;> rfl) | (exfalso; omega))), (by rw [ad]; exact cd), cb⟩
 have bP := oF aa
 have ce := hB dj aa
 refine wp_cond_false ce ?_
 refine wp_seq_k fun fP cf => ?_
 refine wp_g0 [true, true] [] 38
   [ve (.bool (decide (((cleanV v).k) = 2))), ve (.bool (decide (((cleanV v).k) = 2)))] aJ (.eq (.eq (.nil))) ?_ ?_
 exact .t (fun _ w hn k => ⟨_, v_bin rfl (k.fx 7 di) rfl (fun _ => rfl) (r_eql rfl), rfl⟩) <| .a (fun k => k.eq1 0 15 rfl) .nil
 refine aftI aJ bO a7 fun fQ fR ap bl bm aK aL => ?_
 have bQ := aL.fx 1 eA
 have bR := aL.fx 7 di
 have bS := aL.ge 1 14 rfl
 have bn := dR.new_ aK
 have ch := dS.new_ aK
 have ci := dT.new_ aK
 refine st_nil (cf _ _ ?_)
 rcases bc (decide (((cleanV v).k) = 2)) with ab | ab
 have bT := oT ab
 have cj := hB bS ab
 refine wp_cond_true cj ?_
 refine wp_seq_k fun fS cl => ?_
 refine wp_seq_k fun fT cm => ?_
 refine wp_g0 [true, true, true] [] 38
   [ve (.pointer (some ⟨q9, 6, none⟩)), ve (iv ((cleanV v).ref)), ve (.bool (decide (((cleanV v).ref) = 1)))] ap (.eq (.eq (.eq (.nil)))) ?_ ?_
 exact .f (fun k => k.fx 1 bQ) <| .t (fun _ w hn k => ⟨_, v_load rfl (k.eq1 0 16 rfl) (l_one Tryz.isAgg3 ((bn.new_ hn).cell 6)), rfl⟩) <| .t (fun _ w hn k => ⟨_, v_bin rfl (k.eq1 1 17 rfl) rfl (fun _ => rfl) (r_eql rfl), rfl⟩) .nil
 refine aftI ap bl bm fun fU ai aq bo ar fu cn => ?_
 have bU := cn.ge 2 18 rfl
 refine st_nil (cm _ _ ?_)
 rcases bc (decide (((cleanV v).ref) = 1)) with ag | ag
 have bV := oT ag
 have co := hB bU ag
 refine wp_cond_true co ?_
 refine wp_seq_k fun fV cp => ?_
 refine wp_g0 [true, true, true] [] 38
   [(OP ai.heap.size 74 .u16 (asc ⟨#[116, 114, 117, 101]⟩)),
    (OP ai.heap.size 74 .u16 (asc ⟨#[116, 114, 117, 101]⟩)), ve (iv 0)] aq (.cons (fun _ _ _ n ⟨_, _, e, h⟩ => ⟨_, _, e, h.new_ n⟩) (.cons (fun v W W' hn ⟨eL, eM, he, h0⟩ => ⟨eL, eM, he, h0.new_ hn⟩) (.eq (.nil)))) ?_ ?_
 refine .o1 (tkC rfl (noG rfl) rfl fun _ w hn k => (by
       refine ⟨#[.string ⟨#[116, 114, 117, 101]⟩], _, args1 rfl, fun w => by kernel_rfl, ascii_c ⟨#[116, 114, 117, 101]⟩ _ (by first | omega | (show (_ : Nat) ≤ _; decide)), ?_⟩
       rintro e w' ⟨eN, eO, rfl, hmo0, hm⟩
       exact ⟨_, rfl, hm, ⟨eN, eO, rfl, (hmo0.more hn.size)⟩⟩)) ?_
 refine .o1 (tk rfl rfl fun _ w hn k => (by
       obtain ⟨eP, eQ, eR, dX⟩ : (OP ai.heap.size 74 .u16 (asc ⟨#[116, 114, 117, 101]⟩)) _ _ := k.dep 0 19 (by kernel_rfl) (by kernel_rfl)
       exact ⟨_, v_assign rfl eR, ⟨eP, eQ, rfl, dX⟩⟩)) ?_
 exact .t (fun _ w hn k => ⟨_, v_assign rfl rfl, rfl⟩) .nil
 refine aftI aq bo ar fun dY fW fv cq cr fw bp => ?_
 obtain ⟨aD, ak, bb, ct⟩ : (OP ai.heap.size 74 .u16 (asc ⟨#[116, 114, 117, 101]⟩)) _ _ := bp.got 1 2 rfl (by kernel_rfl)
 have bb : dY.eval (.tmp 2) = sv aD (asc ⟨#[116, 114, 117, 101]⟩) ak := bb
 have dZ := bp.ge 2 3 rfl
 have cu := ct.more ar.size
 refine st_nil (cp _ _ ?_)
 refine wp_ret (ret_k cq (v := .tuple #[sv aD (asc ⟨#[116, 114, 117, 101]⟩) ak, iv 0]) (res_tt rfl bb dZ _) ?_)
 have ad : (textV v).1 = (asc ⟨#[116, 114, 117, 101]⟩) := by first | rfl | (simp only [textV, ac, aa, ab, ag, bsm] <;> rfl) | (exfalso; omega)
 exact ⟨aD, ak, (by show Ending.returned (.tuple #[sv aD (asc ⟨#[116, 114, 117, 101]⟩) ak, iv 0]) = Ending.returned (.tuple #[sv aD ((textV v).1) ak, iv ((textV v).2)]); (first | rfl | (simp only [textV, ac, aa, ab, ag, ad, bsm] <;> rfl) | (exfalso; omega))), (by rw [ad]; exact cu), cr⟩
 have bV := oF ag
 have cw := hB bU ag
 refine wp_cond_false cw ?_
 refine wp_skip ?_
 refine cl _ _ ?_
 refine wp_seq_k fun fX cx => ?_
 refine wp_g0 [true, true, true] [] 38
   [(OP ai.heap.size 74 .u16 (asc ⟨#[102, 97, 108, 115, 101]⟩)),
    (OP ai.heap.size 74 .u16 (asc ⟨#[102, 97, 108, 115, 101]⟩)), ve (iv 0)] aq (.cons (fun _ _ _ n ⟨_, _, e, h⟩ => ⟨_, _, e, h.new_ n⟩) (.cons (fun v W W' hn ⟨eU, eV, he, h0⟩ => ⟨eU, eV, he, h0.new_ hn⟩) (.eq (.nil)))) ?_ ?_
 refine .o1 (tkC rfl (noG rfl) rfl fun _ w hn k => (by
       refine ⟨#[.string ⟨#[102, 97, 108, 115, 101]⟩], _, args1 rfl, fun w => by kernel_rfl, ascii_c ⟨#[102, 97, 108, 115, 101]⟩ _ (by first | omega | (show (_ : Nat) ≤ _; decide)), ?_⟩
       rintro e w' ⟨eW, eX, rfl, hmo0, hm⟩
       exact ⟨_, rfl, hm, ⟨eW, eX, rfl, (hmo0.more hn.size)⟩⟩)) ?_
 refine .o1 (tk rfl rfl fun _ w hn k => (by
       obtain ⟨eY, eZ, e0, d0⟩ : (OP ai.heap.size 74 .u16 (asc ⟨#[102, 97, 108, 115, 101]⟩)) _ _ := k.dep 0 20 (by kernel_rfl) (by kernel_rfl)
       exact ⟨_, v_assign rfl e0, ⟨eY, eZ, rfl, d0⟩⟩)) ?_
 exact .t (fun _ w hn k => ⟨_, v_assign rfl rfl, rfl⟩) .nil
 refine aftI aq bo ar fun d1 fY fy cy cz fz bq => ?_
 obtain ⟨aE, al, bd, cA⟩ : (OP ai.heap.size 74 .u16 (asc ⟨#[102, 97, 108, 115, 101]⟩)) _ _ := bq.got 1 2 rfl (by kernel_rfl)
 have bd : d1.eval (.tmp 2) = sv aE (asc ⟨#[102, 97, 108, 115, 101]⟩) al := bd
 have d2 := bq.ge 2 3 rfl
 have cB := cA.more ar.size
 refine st_nil (cx _ _ ?_)
 refine wp_ret (ret_k cy (v := .tuple #[sv aE (asc ⟨#[102, 97, 108, 115, 101]⟩) al, iv 0]) (res_tt rfl bd d2 _) ?_)
 have ad : (textV v).1 = (asc ⟨#[102, 97, 108, 115, 101]⟩) := by first | rfl | (simp only [textV, ac, aa, ab, ag, bsm] <;> rfl) | (exfalso; omega)
 exact ⟨aE, al, (by show Ending.returned (.tuple #[sv aE (asc ⟨#[102, 97, 108, 115, 101]⟩) al, iv 0]) = Ending.returned (.tuple #[sv aE ((textV v).1) al, iv ((textV v).2)]); (first | rfl | (simp only [textV, ac, aa, ab, ag, ad, bsm] <;> rfl) | (exfalso; omega))), (by rw [ad]; exact cB), cz⟩
 have bT := oF ab
 have cC := hB bS ab
 refine wp_cond_false cC ?_
 refine wp_seq_k fun fZ cD => ?_
 refine wp_g0 [true, true] [] 38
   [ve (.bool (decide (((cleanV v).k) = 3))), ve (.bool (decide (((cleanV v).k) = 3)))] ap (.eq (.eq (.nil))) ?_ ?_
 exact .t (fun _ w hn k => ⟨_, v_bin rfl (k.fx 7 bR) rfl (fun _ => rfl) (r_eql rfl), rfl⟩) <| .a (fun k => k.eq1 0 22 rfl) .nil
 refine aftI ap bl bm fun f0 aM au br av aN aO => ?_
 have bW := aO.fx 1 bQ
 have bX := aO.fx 7 bR
 have bY := aO.ge 1 21 rfl
 have bs := bn.new_ aN
 have cE := ch.new_ aN
 have cF := ci.new_ aN
 refine st_nil (cD _ _ ?_)
 rcases bc (decide (((cleanV v).k) = 3)) with ae | ae
 have bZ := oT ae
 have cG := hB bY ae
 refine wp_cond_true cG ?_
 refine wp_seq_k fun f1 cH => ?_
 refine wp_g0 [true, true, true, true, true, true] [] 38
   [ve (.pointer (some ⟨q9, 1, none⟩)), ve (nv (Nm.mk ((cleanV v).nk) ((cleanV v).nn))), ve (.string (textM (Nm.mk ((cleanV v).nk) ((cleanV v).nn)))),
    (OP aM.heap.size 74 .u16 (asc (textM (Nm.mk ((cleanV v).nk) ((cleanV v).nn))))),
    (OP aM.heap.size 74 .u16 (asc (textM (Nm.mk ((cleanV v).nk) ((cleanV v).nn))))), ve (iv 0)] au (.eq (.eq (.eq (.cons (fun _ _ _ n ⟨_, _, e, h⟩ => ⟨_, _, e, h.new_ n⟩) (.cons (fun v W W' hn ⟨e3, e4, he, h0⟩ => ⟨e3, e4, he, h0.new_ hn⟩) (.eq (.nil))))))) ?_ ?_
 refine .f (fun k => k.fx 1 bW) <| .t (fun _ w hn k => ⟨_, v_load rfl (k.eq1 0 23 rfl) (l_part Tryz.isAgg23 Tryz.sizeOf23 (bs.new_ hn) lb), rfl⟩) <| .o1 (ck rfl rfl rfl (fun _ w hn k => ⟨#[nv (Nm.mk ((cleanV v).nk) ((cleanV v).nn))], args1 (k.eq1 1 24 rfl), fun _ => by kernel_rfl, ntext_c (Nm.mk ((cleanV v).nk) ((cleanV v).nn)) _ (HT.up (av.transNew hn))⟩) fun _ => rfl) ?_
 refine .o1 (tkC rfl (noG rfl) rfl fun _ w hn k => (by
       refine ⟨#[.string (textM (Nm.mk ((cleanV v).nk) ((cleanV v).nn)))], _, args1 (k.eq1 2 25 rfl), fun w => by kernel_rfl, ascii_c (textM (Nm.mk ((cleanV v).nk) ((cleanV v).nn))) _ (by first | omega | (show (_ : Nat) ≤ _; decide)), ?_⟩
       rintro e w' ⟨e5, e6, rfl, hmo0, hm⟩
       exact ⟨_, rfl, hm, ⟨e5, e6, rfl, (hmo0.more hn.size)⟩⟩)) ?_
 refine .o1 (tk rfl rfl fun _ w hn k => (by
       obtain ⟨e7, e8, e9, d3⟩ : (OP aM.heap.size 74 .u16 (asc (textM (Nm.mk ((cleanV v).nk) ((cleanV v).nn))))) _ _ := k.dep 3 26 (by kernel_rfl) (by kernel_rfl)
       exact ⟨_, v_assign rfl e9, ⟨e7, e8, rfl, d3⟩⟩)) ?_
 exact .t (fun _ w hn k => ⟨_, v_assign rfl rfl, rfl⟩) .nil
 refine aftI au br av fun d4 f2 fA cI cJ fB bt => ?_
 obtain ⟨aF, am, be, cK⟩ : (OP aM.heap.size 74 .u16 (asc (textM (Nm.mk ((cleanV v).nk) ((cleanV v).nn))))) _ _ := bt.got 4 2 rfl (by kernel_rfl)
 have be : d4.eval (.tmp 2) = sv aF (asc (textM (Nm.mk ((cleanV v).nk) ((cleanV v).nn)))) am := be
 have d5 := bt.ge 5 3 rfl
 have cL := cK.more av.size
 refine st_nil (cH _ _ ?_)
 refine wp_ret (ret_k cI (v := .tuple #[sv aF (asc (textM (Nm.mk ((cleanV v).nk) ((cleanV v).nn)))) am, iv 0]) (res_tt rfl be d5 _) ?_)
 have ad : (textV v).1 = (asc (textM (Nm.mk ((cleanV v).nk) ((cleanV v).nn)))) := by first | rfl | (simp only [textV, ac, aa, ab, ae, bsm] <;> rfl) | (exfalso; omega)
 exact ⟨aF, am, (by show Ending.returned (.tuple #[sv aF (asc (textM (Nm.mk ((cleanV v).nk) ((cleanV v).nn)))) am, iv 0]) = Ending.returned (.tuple #[sv aF ((textV v).1) am, iv ((textV v).2)]); (first | rfl | (simp only [textV, ac, aa, ab, ae, ad, bsm] <;> rfl) | (exfalso; omega))), (by rw [ad]; exact cL), cJ⟩
 have bZ := oF ae
 have cM := hB bY ae
 refine wp_cond_false cM ?_
 refine wp_seq_k fun f3 cN => ?_
 refine wp_g0 [true, true] [] 38
   [ve (.bool (decide (((cleanV v).k) = 4))), ve (.bool (decide (((cleanV v).k) = 4)))] au (.eq (.eq (.nil))) ?_ ?_
 exact .t (fun _ w hn k => ⟨_, v_bin rfl (k.fx 7 bX) rfl (fun _ => rfl) (r_eql rfl), rfl⟩) <| .a (fun k => k.eq1 0 28 rfl) .nil
 refine aftI au br av fun f4 aP aw bu aQ aR aS => ?_
 have b0 := aS.fx 1 bW
 have d6 := aS.fx 7 bX
 have b1 := aS.ge 1 27 rfl
 have bv := bs.new_ aR
 have bw := cE.new_ aR
 have cO := cF.new_ aR
 refine st_nil (cN _ _ ?_)
 rcases bc (decide (((cleanV v).k) = 4)) with af | af
 have b2 := oT af
 have cP := hB b1 af
 refine wp_cond_true cP ?_
 refine wp_seq_k fun f5 cQ => ?_
 refine wp_g0 [true, true, true, true, true, true] [] 38
   [ve (.pointer (some ⟨q9, 3, none⟩)), ve (.agg #[.bool ((cleanV v).neg), sv aW ((cleanV v).mag) ay]), ve (.string (strOfNums (textI (goodI ((cleanV v).neg) ((cleanV v).mag))))),
    (OP aP.heap.size 74 .u16 (asc (strOfNums (textI (goodI ((cleanV v).neg) ((cleanV v).mag)))))),
    (OP aP.heap.size 74 .u16 (asc (strOfNums (textI (goodI ((cleanV v).neg) ((cleanV v).mag)))))), ve (iv 0)] aw (.eq (.eq (.eq (.cons (fun _ _ _ n ⟨_, _, e, h⟩ => ⟨_, _, e, h.new_ n⟩) (.cons (fun v W W' hn ⟨fc, fd, he, h0⟩ => ⟨fc, fd, he, h0.new_ hn⟩) (.eq (.nil))))))) ?_ ?_
 refine .f (fun k => k.fx 1 b0) <| .t (fun _ w hn k => ⟨_, v_load rfl (k.eq1 0 29 rfl) (l_part Tryz.isAgg26 Tryz.sizeOf26 (bv.new_ hn) lb), rfl⟩) <| .o1 (ck rfl rfl rfl (fun _ w hn k => ⟨#[.agg #[.bool ((cleanV v).neg), sv aW ((cleanV v).mag) ay]], args1 (k.eq1 1 30 rfl), fun _ => by kernel_rfl, bText_c ((cleanV v).neg) _ ((cleanV v).mag) _ _ (bw.new_ hn) hvv.clean.limbs⟩) fun _ => rfl) ?_
 refine .o1 (tkC rfl (noG rfl) rfl fun _ w hn k => (by
       refine ⟨#[.string (strOfNums (textI (goodI ((cleanV v).neg) ((cleanV v).mag))))], _, args1 (k.eq1 2 31 rfl), fun w => by kernel_rfl, ascii_c (strOfNums (textI (goodI ((cleanV v).neg) ((cleanV v).mag)))) _ (by first | omega | (show (_ : Nat) ≤ _; decide)), ?_⟩
       rintro e w' ⟨fe, ff, rfl, hmo0, hm⟩
       exact ⟨_, rfl, hm, ⟨fe, ff, rfl, (hmo0.more hn.size)⟩⟩)) ?_
 refine .o1 (tk rfl rfl fun _ w hn k => (by
       obtain ⟨fg, fh, fi, d7⟩ : (OP aP.heap.size 74 .u16 (asc (strOfNums (textI (goodI ((cleanV v).neg) ((cleanV v).mag)))))) _ _ := k.dep 3 32 (by kernel_rfl) (by kernel_rfl)
       exact ⟨_, v_assign rfl fi, ⟨fg, fh, rfl, d7⟩⟩)) ?_
 exact .t (fun _ w hn k => ⟨_, v_assign rfl rfl, rfl⟩) .nil
 refine aftI aw bu aQ fun d8 f6 fC cR cS fD bx => ?_
 obtain ⟨aG, an, bf, cT⟩ : (OP aP.heap.size 74 .u16 (asc (strOfNums (textI (goodI ((cleanV v).neg) ((cleanV v).mag)))))) _ _ := bx.got 4 2 rfl (by kernel_rfl)
 have bf : d8.eval (.tmp 2) = sv aG (asc (strOfNums (textI (goodI ((cleanV v).neg) ((cleanV v).mag))))) an := bf
 have d9 := bx.ge 5 3 rfl
 have cU := cT.more aQ.size
 refine st_nil (cQ _ _ ?_)
 refine wp_ret (ret_k cR (v := .tuple #[sv aG (asc (strOfNums (textI (goodI ((cleanV v).neg) ((cleanV v).mag))))) an, iv 0]) (res_tt rfl bf d9 _) ?_)
 have ad : (textV v).1 = (asc (strOfNums (textI (goodI ((cleanV v).neg) ((cleanV v).mag))))) := by first | rfl | (simp only [textV, ac, aa, ab, ae, af, bsm] <;> rfl) | (exfalso; omega)
 exact ⟨aG, an, (by show Ending.returned (.tuple #[sv aG (asc (strOfNums (textI (goodI ((cleanV v).neg) ((cleanV v).mag))))) an, iv 0]) = Ending.returned (.tuple #[sv aG ((textV v).1) an, iv ((textV v).2)]); (first | rfl | (simp only [textV, ac, aa, ab, ae, af, ad, bsm] <;> rfl) | (exfalso; omega))), (by rw [ad]; exact cU), cS⟩
 have b2 := oF af
 have cV := hB b1 af
 refine wp_cond_false cV ?_
 refine wp_seq_k fun f7 cW => ?_
 refine wp_g0 [true, true] [] 38
   [ve (.bool (decide (((cleanV v).k) = 5))), ve (.bool (decide (((cleanV v).k) = 5)))] aw (.eq (.eq (.nil))) ?_ ?_
 exact .t (fun _ w hn k => ⟨_, v_bin rfl (k.fx 7 d6) rfl (fun _ => rfl) (r_eql rfl), rfl⟩) <| .a (fun k => k.eq1 0 34 rfl) .nil
 refine aftI aw bu aQ fun f8 aT ax bz aU aV bA => ?_
 have ea := bA.fx 1 b0
 have b3 := bA.ge 1 33 rfl
 have cX := bv.new_ aV
 have fE := bw.new_ aV
 have cY := cO.new_ aV
 refine st_nil (cW _ _ ?_)
 rcases bc (decide (((cleanV v).k) = 5)) with ah | ah
 have b4 := oT ah
 have cZ := hB b3 ah
 refine wp_cond_true cZ ?_
 refine wp_seq_k fun f9 c0 => ?_
 refine wp_g0 [true, true, true, true, true] [] 38
   [ve (.pointer (some ⟨q9, 5, none⟩)), ve (sv az ((cleanV v).s) aA),
    (OP aT.heap.size 74 .u16 ((cleanV v).s)),
    (OP aT.heap.size 74 .u16 ((cleanV v).s)), ve (iv 0)] ax (.eq (.eq (.cons (fun _ _ _ n ⟨_, _, e, h⟩ => ⟨_, _, e, h.new_ n⟩) (.cons (fun v W W' hn ⟨fl, fm, he, h0⟩ => ⟨fl, fm, he, h0.new_ hn⟩) (.eq (.nil)))))) ?_ ?_
 refine .f (fun k => k.fx 1 ea) <| .t (fun _ w hn k => ⟨_, v_load rfl (k.eq1 0 35 rfl) (l_one Tryz.isAgg27 ((cX.new_ hn).cell 5)), rfl⟩) ?_
 refine .o1 (tkC rfl (noG rfl) rfl fun _ w hn k => (by
       refine ⟨#[sv az ((cleanV v).s) aA], _, args1 (k.eq1 1 36 rfl), fun w => by kernel_rfl, clone16_c _ ((cleanV v).s) _ _ (cY.new_ hn) (by first | omega | (simp only [List.length_nil, List.length_take, List.length_drop]; omega) | (simp only [List.length_cons, List.length_nil]; omega)), ?_⟩
       rintro e w' ⟨fn, fo, rfl, hmo0, hm⟩
       exact ⟨_, rfl, hm, ⟨fn, fo, rfl, (hmo0.more hn.size)⟩⟩)) ?_
 refine .o1 (tk rfl rfl fun _ w hn k => (by
       obtain ⟨fp, fq, fr, eb⟩ : (OP aT.heap.size 74 .u16 ((cleanV v).s)) _ _ := k.dep 2 37 (by kernel_rfl) (by kernel_rfl)
       exact ⟨_, v_assign rfl fr, ⟨fp, fq, rfl, eb⟩⟩)) ?_
 exact .t (fun _ w hn k => ⟨_, v_assign rfl rfl, rfl⟩) .nil
 refine aftI ax bz aU fun ec ga fF c1 c3 fG bB => ?_
 obtain ⟨aH, ao, bg, c5⟩ : (OP aT.heap.size 74 .u16 ((cleanV v).s)) _ _ := bB.got 3 2 rfl (by kernel_rfl)
 have bg : ec.eval (.tmp 2) = sv aH ((cleanV v).s) ao := bg
 have ed := bB.ge 4 3 rfl
 have c7 := c5.more aU.size
 refine st_nil (c0 _ _ ?_)
 refine wp_ret (ret_k c1 (v := .tuple #[sv aH ((cleanV v).s) ao, iv 0]) (res_tt rfl bg ed _) ?_)
 have ad : (textV v).1 = ((cleanV v).s) := by first | rfl | (simp only [textV, ac, aa, ab, ae, af, ah, bsm] <;> rfl) | (exfalso; omega)
 exact ⟨aH, ao, (by show Ending.returned (.tuple #[sv aH ((cleanV v).s) ao, iv 0]) = Ending.returned (.tuple #[sv aH ((textV v).1) ao, iv ((textV v).2)]); (first | rfl | (simp only [textV, ac, aa, ab, ae, af, ah, ad, bsm] <;> rfl) | (exfalso; omega))), (by rw [ad]; exact c7), c3⟩
 have b4 := oF ah
 have c9 := hB b3 ah
 refine wp_cond_false c9 ?_
 refine wp_skip ?_
 refine dx _ _ ?_
 refine wp_seq_k fun gb da => ?_
 refine wp_g0 [true, true] [] 38
   [ve (sv none ([]) 0), ve (iv 3)] ax (.eq (.eq (.nil))) ?_ ?_
 exact .t (fun _ w hn k => ⟨_, v_assign rfl rfl, rfl⟩) <| .t (fun _ w hn k => ⟨_, v_assign rfl rfl, rfl⟩) .nil
 refine aftI ax bz aU fun gc gd fH db dc fI bC => ?_
 have ee := bC.ge 0 2 rfl
 have ef := bC.ge 1 3 rfl
 refine st_nil (da _ _ ?_)
 refine wp_ret (ret_k db (v := .tuple #[sv none ([]) 0, iv 3]) (res_tt rfl ee ef _) ?_)
 have ad : (textV v).1 = [] := by first | rfl | (simp only [textV, ac, aa, ab, ae, af, ah, bsm] <;> rfl) | (exfalso; omega)
 exact ⟨none, 0, (by show Ending.returned (.tuple #[sv none ([]) 0, iv 3]) = Ending.returned (.tuple #[sv none ((textV v).1) 0, iv ((textV v).2)]); (first | rfl | (simp only [textV, ac, aa, ab, ae, af, ah, ad, bsm] <;> rfl) | (exfalso; omega))), (by rw [ad]; exact (SOwn.nil _ _ _ _)), dc⟩
def join_c_P (v : Vl) (Av : Option Addr) (cv : Nat) (Bv : Option Addr) (dv : Nat) (u : Vl) (Au : Option Addr) (cu : Nat) (Bu : Option Addr) (du : Nat) (w : World) (en : Ending) (w' : World) : Prop := ∃ (Ar0 : Option Addr) (cr0 : Nat) (Ar1 : Option Addr) (cr1 : Nat), en = .returned (.tuple #[vv (joinV v u).1 Ar0 cr0 Ar1 cr1, iv ((joinV v u).2)]) ∧ SRow w' .u32 Ar0 ((joinV v u).1.mag) cr0 ∧ SRow w' .u16 Ar1 ((joinV v u).1.s) cr1 ∧ New w w'
theorem join_c (v : Vl) (Av : Option Addr) (cv : Nat) (Bv : Option Addr) (dv : Nat) (u : Vl) (Au : Option Addr) (cu : Nat) (Bu : Option Addr) (du : Nat) (w : World) (hmv : SRow w .u32 Av v.mag cv) (hsv : SRow w .u16 Bv v.s dv) (hmu : SRow w .u32 Au u.mag cu) (hsu : SRow w .u16 Bu u.s du) (hvv : VOk v) (hvu : VOk u) (HT : ItoaOk w) : Calls Tryz.prog 35 #[vv v Av cv Bv dv, vv u Au cu Bu du] w (join_c_P v Av cv Bv dv u Au cu Bu du w) := by
 refine enter_abs Tryz.func35 rfl fun a0 a8 ew hp => ?_
 have a8 : a0.tmps.size = 40 := a8
 have a9 : New w w := Upd.refl _ _
 have hp0 : a0.eval (.tmp 0) = vv v Av cv Bv dv := hp 0 _ rfl
 have hp1 : a0.eval (.tmp 1) = vv u Au cu Bu du := hp 1 _ rfl
 have htl1 := text_len hvv
 have htl2 := text_len hvu
 refine wp_seq_k fun K1 ex => ?_
 refine wp_g [true, true, true, true] [] [] 40
   [IsNew w 29 [iv v.k, iv v.nk, iv v.nn, .bool v.neg, sv Av v.mag cv, sv Bv v.s dv, iv v.ref], IsNew w 29 [iv u.k, iv u.nk, iv u.nn, .bool u.neg, sv Au u.mag cu, sv Bu u.s du, iv u.ref], IsNew w 29 [iv 0, iv 0, iv 0, .bool false, sv none ([]) 0, sv none ([]) 0, iv 0], ve (iv 0)]
   [0, 1, 2] (newsCons (fun v w h => IsNew.old h) (newsCons (fun v w h => IsNew.old h) (newsCons (fun v w h => IsNew.old h) newsNil))) a8 (.nw (.nw (.nw (.eq (.nil))))) ?_ (fun i h => by cases h) ?_
 exact .o2 (step_allocN (cs := [iv v.k, iv v.nk, iv v.nn, .bool v.neg, sv Av v.mag cv, sv Bv v.s dv, iv v.ref]) (t := 29) rfl (noG rfl) (fun _ w hn k => v_box rfl (k.fx 0 hp0) (fun w => rfl)) (fun q _ hq hb => ⟨q, rfl, hq, hb⟩)) <| .o2 (step_allocN (cs := [iv u.k, iv u.nk, iv u.nn, .bool u.neg, sv Au u.mag cu, sv Bu u.s du, iv u.ref]) (t := 29) rfl (noG rfl) (fun _ w hn k => v_box rfl (k.fx 1 hp1) (fun w => rfl)) (fun q _ hq hb => ⟨q, rfl, hq, hb⟩)) <| .o2 (step_allocN (cs := [iv 0, iv 0, iv 0, .bool false, sv none ([]) 0, sv none ([]) 0, iv 0]) (t := 29) rfl (noG rfl) (fun _ w hn k => rfl) (fun q _ hq hb => ⟨q, rfl, hq, hb⟩)) <| .t (fun _ w hn k => ⟨_, v_assign rfl rfl, rfl⟩) .nil
 refine aftI a8 ew a9 fun a2 w3 dw ey aC f7 a3 => ?_
 obtain ⟨q9, h8, dD, dE⟩ : IsNew _ _ _ _ _ := a3.got 0 2 rfl (by kernel_rfl)
 obtain ⟨ez, dx, dF, dG⟩ : IsNew _ _ _ _ _ := a3.got 1 3 rfl (by kernel_rfl)
 obtain ⟨aI, bw, dH, dI⟩ : IsNew _ _ _ _ _ := a3.got 2 4 rfl (by kernel_rfl)
 have hne20 : q9 ≠ aI := a3.ne 0 2 2 4 h8 bw
 have hne21 : ez ≠ aI := a3.ne 1 2 3 4 dx bw
 have fp := Nat.le_trans a9.size dD
 have fq := Nat.le_trans a9.size dF
 have fr := Nat.le_trans a9.size dH
 refine st_nil (ex _ _ (wp_seq_k fun f8 dJ => ?_))
 refine wp_g0 [true, true, true, true, true, true, true] [] 40
   [ve (vv v Av cv Bv dv), (fun (v_ : Value) (W : World) => ∃ (A3 : Option Addr) (c4 : Nat), v_ = .tuple #[sv A3 ((textV v).1) c4, iv ((textV v).2)] ∧ SOwn W w3.heap.size 74 .u16 A3 ((textV v).1) c4), (fun (v_ : Value) (W : World) => ∃ (A9 : Option Addr) (ao : Nat), v_ = .tuple #[sv A9 ((textV v).1) ao, iv ((textV v).2)] ∧ SOwn W w3.heap.size 74 .u16 A9 ((textV v).1) ao),
    (OP w3.heap.size 74 .u16 ((textV v).1)), ve (iv ((textV v).2)),
    (OP w3.heap.size 74 .u16 ((textV v).1)), ve (iv ((textV v).2))] dw (.eq (.cons (fun _ _ _ n ⟨_, _, e, h⟩ => ⟨_, _, e, h.new_ n⟩) (.cons (fun v W W' hn ⟨A9, ao, he, h0⟩ => ⟨A9, ao, he, h0.new_ hn⟩) (.cons (fun _ _ _ n ⟨_, _, e, h⟩ => ⟨_, _, e, h.new_ n⟩) (.eq (.cons (fun _ _ _ n ⟨_, _, e, h⟩ => ⟨_, _, e, h.new_ n⟩) (.eq (.nil)))))))) ?_ ?_
 refine .t (fun _ w hn k => ⟨_, v_load rfl (k.fx 2 h8) (l_agg Tryz.isAgg29 Tryz.sizeOf29 (dE.new_ hn) rfl), rfl⟩) ?_
 refine .o1 (tkC rfl (noG rfl) rfl fun _ w hn k => (by
       refine ⟨#[vv v Av cv Bv dv], _, args1 (k.eq1 0 10 rfl), fun w => by kernel_rfl, ctext_c v _ _ _ _ _ (hmv.new_ (aC.transNew hn)) (hsv.new_ (aC.transNew hn)) hvv (HT.up (aC.transNew hn)), ?_⟩
       rintro e w' ⟨A1, c2, rfl, hmo0, hm⟩
       exact ⟨_, rfl, hm, ⟨A1, c2, rfl, (hmo0.more hn.size)⟩⟩)) ?_
 refine .o1 (tk rfl rfl fun _ w hn k => (by
       obtain ⟨A5, c6, e7, eE⟩ : (fun (v_ : Value) (W : World) => ∃ (A3 : Option Addr) (c4 : Nat), v_ = .tuple #[sv A3 ((textV v).1) c4, iv ((textV v).2)] ∧ SOwn W w3.heap.size 74 .u16 A3 ((textV v).1) c4) _ _ := k.dep 1 11 (by kernel_rfl) (by kernel_rfl)
       exact ⟨_, v_move rfl e7, ⟨A5, c6, rfl, eE⟩⟩)) ?_
 refine .o1 (tk rfl rfl fun _ w hn k => (by
       obtain ⟨eF, eG, eH, dK⟩ : (fun (v_ : Value) (W : World) => ∃ (A9 : Option Addr) (ao : Nat), v_ = .tuple #[sv A9 ((textV v).1) ao, iv ((textV v).2)] ∧ SOwn W w3.heap.size 74 .u16 A9 ((textV v).1) ao) _ _ := k.dep 2 9 (by kernel_rfl) (by kernel_rfl)
       exact ⟨_, v_extract rfl eH rfl, ⟨eF, eG, rfl, dK⟩⟩)) ?_
 refine .o1 (tk rfl rfl fun _ w hn k => (by
       obtain ⟨f9, ga, eI, fs⟩ : (fun (v_ : Value) (W : World) => ∃ (A9 : Option Addr) (ao : Nat), v_ = .tuple #[sv A9 ((textV v).1) ao, iv ((textV v).2)] ∧ SOwn W w3.heap.size 74 .u16 A9 ((textV v).1) ao) _ _ := k.dep 2 9 (by kernel_rfl) (by kernel_rfl)
       exact ⟨_, v_extract rfl eI rfl, rfl⟩)) ?_
 refine .o1 (tk rfl rfl fun _ w hn k => (by
       obtain ⟨eJ, eK, eL, dL⟩ : (OP w3.heap.size 74 .u16 ((textV v).1)) _ _ := k.dep 3 12 (by kernel_rfl) (by kernel_rfl)
       exact ⟨_, v_assign rfl eL, ⟨eJ, eK, rfl, dL⟩⟩)) ?_
 exact .a (fun k => k.eq1 4 13 rfl) .nil
 refine aftI dw ey aC fun eM gb aJ bx bz bA aK => ?_
 have dy := aK.fx 3 dx
 have dz := aK.fx 4 bw
 obtain ⟨ba, aL, bb, dM⟩ : (OP w3.heap.size 74 .u16 ((textV v).1)) _ _ := aK.got 5 6 rfl (by kernel_rfl)
 have bb : eM.eval (.tmp 6) = sv ba ((textV v).1) aL := bb
 have bd := aK.ge 6 7 rfl
 have bB := dG.new_ bA
 have bC := dI.new_ bA
 have bD := dM.more aC.size
 refine st_nil (dJ _ _ (wp_seq_k fun gc dN => ?_))
 refine wp_seq_k fun gd bE => ?_
 rcases bc (decide (((textV v).2) = 0)) with aa | aa
 have ch := oT aa
 refine wp_g0 [true, true] [] 40
   [ve (iv ((textV v).2)), vF] aJ (.eq (.eq (.nil))) ?_ ?_
 exact .m (fun k => k.fx 7 bd) <| .t (fun _ w hn k => ⟨_, v_bin rfl (k.eq1 0 14 rfl) rfl (fun _ => rfl) (r_neq aa), rfl⟩) .nil
 refine aftI aJ bx bz fun gf ar bF dO aD a4 aE => ?_
 have eN := aE.fx 3 dy
 have eO := aE.fx 4 dz
 have eP := aE.fx 6 bb
 have gg := aE.fx 7 bd
 have eQ := aE.ge 1 15 rfl
 have dP := bB.new_ a4
 have dQ := bC.new_ a4
 have dR := bD.new_ a4
 refine st_nil (bE _ _ ?_)
 refine wp_cond_false eQ ?_
 refine wp_skip ?_
 refine dN _ _ ?_
 refine wp_seq_k fun gh dS => ?_
 refine wp_g0 [true, true, true, true, true, true, true] [] 40
   [ve (vv u Au cu Bu du), (fun (v_ : Value) (W : World) => ∃ (aF : Option Addr) (aG : Nat), v_ = .tuple #[sv aF ((textV u).1) aG, iv ((textV u).2)] ∧ SOwn W ar.heap.size 74 .u16 aF ((textV u).1) aG), (fun (v_ : Value) (W : World) => ∃ (ap : Option Addr) (aq : Nat), v_ = .tuple #[sv ap ((textV u).1) aq, iv ((textV u).2)] ∧ SOwn W ar.heap.size 74 .u16 ap ((textV u).1) aq),
    (OP ar.heap.size 74 .u16 ((textV u).1)), ve (iv ((textV u).2)),
    (OP ar.heap.size 74 .u16 ((textV u).1)), ve (iv ((textV u).2))] bF (.eq (.cons (fun _ _ _ n ⟨_, _, e, h⟩ => ⟨_, _, e, h.new_ n⟩) (.cons (fun v W W' hn ⟨ap, aq, he, h0⟩ => ⟨ap, aq, he, h0.new_ hn⟩) (.cons (fun _ _ _ n ⟨_, _, e, h⟩ => ⟨_, _, e, h.new_ n⟩) (.eq (.cons (fun _ _ _ n ⟨_, _, e, h⟩ => ⟨_, _, e, h.new_ n⟩) (.eq (.nil)))))))) ?_ ?_
 refine .t (fun _ w hn k => ⟨_, v_load rfl (k.fx 3 eN) (l_agg Tryz.isAgg29 Tryz.sizeOf29 (dP.new_ hn) rfl), rfl⟩) ?_
 refine .o1 (tkC rfl (noG rfl) rfl fun _ w hn k => (by
       refine ⟨#[vv u Au cu Bu du], _, args1 (k.eq1 0 19 rfl), fun w => by kernel_rfl, ctext_c u _ _ _ _ _ (hmu.new_ (aD.transNew hn)) (hsu.new_ (aD.transNew hn)) hvu (HT.up (aD.transNew hn)), ?_⟩
       rintro e w' ⟨eV, eW, rfl, hmo0, hm⟩
       exact ⟨_, rfl, hm, ⟨eV, eW, rfl, (hmo0.more hn.size)⟩⟩)) ?_
 refine .o1 (tk rfl rfl fun _ w hn k => (by
       obtain ⟨eX, eY, eZ, dT⟩ : (fun (v_ : Value) (W : World) => ∃ (aF : Option Addr) (aG : Nat), v_ = .tuple #[sv aF ((textV u).1) aG, iv ((textV u).2)] ∧ SOwn W ar.heap.size 74 .u16 aF ((textV u).1) aG) _ _ := k.dep 1 20 (by kernel_rfl) (by kernel_rfl)
       exact ⟨_, v_move rfl eZ, ⟨eX, eY, rfl, dT⟩⟩)) ?_
 refine .o1 (tk rfl rfl fun _ w hn k => (by
       obtain ⟨e0, e1, e2, dU⟩ : (fun (v_ : Value) (W : World) => ∃ (ap : Option Addr) (aq : Nat), v_ = .tuple #[sv ap ((textV u).1) aq, iv ((textV u).2)] ∧ SOwn W ar.heap.size 74 .u16 ap ((textV u).1) aq) _ _ := k.dep 2 18 (by kernel_rfl) (by kernel_rfl)
       exact ⟨_, v_extract rfl e2 rfl, ⟨e0, e1, rfl, dU⟩⟩)) ?_
 refine .o1 (tk rfl rfl fun _ w hn k => (by
       obtain ⟨gi, gj, e3, ft⟩ : (fun (v_ : Value) (W : World) => ∃ (ap : Option Addr) (aq : Nat), v_ = .tuple #[sv ap ((textV u).1) aq, iv ((textV u).2)] ∧ SOwn W ar.heap.size 74 .u16 ap ((textV u).1) aq) _ _ := k.dep 2 18 (by kernel_rfl) (by kernel_rfl)
       exact ⟨_, v_extract rfl e3 rfl, rfl⟩)) ?_
 refine .o1 (tk rfl rfl fun _ w hn k => (by
       obtain ⟨e4, e5, e6, dV⟩ : (OP ar.heap.size 74 .u16 ((textV u).1)) _ _ := k.dep 3 21 (by kernel_rfl) (by kernel_rfl)
       exact ⟨_, v_assign rfl e6, ⟨e4, e5, rfl, dV⟩⟩)) ?_
 exact .a (fun k => k.eq1 4 22 rfl) .nil
 refine aftI bF dO aD fun e8 gk aM bG bH bI aN => ?_
 have dA := aN.fx 4 eO
 have dB := aN.fx 6 eP
 obtain ⟨be, aO, bf, dW⟩ : (OP ar.heap.size 74 .u16 ((textV u).1)) _ _ := aN.got 5 8 rfl (by kernel_rfl)
 have bf : e8.eval (.tmp 8) = sv be ((textV u).1) aO := bf
 have bg := aN.ge 6 7 rfl
 have bJ := dQ.new_ bI
 have bK := dR.new_ bI
 have bL := dW.more aD.size
 refine st_nil (dS _ _ (wp_seq_k fun gl dX => ?_))
 refine wp_block ?_
 refine wp_seq_k fun gm bM => ?_
 rcases bc (decide (((textV u).2) = 0)) with ab | ab
 have ci := oT ab
 refine wp_g0 [true, true, true] [] 40
   [ve (iv ((textV u).2)), vF, vF] aM (.eq (.eq (.eq (.nil)))) ?_ ?_
 exact .m (fun k => k.fx 7 bg) <| .t (fun _ w hn k => ⟨_, v_bin rfl (k.eq1 0 24 rfl) rfl (fun _ => rfl) (r_neq ab), rfl⟩) <| .a (fun k => k.eq1 1 25 rfl) .nil
 refine aftI aM bG bH fun gn go aP bN bO a5 aH => ?_
 have dC := aH.fx 4 dA
 have bh := aH.fx 6 dB
 have bi := aH.fx 8 bf
 have gp := aH.fx 7 bg
 have e9 := aH.ge 2 23 rfl
 have bP := bJ.new_ a5
 have bQ := bK.new_ a5
 have bR := bL.new_ a5
 refine st_nil (bM _ _ ?_)
 refine wp_cond_false e9 ?_
 refine wp_seq_k fun gq bS => ?_
 rcases bc (decide ((((((textV v).1).length) + (((textV u).1).length) : Nat) : Int) ≤ 4096)) with ae | ae
 have cj := oT ae
 refine wp_g0 [true, true, true, true, true, true, true] [] 40
   [ve (sv ba ((textV v).1) aL), ve (iv (((textV v).1).length : Int)), ve (sv be ((textV u).1) aO), ve (iv (((textV u).1).length : Int)), ve (iv (((((textV v).1).length) + (((textV u).1).length) : Nat) : Int)), vF, vF] aP (.eq (.eq (.eq (.eq (.eq (.eq (.eq (.nil)))))))) ?_ ?_
 exact .m (fun k => k.fx 6 bh) <| .t (fun _ w hn k => ⟨_, v_lenR rfl elU (k.eq1 0 29 rfl), rfl⟩) <| .m (fun k => k.fx 8 bi) <| .t (fun _ w hn k => ⟨_, v_lenR rfl elU (k.eq1 2 31 rfl), rfl⟩) <| .t (fun _ w hn k => ⟨_, v_bin rfl (k.eq1 1 30 rfl) (k.eq1 3 32 rfl) (fun _ => rfl) (n_add (by omega) (IntWalk.i64_in _ (by omega))), rfl⟩) <| .t (fun _ w hn k => ⟨_, v_bin rfl (k.eq1 4 33 rfl) rfl (fun _ => rfl) (r_gtrK ae), rfl⟩) <| .a (fun k => k.eq1 5 34 rfl) .nil
 refine aftI aP bN bO fun fu fv bj cl cm aQ ax => ?_
 have dY := ax.fx 4 dC
 have dZ := ax.fx 6 bh
 have d0 := ax.fx 8 bi
 have d1 := ax.ge 6 28 rfl
 have cn := bP.new_ aQ
 have co := bQ.new_ aQ
 have cp := bR.new_ aQ
 refine st_nil (bS _ _ ?_)
 refine wp_cond_false d1 ?_
 refine wp_skip ?_
 refine dX _ _ ?_
 refine wp_seq_k fun fw cq => ?_
 have hjl : ((textV v).1 ++ (textV u).1).length ≤ 4096 := by rw [List.length_append]; omega
 refine wp_g0 [true, true, false, false, false, false] [(2, false), (3, false), (4, false), (5, true)] 40
   [ve (sv ba ((textV v).1) aL), ve (sv be ((textV u).1) aO), vt, vt, vt, vt] bj (.eq (.eq (.tt (.tt (.tt (.tt (.nil))))))) ?_ ?_
 exact .m (fun k => k.fx 6 dZ) <| .m (fun k => k.fx 8 d0) <| .off <| .off <| .off <| .off .nil
 refine aftI bj cl cm fun bT fy bk cr bl aR aS => ?_
 have d2 := aS.fx 4 dY
 have d3 := aS.ge 0 36 rfl
 have d4 := aS.ge 1 37 rfl
 have ct := cn.new_ aR
 have aT := co.new_ aR
 have cw := cp.new_ aR
 have hw136 := bl.size
 refine st_act rfl rfl fun fz cx => a_append (k := .u16) (b := w.heap.size) rfl elU d3 aT d4 cw.row (by first | omega | (simp only [List.length_nil, List.length_cons, List.length_append, List.length_take, List.length_drop, List.length_replicate, List.length_set]; omega)) (by first | omega | (simp only [List.length_nil, List.length_cons, List.length_append, List.length_take, List.length_drop, List.length_replicate, List.length_set]; omega)) hw136 fun aU ay fA bm hg132 => cx _ _ trivial ?_
 have cy := bl.ownGrown aT hg132
 have cz := ct.ownGrown aT (by decide) hg132
 obtain ⟨a6, au⟩ : ∃ a', a' = bT.put (some 38) (sv aU ((textV v).1 ++ (textV u).1) ay) := ⟨_, rfl⟩
 have bn := pz au bk
 have cA := pd au cr
 have d5 := pn au d2 (by decide)
 have bU : a6.eval (.tmp 38) = sv aU ((textV v).1 ++ (textV u).1) ay := by rw [au]; exact put_same _ _ _ (by rw [bk]; decide)
 show stepsTo _ _ _ _ _ (bT.put (some 38) (sv aU ((textV v).1 ++ (textV u).1) ay)) _
 rw [← au]
 refine st_act rfl rfl fun fB cB => ?_
 refine a_call (args := #[sv aU ((textV v).1 ++ (textV u).1) ay]) rfl (args1 bU) (fun w => by kernel_rfl) (cstr_c _ ((textV v).1 ++ (textV u).1) _ _ bm.row (by first | omega | (simp only [List.length_nil, List.length_take, List.length_drop]; omega) | (simp only [List.length_cons, List.length_nil]; omega))) ?_
 rintro fC fD ⟨af, ac, ag, ad, rfl, cC, cD, aV⟩
 refine ⟨_, rfl, cB _ _ trivial ?_⟩
 have az := cz.new_ aV
 have cE := bm.new_ aV
 have cF := cy.transNew aV
 obtain ⟨a7, am⟩ : ∃ a', a' = a6.put (some 39) (vv (strV ((textV v).1 ++ (textV u).1)) af ac ag ad) := ⟨_, rfl⟩
 have bo := pz am bn
 have cG := pd am cA
 have bV := pn am d5 (by decide)
 have d6 := pn am bU (by decide)
 have bW : a7.eval (.tmp 39) = vv (strV ((textV v).1 ++ (textV u).1)) af ac ag ad := by rw [am]; exact put_same _ _ _ (by rw [bn]; decide)
 show stepsTo _ _ _ _ _ (a6.put (some 39) (vv (strV ((textV v).1 ++ (textV u).1)) af ac ag ad)) _
 rw [← am]
 obtain ⟨d7, bX, bY, aA, fa⟩ := s_many (P := Tryz.prog) (t := 29) (i := 0) [iv ((strV ((textV v).1 ++ (textV u).1)).k), iv ((strV ((textV v).1 ++ (textV u).1)).nk), iv ((strV ((textV v).1 ++ (textV u).1)).nn), .bool ((strV ((textV v).1 ++ (textV u).1)).neg), sv af ((strV ((textV v).1 ++ (textV u).1)).mag) ac, sv ag ((strV ((textV v).1 ++ (textV u).1)).s) ad, iv ((strV ((textV v).1 ++ (textV u).1)).ref)] Tryz.sizeOf29 rfl rfl rfl az lb
 have cH : Blk d7 aI 29 [iv ((strV ((textV v).1 ++ (textV u).1)).k), iv ((strV ((textV v).1 ++ (textV u).1)).nk), iv ((strV ((textV v).1 ++ (textV u).1)).nn), .bool ((strV ((textV v).1 ++ (textV u).1)).neg), sv af ((strV ((textV v).1 ++ (textV u).1)).mag) ac, sv ag ((strV ((textV v).1 ++ (textV u).1)).s) ad, iv ((strV ((textV v).1 ++ (textV u).1)).ref)] := bY
 refine st_act rfl rfl fun fE cI => a_store' rfl bV bW bX (cI _ _ trivial ?_)
 have fb := cE.far az aA (by decide)
 have cJ := cC.far az aA (by first | rfl | decide | simp [notK])
 have cK := cD.far az aA (by first | rfl | decide | simp [notK])
 have cL := cF.trans aA (fun _ h b => by subst b; omega)
 refine st_take rfl rfl (y_assign (v := iv 0) rfl rfl) rfl ?_
 obtain ⟨d8, ah⟩ : ∃ a', a' = a7.put (some 5) (iv 0) := ⟨_, rfl⟩
 have fc := pz ah bo
 have cM := pd ah cG
 have d9 := pn ah bV (by decide)
 have fF := pn ah d6 (by decide)
 have fG := pn ah bW (by decide)
 have ea : d8.eval (.tmp 5) = iv 0 := by rw [ah]; exact put_same _ _ _ (by rw [bo]; decide)
 show stepsTo _ _ _ _ _ (a7.put (some 5) (iv 0)) _
 rw [← ah]
 refine st_nil (cq _ _ ?_)
 refine wp_ret (ret_k cM (v := .tuple #[vv (strV ((textV v).1 ++ (textV u).1)) af ac ag ad, iv 0]) (res_ct rfl d9 ea (l_agg Tryz.isAgg29 Tryz.sizeOf29 cH rfl)) ?_)
 have ak : (joinV v u).1.mag = (strV ((textV v).1 ++ (textV u).1)).mag := by first | rfl | (simp only [joinV, Vl.z, aa, ab, ae, bsm] <;> rfl) | (exfalso; omega)
 have al : (joinV v u).1.s = (strV ((textV v).1 ++ (textV u).1)).s := by first | rfl | (simp only [joinV, Vl.z, aa, ab, ae, bsm] <;> rfl) | (exfalso; omega)
 exact ⟨af, ac, ag, ad, (by show Ending.returned (.tuple #[vv (strV ((textV v).1 ++ (textV u).1)) af ac ag ad, iv 0]) = Ending.returned (.tuple #[vv (joinV v u).1 af ac ag ad, iv ((joinV v u).2)]); (first | rfl | (simp only [joinV, Vl.z, aa, ab, ae, ak, al, bsm] <;> rfl) | (exfalso; omega))), (by rw [ak]; exact cJ), (by rw [al]; exact cK), cL⟩
 have cj := oF ae
 refine wp_g0 [true, true, true, true, true, true, true] [] 40
   [ve (sv ba ((textV v).1) aL), ve (iv (((textV v).1).length : Int)), ve (sv be ((textV u).1) aO), ve (iv (((textV u).1).length : Int)), ve (iv (((((textV v).1).length) + (((textV u).1).length) : Nat) : Int)), vT, vT] aP (.eq (.eq (.eq (.eq (.eq (.eq (.eq (.nil)))))))) ?_ ?_
 exact .m (fun k => k.fx 6 bh) <| .t (fun _ w hn k => ⟨_, v_lenR rfl elU (k.eq1 0 29 rfl), rfl⟩) <| .m (fun k => k.fx 8 bi) <| .t (fun _ w hn k => ⟨_, v_lenR rfl elU (k.eq1 2 31 rfl), rfl⟩) <| .t (fun _ w hn k => ⟨_, v_bin rfl (k.eq1 1 30 rfl) (k.eq1 3 32 rfl) (fun _ => rfl) (n_add (by omega) (IntWalk.i64_in _ (by omega))), rfl⟩) <| .t (fun _ w hn k => ⟨_, v_bin rfl (k.eq1 4 33 rfl) rfl (fun _ => rfl) (r_gtrK ae), rfl⟩) <| .a (fun k => k.eq1 5 34 rfl) .nil
 refine aftI aP bN bO fun fH fI bp cN cO aW aB => ?_
 have eb := aB.fx 4 dC
 have fJ := aB.fx 6 bh
 have fK := aB.fx 8 bi
 have ec := aB.ge 6 28 rfl
 have cP := bP.new_ aW
 have fd := bQ.new_ aW
 have fe := bR.new_ aW
 refine st_nil (bS _ _ ?_)
 refine wp_cond_true ec ?_
 refine wp_seq_k fun fL cQ => ?_
 refine wp_g0 [true, false, false] [(1, false), (2, true)] 40
   [ve (vv (Vl.mk 0 0 0 false [] [] 0) none 0 none 0), vt, vt] bp (.eq (.tt (.tt (.nil)))) ?_ ?_
 exact .t (fun _ w hn k => ⟨_, v_build (ps := []) rfl parts0 (by kernel_rfl), rfl⟩) <| .off <| .off .nil
 refine aftI bp cN cO fun bZ fM bq cR cS cT br => ?_
 have b0 := br.fx 4 eb
 have b1 := br.ge 0 35 rfl
 have cU := cP.new_ cT
 obtain ⟨ed, b2, b3, cV, ff⟩ := s_many (P := Tryz.prog) (t := 29) (i := 0) [iv 0, iv 0, iv 0, .bool false, sv none ([]) 0, sv none ([]) 0, iv 0] Tryz.sizeOf29 rfl rfl rfl cU lb
 have cW : Blk ed aI 29 [iv 0, iv 0, iv 0, .bool false, sv none ([]) 0, sv none ([]) 0, iv 0] := b3
 refine st_act rfl rfl fun fN cX => a_store' rfl b0 b1 b2 (cX _ _ trivial ?_)
 have cY := cS.trans cV (fun _ h b => by subst b; omega)
 refine st_take rfl rfl (y_assign (v := iv 3) rfl rfl) rfl ?_
 obtain ⟨ee, an⟩ : ∃ a', a' = bZ.put (some 5) (iv 3) := ⟨_, rfl⟩
 have fg := pz an bq
 have cZ := pd an cR
 have ef := pn an b0 (by decide)
 have fO := pn an b1 (by decide)
 have eg : ee.eval (.tmp 5) = iv 3 := by rw [an]; exact put_same _ _ _ (by rw [bq]; decide)
 show stepsTo _ _ _ _ _ (bZ.put (some 5) (iv 3)) _
 rw [← an]
 refine st_nil (cQ _ _ ?_)
 refine wp_ret (ret_k cZ (v := .tuple #[vv (Vl.mk 0 0 0 false [] [] 0) none 0 none 0, iv 3]) (res_ct rfl ef eg (l_agg Tryz.isAgg29 Tryz.sizeOf29 cW rfl)) ?_)
 have ak : (joinV v u).1.mag = [] := by first | rfl | (simp only [joinV, Vl.z, aa, ab, ae, bsm] <;> rfl) | (exfalso; omega)
 have al : (joinV v u).1.s = [] := by first | rfl | (simp only [joinV, Vl.z, aa, ab, ae, bsm] <;> rfl) | (exfalso; omega)
 exact ⟨none, 0, none, 0, (by show Ending.returned (.tuple #[vv (Vl.mk 0 0 0 false [] [] 0) none 0 none 0, iv 3]) = Ending.returned (.tuple #[vv (joinV v u).1 none 0 none 0, iv ((joinV v u).2)]); (first | rfl | (simp only [joinV, Vl.z, aa, ab, ae, ak, al, bsm] <;> rfl) | (exfalso; omega))), (by rw [ak]; exact (SRow.nil _ _)), (by rw [al]; exact (SRow.nil _ _)), cY⟩
 have ci := oF ab
 refine wp_g0 [true, true, true] [] 40
   [ve (iv ((textV u).2)), vT, vT] aM (.eq (.eq (.eq (.nil)))) ?_ ?_
 exact .m (fun k => k.fx 7 bg) <| .t (fun _ w hn k => ⟨_, v_bin rfl (k.eq1 0 24 rfl) rfl (fun _ => rfl) (r_neq ab), rfl⟩) <| .a (fun k => k.eq1 1 25 rfl) .nil
 refine aftI aM bG bH fun fP fQ bs c0 c1 aX av => ?_
 have eh := av.fx 4 dA
 have fR := av.fx 6 dB
 have fS := av.fx 8 bf
 have ei := av.fx 7 bg
 have ej := av.ge 2 23 rfl
 have c3 := bJ.new_ aX
 have fh := bK.new_ aX
 have fi := bL.new_ aX
 refine st_nil (bM _ _ ?_)
 refine wp_cond_true ej ?_
 refine wp_seq_k fun fT c5 => ?_
 refine wp_g [true, true, false, false] [1] [(2, false), (3, true)] 40
   [ve (vv (Vl.mk 0 0 0 false [] [] 0) none 0 none 0), ve (iv ((textV u).2)), vt, vt]
   [] newsNil bs (.eq (.eq (.tt (.tt (.nil))))) ?_ ?_ ?_
 refine .t (fun _ w hn k => ⟨_, v_build (ps := []) rfl parts0 (by kernel_rfl), rfl⟩) ?_
 refine .o3 ?_
 exact .off <| .off .nil
 intro i h
 simp only [List.contains_eq_mem, List.mem_cons, List.not_mem_nil, or_false, decide_eq_true_eq] at h
 subst h
 exact eager_take rfl rfl fun _ w hn k => ⟨iv ((textV u).2), fun w => v_move rfl (k.fx 7 ei), rfl⟩
 refine aftI bs c0 c1 fun b4 fU bt c7 c8 c9 aY => ?_
 have b5 := aY.fx 4 eh
 have b6 := aY.ge 0 26 rfl
 have b7 := aY.ge 1 27 rfl
 have da := c3.new_ c9
 obtain ⟨ek, b8, b9, db, fj⟩ := s_many (P := Tryz.prog) (t := 29) (i := 0) [iv 0, iv 0, iv 0, .bool false, sv none ([]) 0, sv none ([]) 0, iv 0] Tryz.sizeOf29 rfl rfl rfl da lb
 have dc : Blk ek aI 29 [iv 0, iv 0, iv 0, .bool false, sv none ([]) 0, sv none ([]) 0, iv 0] := b9
 refine st_act rfl rfl fun fV dd => a_store' rfl b5 b6 b8 (dd _ _ trivial ?_)
 have de := c8.trans db (fun _ h b => by subst b; omega)
 refine st_take rfl rfl (y_assign (v := iv ((textV u).2)) rfl b7) rfl ?_
 obtain ⟨el, ai⟩ : ∃ a', a' = b4.put (some 5) (iv ((textV u).2)) := ⟨_, rfl⟩
 have fk := pz ai bt
 have df := pd ai c7
 have em := pn ai b5 (by decide)
 have fW := pn ai b6 (by decide)
 have fX := pn ai b7 (by decide)
 have en : el.eval (.tmp 5) = iv ((textV u).2) := by rw [ai]; exact put_same _ _ _ (by rw [bt]; decide)
 show stepsTo _ _ _ _ _ (b4.put (some 5) (iv ((textV u).2))) _
 rw [← ai]
 refine st_nil (c5 _ _ ?_)
 refine wp_ret (ret_k df (v := .tuple #[vv (Vl.mk 0 0 0 false [] [] 0) none 0 none 0, iv ((textV u).2)]) (res_ct rfl em en (l_agg Tryz.isAgg29 Tryz.sizeOf29 dc rfl)) ?_)
 have ak : (joinV v u).1.mag = [] := by first | rfl | (simp only [joinV, Vl.z, aa, ab, bsm] <;> rfl) | (exfalso; omega)
 have al : (joinV v u).1.s = [] := by first | rfl | (simp only [joinV, Vl.z, aa, ab, bsm] <;> rfl) | (exfalso; omega)
 exact ⟨none, 0, none, 0, (by show Ending.returned (.tuple #[vv (Vl.mk 0 0 0 false [] [] 0) none 0 none 0, iv ((textV u).2)]) = Ending.returned (.tuple #[vv (joinV v u).1 none 0 none 0, iv ((joinV v u).2)]); (first | rfl | (simp only [joinV, Vl.z, aa, ab, ak, al, bsm] <;> rfl) | (exfalso; omega))), (by rw [ak]; exact (SRow.nil _ _)), (by rw [al]; exact (SRow.nil _ _)), de⟩
 have ch := oF aa
 refine wp_g0 [true, true] [] 40
   [ve (iv ((textV v).2)), vT] aJ (.eq (.eq (.nil))) ?_ ?_
 exact .m (fun k => k.fx 7 bd) <| .t (fun _ w hn k => ⟨_, v_bin rfl (k.eq1 0 14 rfl) rfl (fun _ => rfl) (r_neq aa), rfl⟩) .nil
 refine aftI aJ bx bz fun fY fZ bu dg dh aZ aw => ?_
 have f0 := aw.fx 3 dy
 have eo := aw.fx 4 dz
 have f1 := aw.fx 6 bb
 have ep := aw.fx 7 bd
 have er := aw.ge 1 15 rfl
 have fl := bB.new_ aZ
 have di := bC.new_ aZ
 have fm := bD.new_ aZ
 refine st_nil (bE _ _ ?_)
 refine wp_cond_true er ?_
 refine wp_seq_k fun f2 dj => ?_
 refine wp_g [true, true, false, false] [1] [(2, false), (3, true)] 40
   [ve (vv (Vl.mk 0 0 0 false [] [] 0) none 0 none 0), ve (iv ((textV v).2)), vt, vt]
   [] newsNil bu (.eq (.eq (.tt (.tt (.nil))))) ?_ ?_ ?_
 refine .t (fun _ w hn k => ⟨_, v_build (ps := []) rfl parts0 (by kernel_rfl), rfl⟩) ?_
 refine .o3 ?_
 exact .off <| .off .nil
 intro i h
 simp only [List.contains_eq_mem, List.mem_cons, List.not_mem_nil, or_false, decide_eq_true_eq] at h
 subst h
 exact eager_take rfl rfl fun _ w hn k => ⟨iv ((textV v).2), fun w => v_move rfl (k.fx 7 ep), rfl⟩
 refine aftI bu dg dh fun ca f3 bv dk dl dm a1 => ?_
 have cb := a1.fx 4 eo
 have cc := a1.ge 0 16 rfl
 have cd := a1.ge 1 17 rfl
 have dn := di.new_ dm
 obtain ⟨es, ce, cf, dp, fn⟩ := s_many (P := Tryz.prog) (t := 29) (i := 0) [iv 0, iv 0, iv 0, .bool false, sv none ([]) 0, sv none ([]) 0, iv 0] Tryz.sizeOf29 rfl rfl rfl dn lb
 have dq : Blk es aI 29 [iv 0, iv 0, iv 0, .bool false, sv none ([]) 0, sv none ([]) 0, iv 0] := cf
 refine st_act rfl rfl fun f4 dr => a_store' rfl cb cc ce (dr _ _ trivial ?_)
 have ds := dl.trans dp (fun _ h b => by subst b; omega)
 refine st_take rfl rfl (y_assign (v := iv ((textV v).2)) rfl cd) rfl ?_
 obtain ⟨et, aj⟩ : ∃ a', a' = ca.put (some 5) (iv ((textV v).2)) := ⟨_, rfl⟩
 have fo := pz aj bv
 have dt := pd aj dk
 have eu := pn aj cb (by decide)
 have f5 := pn aj cc (by decide)
 have f6 := pn aj cd (by decide)
 have ev : et.eval (.tmp 5) = iv ((textV v).2) := by rw [aj]; exact put_same _ _ _ (by rw [bv]; decide)
 show stepsTo _ _ _ _ _ (ca.put (some 5) (iv ((textV v).2))) _
 rw [← aj]
 refine st_nil (dj _ _ ?_)
 refine wp_ret (ret_k dt (v := .tuple #[vv (Vl.mk 0 0 0 false [] [] 0) none 0 none 0, iv ((textV v).2)]) (res_ct rfl eu ev (l_agg Tryz.isAgg29 Tryz.sizeOf29 dq rfl)) ?_)
 have ak : (joinV v u).1.mag = [] := by first | rfl | (simp only [joinV, Vl.z, aa, bsm] <;> rfl) | (exfalso; omega)
 have al : (joinV v u).1.s = [] := by first | rfl | (simp only [joinV, Vl.z, aa, bsm] <;> rfl) | (exfalso; omega)
 exact ⟨none, 0, none, 0, (by show Ending.returned (.tuple #[vv (Vl.mk 0 0 0 false [] [] 0) none 0 none 0, iv ((textV v).2)]) = Ending.returned (.tuple #[vv (joinV v u).1 none 0 none 0, iv ((joinV v u).2)]); (first | rfl | (simp only [joinV, Vl.z, aa, ak, al, bsm] <;> rfl) | (exfalso; omega))), (by rw [ak]; exact (SRow.nil _ _)), (by rw [al]; exact (SRow.nil _ _)), ds⟩
def binT_c_P  (v : Vl) (Av : Option Addr) (cv : Nat) (Bv : Option Addr) (dv : Nat) (u : Vl) (Au : Option Addr) (cu : Nat) (Bu : Option Addr) (du : Nat) (w : World) (en : Ending) (w' : World) : Prop := ∃ (Ar0 : Option Addr) (cr0 : Nat) (Ar1 : Option Addr) (cr1 : Nat), en = .returned (.tuple #[vv (joinV (cleanV v) (cleanV u)).1 Ar0 cr0 Ar1 cr1, iv ((joinV (cleanV v) (cleanV u)).2)]) ∧ SRow w' .u32 Ar0 ((joinV (cleanV v) (cleanV u)).1.mag) cr0 ∧ SRow w' .u16 Ar1 ((joinV (cleanV v) (cleanV u)).1.s) cr1 ∧ New w w'
theorem binT_c  (v : Vl) (Av : Option Addr) (cv : Nat) (Bv : Option Addr) (dv : Nat) (u : Vl) (Au : Option Addr) (cu : Nat) (Bu : Option Addr) (du : Nat) (w : World) (hmv : SRow w .u32 Av v.mag cv) (hsv : SRow w .u16 Bv v.s dv) (hmu : SRow w .u32 Au u.mag cu) (hsu : SRow w .u16 Bu u.s du) (hvv : VOk v) (hvu : VOk u) (hk5 : (cleanV v).k = 5) (HT : ItoaOk w) : Calls Tryz.prog 12 #[.string ⟨#[43]⟩, vv v Av cv Bv dv, vv u Au cu Bu du] w (binT_c_P v Av cv Bv dv u Au cu Bu du w) := by
 refine enter_abs Tryz.func12 rfl fun a0 aQ cX hp => ?_
 have aQ : a0.tmps.size = 120 := aQ
 have aR : New w w := Upd.refl _ _
 have hp0 : a0.eval (.tmp 0) = .string ⟨#[43]⟩ := hp 0 _ rfl
 have hp1 : a0.eval (.tmp 1) = vv v Av cv Bv dv := hp 1 _ rfl
 have hp2 : a0.eval (.tmp 2) = vv u Au cu Bu du := hp 2 _ rfl
 refine wp_seq_k fun K1 cY => ?_
 refine wp_g [true, true, true, true] [] [] 120
   [IsNew w 29 [iv v.k, iv v.nk, iv v.nn, .bool v.neg, sv Av v.mag cv, sv Bv v.s dv, iv v.ref], IsNew w 29 [iv u.k, iv u.nk, iv u.nn, .bool u.neg, sv Au u.mag cu, sv Bu u.s du, iv u.ref], IsNew w 29 [iv 0, iv 0, iv 0, .bool false, sv none ([]) 0, sv none ([]) 0, iv 0], ve (iv 0)]
   [0, 1, 2] (newsCons (fun v w h => IsNew.old h) (newsCons (fun v w h => IsNew.old h) (newsCons (fun v w h => IsNew.old h) newsNil))) aQ (.nw (.nw (.nw (.eq (.nil))))) ?_ (fun i h => by cases h) ?_
 exact .o2 (step_allocN (cs := [iv v.k, iv v.nk, iv v.nn, .bool v.neg, sv Av v.mag cv, sv Bv v.s dv, iv v.ref]) (t := 29) rfl (noG rfl) (fun _ w hn k => v_box rfl (k.fx 1 hp1) (fun w => rfl)) (fun q _ hq hb => ⟨q, rfl, hq, hb⟩)) <| .o2 (step_allocN (cs := [iv u.k, iv u.nk, iv u.nn, .bool u.neg, sv Au u.mag cu, sv Bu u.s du, iv u.ref]) (t := 29) rfl (noG rfl) (fun _ w hn k => v_box rfl (k.fx 2 hp2) (fun w => rfl)) (fun q _ hq hb => ⟨q, rfl, hq, hb⟩)) <| .o2 (step_allocN (cs := [iv 0, iv 0, iv 0, .bool false, sv none ([]) 0, sv none ([]) 0, iv 0]) (t := 29) rfl (noG rfl) (fun _ w hn k => rfl) (fun q _ hq hb => ⟨q, rfl, hq, hb⟩)) <| .t (fun _ w hn k => ⟨_, v_assign rfl rfl, rfl⟩) .nil
 refine aftI aQ cX aR fun a2 w3 b0 cZ an dS ao => ?_
 have h8 := ao.fx 0 hp0
 obtain ⟨aS, h9, b6, a3⟩ : IsNew _ _ _ _ _ := ao.got 0 4 rfl (by kernel_rfl)
 obtain ⟨aT, aU, b7, a4⟩ : IsNew _ _ _ _ _ := ao.got 1 5 rfl (by kernel_rfl)
 obtain ⟨a5, a6, b8, b9⟩ : IsNew _ _ _ _ _ := ao.got 2 6 rfl (by kernel_rfl)
 have hne21 : aS ≠ aT := ao.ne 0 1 4 5 h9 aU
 have hne22 : aS ≠ a5 := ao.ne 0 2 4 6 h9 a6
 have hne23 : aT ≠ a5 := ao.ne 1 2 5 6 aU a6
 have dy := Nat.le_trans aR.size b6
 have dz := Nat.le_trans aR.size b7
 have dA := Nat.le_trans aR.size b8
 refine st_nil (cY _ _ (wp_seq_k fun dT ca => ?_))
 refine wp_g0 [true, true, true, true, false, false] [(4, false), (5, false)] 120
   [ve (vv v Av cv Bv dv),
    (VP (cleanV v)), ve (vv u Au cu Bu du),
    (VP (cleanV u)), vt, vt] b0 (.eq (.cons (fun v W W' hn ⟨A5, c6, A7, c8, he, h0, h1⟩ => ⟨A5, c6, A7, c8, he, h0.new_ hn, h1.new_ hn⟩) (.eq (.cons (fun v W W' hn ⟨c0, c1, c3, c5, he, h0, h1⟩ => ⟨c0, c1, c3, c5, he, h0.new_ hn, h1.new_ hn⟩) (.tt (.tt (.nil))))))) ?_ ?_
 refine .t (fun _ w hn k => ⟨_, v_load rfl (k.fx 4 h9) (l_agg Tryz.isAgg29 Tryz.sizeOf29 (a3.new_ hn) rfl), rfl⟩) ?_
 refine .o1 (tkC rfl (noG rfl) rfl fun _ w hn k => (by
       refine ⟨#[vv v Av cv Bv dv], _, args1 (k.eq1 0 10 rfl), fun w => by kernel_rfl, clean_c v _ _ _ _ _ (hmv.new_ (an.transNew hn)) (hsv.new_ (an.transNew hn)), ?_⟩
       rintro e w' ⟨A1, c2, A3, c4, rfl, hmo0, hmo1, hm⟩
       exact ⟨_, rfl, hm, ⟨A1, c2, A3, c4, rfl, hmo0, hmo1⟩⟩)) ?_
 refine .t (fun _ w hn k => ⟨_, v_load rfl (k.fx 5 aU) (l_agg Tryz.isAgg29 Tryz.sizeOf29 (a4.new_ hn) rfl), rfl⟩) ?_
 refine .o1 (tkC rfl (noG rfl) rfl fun _ w hn k => (by
       refine ⟨#[vv u Au cu Bu du], _, args1 (k.eq1 2 12 rfl), fun w => by kernel_rfl, clean_c u _ _ _ _ _ (hmu.new_ (an.transNew hn)) (hsu.new_ (an.transNew hn)), ?_⟩
       rintro e w' ⟨A9, c7, c9, da, rfl, hmo0, hmo1, hm⟩
       exact ⟨_, rfl, hm, ⟨A9, c7, c9, da, rfl, hmo0, hmo1⟩⟩)) ?_
 exact .off <| .off .nil
 refine aftI b0 cZ an fun b1 dU a7 cb cc aO am => ?_
 have b2 := am.fx 0 h8
 have b3 := am.fx 4 h9
 have b4 := am.fx 5 aU
 have db := am.fx 6 a6
 obtain ⟨aL, ap, aM, aq, a8, cd, ce⟩ : (VP (cleanV v)) _ _ := am.got 1 11 rfl (by kernel_rfl)
 have a8 : b1.eval (.tmp 11) = vv (cleanV v) aL ap aM aq := a8
 obtain ⟨aN, ar, aG, au, a9, cf, ch⟩ : (VP (cleanV u)) _ _ := am.got 3 13 rfl (by kernel_rfl)
 have a9 : b1.eval (.tmp 13) = vv (cleanV u) aN ar aG au := a9
 have av := a3.new_ aO
 have ci := a4.new_ aO
 have cj := b9.new_ aO
 obtain ⟨dc, bk, bl, aw, ba⟩ := s_many (P := Tryz.prog) (t := 29) (i := 0) [iv ((cleanV v).k), iv ((cleanV v).nk), iv ((cleanV v).nn), .bool ((cleanV v).neg), sv aL ((cleanV v).mag) ap, sv aM ((cleanV v).s) aq, iv ((cleanV v).ref)] Tryz.sizeOf29 rfl rfl rfl av lb
 have cl : Blk dc aS 29 [iv ((cleanV v).k), iv ((cleanV v).nk), iv ((cleanV v).nn), .bool ((cleanV v).neg), sv aL ((cleanV v).mag) ap, sv aM ((cleanV v).s) aq, iv ((cleanV v).ref)] := bl
 refine st_act rfl rfl fun dV cm => a_store' rfl b3 a8 bk (cm _ _ trivial ?_)
 have cn := cd.far av aw (by first | rfl | decide | simp [notK])
 have co := ce.far av aw (by first | rfl | decide | simp [notK])
 have cp := cf.far av aw (by first | rfl | decide | simp [notK])
 have cq := ch.far av aw (by first | rfl | decide | simp [notK])
 have ax := ba _ _ _ (fun h => hne21 h.symm) ci
 have cr := ba _ _ _ (fun h => hne22 h.symm) cj
 have ct := cc.trans aw (fun _ h b => by subst b; omega)
 obtain ⟨dd, bm, bn, ay, bb⟩ := s_many (P := Tryz.prog) (t := 29) (i := 0) [iv ((cleanV u).k), iv ((cleanV u).nk), iv ((cleanV u).nn), .bool ((cleanV u).neg), sv aN ((cleanV u).mag) ar, sv aG ((cleanV u).s) au, iv ((cleanV u).ref)] Tryz.sizeOf29 rfl rfl rfl ax lb
 have cw : Blk dd aT 29 [iv ((cleanV u).k), iv ((cleanV u).nk), iv ((cleanV u).nn), .bool ((cleanV u).neg), sv aN ((cleanV u).mag) ar, sv aG ((cleanV u).s) au, iv ((cleanV u).ref)] := bn
 refine st_act rfl rfl fun dW cx => a_store' rfl b4 a9 bm (cx _ _ trivial ?_)
 have cy := cn.far ax ay (by first | rfl | decide | simp [notK])
 have cz := co.far ax ay (by first | rfl | decide | simp [notK])
 have cA := cp.far ax ay (by first | rfl | decide | simp [notK])
 have cB := cq.far ax ay (by first | rfl | decide | simp [notK])
 have cC := bb _ _ _ (hne21) cl
 have cD := bb _ _ _ (fun h => hne23 h.symm) cr
 have cE := ct.trans ay (fun _ h b => by subst b; omega)
 refine st_nil (ca _ _ (wp_seq_k fun dX dB => ?_))
 refine wp_seq_k fun dY cF => ?_
 refine wp_g0 [true] [] 120
   [ve (.string ⟨#[43]⟩)] a7 (.eq (.nil)) ?_ ?_
 exact .m (fun k => k.fx 0 b2) .nil
 refine aftI a7 cb cE fun dZ d0 bd cG bo ai az => ?_
 have de := az.fx 0 b2
 have df := az.fx 4 b3
 have dg := az.fx 5 b4
 have dh := az.fx 6 db
 have b5 := az.ge 0 14 rfl
 have cH := cC.new_ ai
 have cI := cw.new_ ai
 have bp := cD.new_ ai
 have bq := cy.new_ ai
 have br := cz.new_ ai
 have bs := cA.new_ ai
 have bt := cB.new_ ai
 refine st_nil (cF _ _ ?_)
 refine wp_block ?_
 refine wp_seq_k fun dC bu => ?_
 refine wp_g0 [true, true] [] 120
   [vT, vT] bd (.eq (.eq (.nil))) ?_ ?_
 exact .t (fun _ w hn k => ⟨_, v_bin rfl (k.fx 14 b5) rfl (fun _ => rfl) (r_eqlS (r := true) (by kernel_rfl)), rfl⟩) <| .a (fun k => k.eq1 0 16 rfl) .nil
 refine aftI bd cG bo fun dD dE aV bv bw aa ad => ?_
 have cJ := ad.fx 0 de
 have be := ad.fx 4 df
 have bf := ad.fx 5 dg
 have cK := ad.fx 6 dh
 have dF := ad.fx 14 b5
 have cL := ad.ge 1 15 rfl
 have aW := cH.new_ aa
 have aX := cI.new_ aa
 have bx := bp.new_ aa
 have bz := bq.new_ aa
 have bA := br.new_ aa
 have bB := bs.new_ aa
 have bC := bt.new_ aa
 refine st_nil (bu _ _ ?_)
 refine wp_cond_true cL ?_
 refine wp_seq_k fun dG dt => ?_
 refine wp_seq_k fun dH bD => ?_
 refine wp_g0 (.replicate 8 true) [] 120
   [ve (pv aS), ve (iv ((cleanV v).k)), ve (.bool (decide (((cleanV v).k) = 5))), ve (.bool (decide (((cleanV v).k) = 5))), ve (gq (!(decide (((cleanV v).k) = 5))) (pv aT)), ve (gq (!(decide (((cleanV v).k) = 5))) (iv ((cleanV u).k))), ve (gq (!(decide (((cleanV v).k) = 5))) (.bool (decide (((cleanV u).k) = 5)))), ve (.bool ((decide (((cleanV v).k) = 5)) || (decide (((cleanV u).k) = 5))))] aV (.eq (.eq (.eq (.eq (.eq (.eq (.eq (.eq (.nil))))))))) ?_ ?_
 exact .f (fun k => k.fx 4 be) <| .t (fun _ w hn k => ⟨_, v_load rfl (k.eq1 0 17 rfl) (l_one Tryz.isAgg3 ((aW.new_ hn).cell 0)), rfl⟩) <| .t (fun _ w hn k => ⟨_, v_bin rfl (k.eq1 1 18 rfl) rfl (fun _ => rfl) (r_eql rfl), rfl⟩) <| .m (fun k => k.eq1 2 19 rfl) <| .o1 (sc (G := (!(decide (((cleanV v).k) = 5)))) rfl rfl rfl (fun _ _ k => g0' (k.eq1 3 20 rfl)) (fun hG _ w hn k => v_field rfl (k.fx 5 bf) (fun w => rfl))) <| .o1 (sc (G := (!(decide (((cleanV v).k) = 5)))) rfl rfl rfl (fun _ _ k => g0' (k.eq1 3 20 rfl)) (fun hG _ w hn k => v_load rfl (cT hG (k.eq1 4 21 rfl)) (l_one Tryz.isAgg3 ((aX.new_ hn).cell 0)))) <| .o1 (sc (G := (!(decide (((cleanV v).k) = 5)))) rfl rfl rfl (fun _ _ k => g0' (k.eq1 3 20 rfl)) (fun hG _ w hn k => v_bin rfl (cT hG (k.eq1 5 22 rfl)) rfl (fun _ => rfl) (r_eql rfl))) <| .t (fun _ w hn k => ⟨_, v_or rfl (k.eq1 3 20 rfl) rfl (fun hg => (cT (nt hg) (k.eq1 6 23 rfl))), rfl⟩) .nil
 refine aftI aV bv bw fun dI dJ aY bE aZ ab aj => ?_
 have dK := aj.fx 0 cJ
 have cM := aj.fx 4 be
 have cN := aj.fx 5 bf
 have cO := aj.fx 6 cK
 have cP := aj.ge 7 24 rfl
 have bF := aW.new_ ab
 have bG := aX.new_ ab
 have bH := bx.new_ ab
 have bI := bz.new_ ab
 have bJ := bA.new_ ab
 have bK := bB.new_ ab
 have bL := bC.new_ ab
 refine st_nil (bD _ _ ?_)
 have bM : (((decide (((cleanV v).k) = 5)) || (decide (((cleanV u).k) = 5)))) = true := (by rw [show ((decide (((cleanV v).k) = 5))) = true from decide_eq_true (hk5)]; rfl)
 have bN := hB cP bM
 refine wp_cond_true bN ?_
 refine wp_seq_k fun dL bO => ?_
 refine wp_g0 [true, true, true, true, true, false, false] [(5, false), (6, true)] 120
   [ve (vv (cleanV v) aL ap aM aq), ve (vv (cleanV u) aN ar aG au), (fun (v_ : Value) (W : World) => ∃ (ae : Option Addr) (af : Nat) (ag : Option Addr) (ah : Nat), v_ = .tuple #[vv (joinV (cleanV v) (cleanV u)).1 ae af ag ah, iv ((joinV (cleanV v) (cleanV u)).2)] ∧ SRow W .u32 ae ((joinV (cleanV v) (cleanV u)).1.mag) af ∧ SRow W .u16 ag ((joinV (cleanV v) (cleanV u)).1.s) ah), (fun (v_ : Value) (W : World) => ∃ (aA : Option Addr) (aB : Nat) (aC : Option Addr) (aD : Nat), v_ = vv (joinV (cleanV v) (cleanV u)).1 aA aB aC aD ∧ SRow W .u32 aA ((joinV (cleanV v) (cleanV u)).1.mag) aB ∧ SRow W .u16 aC ((joinV (cleanV v) (cleanV u)).1.s) aD), ve (iv ((joinV (cleanV v) (cleanV u)).2)), vt, vt] aY (.eq (.eq (.cons (fun v W W' hn ⟨ae, af, ag, ah, he, h0, h1⟩ => ⟨ae, af, ag, ah, he, h0.new_ hn, h1.new_ hn⟩) (.cons (fun v W W' hn ⟨aA, aB, aC, aD, he, h0, h1⟩ => ⟨aA, aB, aC, aD, he, h0.new_ hn, h1.new_ hn⟩) (.eq (.tt (.tt (.nil)))))))) ?_ ?_
 refine .t (fun _ w hn k => ⟨_, v_load rfl (k.fx 4 cM) (l_agg Tryz.isAgg29 Tryz.sizeOf29 (bF.new_ hn) rfl), rfl⟩) <| .t (fun _ w hn k => ⟨_, v_load rfl (k.fx 5 cN) (l_agg Tryz.isAgg29 Tryz.sizeOf29 (bG.new_ hn) rfl), rfl⟩) ?_
 refine .o1 (tkC rfl (noG rfl) rfl fun _ w hn k => (by
       refine ⟨#[vv (cleanV v) aL ap aM aq, vv (cleanV u) aN ar aG au], _, args2 (k.eq1 0 25 rfl) (k.eq1 1 26 rfl), fun w => by kernel_rfl, join_c (cleanV v) _ _ _ _ (cleanV u) _ _ _ _ _ (bI.new_ hn) (bJ.new_ hn) (bK.new_ hn) (bL.new_ hn) hvv.clean hvu.clean (HT.up (aZ.transNew hn)), ?_⟩
       rintro e w' ⟨di, dj, dk, dl, rfl, hmo0, hmo1, hm⟩
       exact ⟨_, rfl, hm, ⟨di, dj, dk, dl, rfl, hmo0, hmo1⟩⟩)) ?_
 refine .o1 (tk rfl rfl fun _ w hn k => (by
       obtain ⟨dm, dn, dp, dq, dr, cQ, cR⟩ : (fun (v_ : Value) (W : World) => ∃ (ae : Option Addr) (af : Nat) (ag : Option Addr) (ah : Nat), v_ = .tuple #[vv (joinV (cleanV v) (cleanV u)).1 ae af ag ah, iv ((joinV (cleanV v) (cleanV u)).2)] ∧ SRow W .u32 ae ((joinV (cleanV v) (cleanV u)).1.mag) af ∧ SRow W .u16 ag ((joinV (cleanV v) (cleanV u)).1.s) ah) _ _ := k.dep 2 27 (by kernel_rfl) (by kernel_rfl)
       exact ⟨_, v_extract rfl dr rfl, ⟨dm, dn, dp, dq, rfl, cQ, cR⟩⟩)) ?_
 refine .o1 (tk rfl rfl fun _ w hn k => (by
       obtain ⟨aG, d1, d2, d3, ds, dM, dN⟩ : (fun (v_ : Value) (W : World) => ∃ (ae : Option Addr) (af : Nat) (ag : Option Addr) (ah : Nat), v_ = .tuple #[vv (joinV (cleanV v) (cleanV u)).1 ae af ag ah, iv ((joinV (cleanV v) (cleanV u)).2)] ∧ SRow W .u32 ae ((joinV (cleanV v) (cleanV u)).1.mag) af ∧ SRow W .u16 ag ((joinV (cleanV v) (cleanV u)).1.s) ah) _ _ := k.dep 2 27 (by kernel_rfl) (by kernel_rfl)
       exact ⟨_, v_extract rfl ds rfl, rfl⟩)) ?_
 exact .off <| .off .nil
 refine aftI aY bE aZ fun aP dO a1 bP bQ bR aH => ?_
 have bg := aH.fx 6 cO
 obtain ⟨aE, ak, aF, al, aI, bS, bT⟩ : (fun (v_ : Value) (W : World) => ∃ (aA : Option Addr) (aB : Nat) (aC : Option Addr) (aD : Nat), v_ = vv (joinV (cleanV v) (cleanV u)).1 aA aB aC aD ∧ SRow W .u32 aA ((joinV (cleanV v) (cleanV u)).1.mag) aB ∧ SRow W .u16 aC ((joinV (cleanV v) (cleanV u)).1.s) aD) _ _ := aH.got 3 28 rfl (by kernel_rfl)
 have aI : aP.eval (.tmp 28) = vv (joinV (cleanV v) (cleanV u)).1 aE ak aF al := aI
 have bh := aH.ge 4 29 rfl
 have aJ := bH.new_ bR
 obtain ⟨cS, bi, bj, aK, dw⟩ := s_many (P := Tryz.prog) (t := 29) (i := 0) [iv ((joinV (cleanV v) (cleanV u)).1.k), iv ((joinV (cleanV v) (cleanV u)).1.nk), iv ((joinV (cleanV v) (cleanV u)).1.nn), .bool ((joinV (cleanV v) (cleanV u)).1.neg), sv aE ((joinV (cleanV v) (cleanV u)).1.mag) ak, sv aF ((joinV (cleanV v) (cleanV u)).1.s) al, iv ((joinV (cleanV v) (cleanV u)).1.ref)] Tryz.sizeOf29 rfl rfl rfl aJ lb
 have bU : Blk cS a5 29 [iv ((joinV (cleanV v) (cleanV u)).1.k), iv ((joinV (cleanV v) (cleanV u)).1.nk), iv ((joinV (cleanV v) (cleanV u)).1.nn), .bool ((joinV (cleanV v) (cleanV u)).1.neg), sv aE ((joinV (cleanV v) (cleanV u)).1.mag) ak, sv aF ((joinV (cleanV v) (cleanV u)).1.s) al, iv ((joinV (cleanV v) (cleanV u)).1.ref)] := bj
 refine st_act rfl rfl fun dP bV => a_store' rfl bg aI bi (bV _ _ trivial ?_)
 have bW := bS.far aJ aK (by first | rfl | decide | simp [notK])
 have bX := bT.far aJ aK (by first | rfl | decide | simp [notK])
 have bY := bQ.trans aK (fun _ h b => by subst b; omega)
 refine st_take rfl rfl (y_assign (v := iv ((joinV (cleanV v) (cleanV u)).2)) rfl bh) rfl ?_
 obtain ⟨cU, ac⟩ : ∃ a', a' = aP.put (some 7) (iv ((joinV (cleanV v) (cleanV u)).2)) := ⟨_, rfl⟩
 have dx := pz ac a1
 have bZ := pd ac bP
 have cV := pn ac bg (by decide)
 have dQ := pn ac aI (by decide)
 have dR := pn ac bh (by decide)
 have cW : cU.eval (.tmp 7) = iv ((joinV (cleanV v) (cleanV u)).2) := by rw [ac]; exact put_same _ _ _ (by rw [a1]; decide)
 show stepsTo _ _ _ _ _ (aP.put (some 7) (iv ((joinV (cleanV v) (cleanV u)).2))) _
 rw [← ac]
 refine st_nil (bO _ _ ?_)
 refine wp_ret (ret_k bZ (v := .tuple #[vv (joinV (cleanV v) (cleanV u)).1 aE ak aF al, iv ((joinV (cleanV v) (cleanV u)).2)]) (res_ct rfl cV cW (l_agg Tryz.isAgg29 Tryz.sizeOf29 bU rfl)) ?_)
 exact ⟨aE, ak, aF, al, rfl, bW, bX, bY⟩
def truthR (t : Bool) : Int := if t then 1 else 0
def besideO (b : Bool) (m : List Nat) (a : Nm) : Int × Bool := if decide (a.k = 2) then (0, false) else if decide (a.k = 3) then (-1, true) else if decide (a.k = 4) then (1, true) else (cmpZ (goodI b m) a.n, true)
end Go.Proofs.YtjakfchffigkkaaGreatDoor
