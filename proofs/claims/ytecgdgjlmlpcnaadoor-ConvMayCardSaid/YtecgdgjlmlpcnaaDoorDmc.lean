import Derived.Test.YtecgdgjlmlpcnaaDoorDmb
namespace Go.Proofs.YtecgdgjlmlpcnaaDoor
open Go.RowKit
set_option linter.unusedSimpArgs false
set_option linter.unusedVariables false
set_option maxHeartbeats 16000000
set_option maxRecDepth 100000
theorem tnumber_c (Au : Option Addr) (u : List Nat) (cu : Nat) (w : World) (hru : SRow w .u16 Au u cu) (hu : U16s u) : Calls Tryd.prog 39 #[sv Au u cu] w (IsRet (.tuple #[nv ((numT u).1), .bool ((numT u).2)]) w) := by
 refine enter_abs Tryd.func39 rfl fun a0 cB nI hp => ?_
 have cB : a0.tmps.size = 91 := cB
 have kZ : New w w := Upd.refl _ _
 have hp0 : a0.eval (.tmp 0) = sv Au u cu := hp 0 _ rfl
 have hmx := hru.max
 refine wp_seq_k fun K1 nJ => ?_
 refine wp_g [true, true] [] [] 91
   [IsNew w 23 [iv 0, iv 0], vF]
   [0] (newsCons (fun v w h => IsNew.old h) newsNil) cB (.nw (.eq (.nil))) ?_ (fun i h => by cases h) ?_
 exact .o2 (step_allocN (cs := [iv 0, iv 0]) (t := 23) rfl (noG rfl) (fun _ w hn k => rfl) (fun q _ hq hb => ⟨q, rfl, hq, hb⟩)) <| .t (fun _ w hn k => ⟨_, v_assign rfl rfl, rfl⟩) .nil
 refine aftI cB nI kZ fun a2 w3 nK nL es rQ k0 => ?_
 have h8 := k0.fx 0 hp0
 obtain ⟨ay, h9, k9, la⟩ : IsNew _ _ _ _ _ := k0.got 0 2 rfl (by kernel_rfl)
 have pg := Nat.le_trans kZ.size k9
 refine st_nil (nJ _ _ ?_)
 refine wp_seq_j (fun (aa : Act) (ww : World) => ∃ (A3 : Option Addr), ∃ (c3 : Nat), aa.tmps.size = 91 ∧ aa.defers = [] ∧ New w ww ∧ aa.eval (.tmp 0) = sv A3 (u.dropWhile blankN) c3 ∧ aa.eval (.tmp 2) = pv ay ∧ Blk ww ay 23 [iv 0, iv 0] ∧ SRow ww .u16 A3 (u.dropWhile blankN) c3) ?_ ?_
 rintro rR rS ⟨A3, c3, lc, ld, le, nM, nN, lf, lg⟩
 refine wp_seq_j (fun (aa : Act) (ww : World) => ∃ (A4 : Option Addr), ∃ (c4 : Nat), aa.tmps.size = 91 ∧ aa.defers = [] ∧ New w ww ∧ aa.eval (.tmp 0) = sv A4 (trimN u) c4 ∧ aa.eval (.tmp 2) = pv ay ∧ Blk ww ay 23 [iv 0, iv 0] ∧ SRow ww .u16 A4 (trimN u) c4) ?_ ?_
 rintro rT nO ⟨A4, c4, et, lh, eu, nP, nQ, ev, li⟩
 have hut := hu.trim
 refine wp_seq_k fun rU lj => ?_
 refine wp_g [true, true, false] [] [(2, false)] 91
   [ve (nv (Nm.mk 2 0)), IsNew nO 23 [iv 0, iv 0], vt]
   [1] (newsCons (fun v w h => IsNew.old h) newsNil) et (.eq (.nw (.tt (.nil)))) ?_ (fun i h => by cases h) ?_
 exact .t (fun _ w hn k => ⟨_, v_build (ps := [(0, iv 2)]) rfl (parts1 rfl) (by kernel_rfl), rfl⟩) <| .o2 (step_allocN (cs := [iv 0, iv 0]) (t := 23) rfl (noG rfl) (fun _ w hn k => rfl) (fun q _ hq hb => ⟨q, rfl, hq, hb⟩)) <| .off .nil
 refine aftI et lh eu fun rV rW ew lk ll ex bv => ?_
 have k1 := bv.fx 0 nP
 have nR := bv.fx 2 nQ
 have nS := bv.ge 0 39 rfl
 obtain ⟨cC, k2, ey, ez⟩ : IsNew _ _ _ _ _ := bv.got 1 4 rfl (by kernel_rfl)
 have lm := ev.new_ ex
 have hne48 : ay ≠ cC := by have h1 := ev.lt; have h2 := ey; omega
 have ph := Nat.le_trans eu.size ey
 have ln := li.new_ ex
 obtain ⟨rX, -, gC, lo, eA, lp⟩ := s_two (v0 := iv 2) (v1 := iv 0) Tryd.sizeOf23 rfl rfl rfl ez
 refine st_act rfl rfl fun rY lq => a_store' rfl k2 nS gC (lq _ _ trivial ?_)
 have lr := ln.far ez eA (by first | rfl | decide | simp [notK])
 have ls := lp _ _ _ (hne48) lm
 have lu := ll.trans eA (fun _ h b => by subst b; omega)
 refine st_nil (lj _ _ (wp_seq_k fun rZ lv => ?_))
 refine wp_seq_k fun r0 lw => ?_
 refine wp_g0 [true, true, true] [] 91
   [ve (sv A4 (trimN u) c4), ve (iv ((trimN u).length : Int)), ve (.bool (decide (((trimN u).length : Int) = 0)))] ew (.eq (.eq (.eq (.nil)))) ?_ ?_
 exact .m (fun k => k.fx 0 k1) <| .t (fun _ w hn k => ⟨_, v_lenR rfl elU (k.eq1 0 40 rfl), rfl⟩) <| .t (fun _ w hn k => ⟨_, v_bin rfl (k.eq1 1 41 rfl) rfl (fun _ => rfl) (r_eql rfl), rfl⟩) .nil
 refine aftI ew lk lu fun r1 r2 bw eB eC cj bx => ?_
 have eD := bx.fx 0 k1
 have k3 := bx.fx 2 nR
 have nT := bx.fx 4 k2
 have k4 := bx.ge 2 42 rfl
 have eE := ls.new_ cj
 have lx := lo.new_ cj
 have eF := lr.new_ cj
 refine st_nil (lw _ _ ?_)
 rcases bc (decide (((trimN u).length : Int) = 0)) with ab | ab
 have gD := oT ab
 have ly := hB k4 ab
 refine wp_cond_true ly ?_
 refine wp_seq_k fun r3 lz => ?_
 refine wp_g0 [true, false, false] [(1, false), (2, true)] 91
   [ve (nv (Nm.mk 0 0)), vt, vt] bw (.eq (.tt (.tt (.nil)))) ?_ ?_
 exact .t (fun _ w hn k => ⟨_, v_build (ps := []) rfl parts0 (by kernel_rfl), rfl⟩) <| .off <| .off .nil
 refine aftI bw eB eC fun k5 r4 eG lA lB lC eH => ?_
 have k6 := eH.fx 2 k3
 have k7 := eH.ge 0 43 rfl
 have lD := eE.new_ lC
 obtain ⟨r5, -, gE, lE, lF, pi⟩ := s_two (v0 := iv 0) (v1 := iv 0) Tryd.sizeOf23 rfl rfl rfl lD
 refine st_act rfl rfl fun r6 lG => a_store' rfl k6 k7 gE (lG _ _ trivial ?_)
 have lH := lB.trans lF (fun _ h b => by subst b; omega)
 refine st_take rfl rfl (y_assign (v := .bool true) rfl rfl) rfl ?_
 obtain ⟨nU, az⟩ : ∃ a', a' = k5.put (some 3) (.bool true) := ⟨_, rfl⟩
 have oL := pz az eG
 have gF := pd az lA
 have lI := pn az k6 (by decide)
 have pj := pn az k7 (by decide)
 have lJ : nU.eval (.tmp 3) = .bool true := by rw [az]; exact put_same _ _ _ (by rw [eG]; decide)
 show stepsTo _ _ _ _ _ (k5.put (some 3) (.bool true)) _
 rw [← az]
 refine st_nil (lz _ _ ?_)
 refine wp_ret (ret_k gF (v := .tuple #[nv (Nm.mk 0 0), .bool true]) (res_ct rfl lI lJ (l_two Tryd.isAgg23 Tryd.sizeOf23 lE)) ?_)
 refine ⟨?_, lH⟩
 show Ending.returned (.tuple #[nv (Nm.mk 0 0), .bool true]) = Ending.returned (.tuple #[nv ((numT u).1), .bool ((numT u).2)])
 first | rfl | (simp only [numT, bodyT, ab, bsm] <;> rfl) | (exfalso; omega)
 have gD := oF ab
 have gG := hB k4 ab
 refine wp_cond_false gG ?_
 refine wp_skip ?_
 refine lv _ _ ?_
 refine wp_seq_k fun pk gH => ?_
 refine wp_g0 [true, true, true, true, true, true, true] [] 91
   [ve (sv A4 (trimN u) c4), ve (sv A4 (trimN u) c4),
    (EP (.int .u16 (((trimN u).getD 0 0 : Nat) : Int))), ve (.int .u16 (((trimN u).getD 0 0 : Nat) : Int)), ve (.bool (decide ((((trimN u).getD 0 0 : Nat) : Int) = 45))), ve (sv A4 (trimN u) c4), ve (.bool (decide ((((trimN u).getD 0 0 : Nat) : Int) = 45)))] bw (.eq (.eq (.cons (fun _ _ _ n ⟨_, _, e, h⟩ => ⟨_, _, e, h.new_ n⟩) (.eq (.eq (.eq (.eq (.nil)))))))) ?_ ?_
 refine .m (fun k => k.fx 0 eD) <| .m (fun k => k.fx 0 eD) ?_
 refine .o1 (tk rfl rfl fun _ w hn k => (by
       exact x_eaddr (k := .u16) rfl elU (k.eq1 1 45 rfl) rfl (eF.new_ hn) (by omega) fun b1 o2 hme => ⟨b1, o2, rfl, hme⟩)) ?_
 refine .o1 (tk rfl rfl fun _ w hn k => (by
       obtain ⟨b5, o6, e7, nV⟩ : (EP (.int .u16 (((trimN u).getD 0 0 : Nat) : Int))) _ _ := k.dep 2 46 (by kernel_rfl) (by kernel_rfl)
       exact ⟨_, v_load rfl e7 (l_one Tryd.isAgg64 nV.1), rfl⟩)) ?_
 exact .t (fun _ w hn k => ⟨_, v_bin rfl (k.eq1 3 47 rfl) rfl (fun _ => rfl) (r_eql rfl), rfl⟩) <| .a (fun k => k.eq1 0 44 rfl) <| .a (fun k => k.eq1 4 48 rfl) .nil
 refine aftI bw eB eC fun pl pm a3 cD cE bz aL => ?_
 have cl := aL.fx 0 eD
 have eI := aL.fx 2 k3
 have eJ := aL.fx 4 nT
 have eK := aL.ge 5 5 rfl
 have eL := aL.ge 6 6 rfl
 have cF := eE.new_ bz
 have cG := lx.new_ bz
 have bA := eF.new_ bz
 refine st_nil (gH _ _ ?_)
 refine wp_seq_j (fun (aa : Act) (ww : World) => ∃ (ng : Bool), ∃ (dd : List Nat), ∃ (A5 : Option Addr), ∃ (c5 : Nat), aa.tmps.size = 91 ∧ aa.defers = [] ∧ New w ww ∧ aa.eval (.tmp 5) = sv A5 dd c5 ∧ aa.eval (.tmp 6) = .bool ng ∧ aa.eval (.tmp 0) = sv A4 (trimN u) c4 ∧ aa.eval (.tmp 2) = pv ay ∧ aa.eval (.tmp 4) = pv cC ∧ Blk ww ay 23 [iv 0, iv 0] ∧ Blk ww cC 23 [iv 2, iv 0] ∧ SRow ww .u16 A5 dd c5 ∧ SRow ww .u16 A4 (trimN u) c4 ∧ (numT u = bodyT (trimN u) dd ng) ∧ (U16s dd)) ?_ ?_
 rintro po lK ⟨ng, dd, A5, c5, cH, gI, cI, lL, lM, lN, lO, eM, cJ, bB, gJ, gK, hbody, hdd⟩
 refine wp_seq_k fun pp gL => ?_
 refine wp_g [true, true, true, true, true, false, false] [3] [(5, false), (6, true)] 91
   [ve (nv (Nm.mk 2 0)), ve (sv A4 (trimN u) c4), ve (.bool (strangeN (trimN u))), ve (.bool (!(strangeN (trimN u)))), IsNew lK 23 [iv 0, iv 0], vt, vt]
   [4] (newsCons (fun v w h => IsNew.old h) newsNil) cH (.eq (.eq (.eq (.eq (.nw (.tt (.tt (.nil)))))))) ?_ ?_ ?_
 refine .t (fun _ w hn k => ⟨_, v_load rfl (k.fx 4 eM) (l_two Tryd.isAgg23 Tryd.sizeOf23 (bB.new_ hn)), rfl⟩) <| .m (fun k => k.fx 0 lN) <| .o1 (ck rfl rfl rfl (fun _ w hn k => ⟨#[sv A4 (trimN u) c4], args1 (k.eq1 1 59 rfl), fun _ => by kernel_rfl, strange_c _ (trimN u) _ _ (gK.new_ hn) hut⟩) fun _ => rfl) ?_
 refine .o3 ?_
 exact .o2 (step_allocN (cs := [iv 0, iv 0]) (t := 23) rfl (noG rfl) (fun _ w hn k => rfl) (fun q _ hq hb => ⟨q, rfl, hq, hb⟩)) <| .off <| .off .nil
 intro i h
 simp only [List.contains_eq_mem, List.mem_cons, List.not_mem_nil, or_false, decide_eq_true_eq] at h
 subst h
 exact eager_take rfl rfl fun _ w hn k => ⟨.bool (!(strangeN (trimN u))), fun w => v_not rfl (k.eq1 2 60 rfl), rfl⟩
 refine aftI cH gI cI fun eN pq cK gM gN bC ai => ?_
 have lP := ai.fx 5 lL
 have lQ := ai.fx 6 lM
 have lR := ai.fx 2 lO
 have lS := ai.fx 4 eM
 have eO := ai.ge 0 58 rfl
 have eP := ai.ge 3 61 rfl
 obtain ⟨eQ, eR, bD, cL⟩ : IsNew _ _ _ _ _ := ai.got 4 7 rfl (by kernel_rfl)
 have gO := cJ.new_ bC
 have gP := bB.new_ bC
 have hne156 : ay ≠ eQ := by have h1 := cJ.lt; have h2 := bD; omega
 have hne157 : cC ≠ eQ := by have h1 := bB.lt; have h2 := bD; omega
 have oM := Nat.le_trans cI.size bD
 have gQ := gJ.new_ bC
 obtain ⟨eS, -, eT, gR, cM, cN⟩ := s_two (v0 := iv 2) (v1 := iv 0) Tryd.sizeOf23 rfl rfl rfl cL
 refine st_act rfl rfl fun pr gS => a_store' rfl eR eO eT (gS _ _ trivial ?_)
 have cO := gQ.far cL cM (by first | rfl | decide | simp [notK])
 have gT := cN _ _ _ (hne156) gO
 have gU := cN _ _ _ (hne157) gP
 have gV := gN.trans cM (fun _ h b => by subst b; omega)
 refine st_take rfl rfl (y_assign (v := .bool (!(strangeN (trimN u)))) rfl eP) rfl ?_
 obtain ⟨lT, ae⟩ : ∃ a', a' = eN.put (some 8) (.bool (!(strangeN (trimN u)))) := ⟨_, rfl⟩
 have cP := pz ae cK
 have gW := pd ae gM
 have eU := pn ae lP (by decide)
 have lU := pn ae lQ (by decide)
 have lV := pn ae lR (by decide)
 have lW := pn ae lS (by decide)
 have pt := pn ae eO (by decide)
 have pu := pn ae eP (by decide)
 have lX := pn ae eR (by decide)
 have lY : lT.eval (.tmp 8) = .bool (!(strangeN (trimN u))) := by rw [ae]; exact put_same _ _ _ (by rw [cK]; decide)
 show stepsTo _ _ _ _ _ (eN.put (some 8) (.bool (!(strangeN (trimN u))))) _
 rw [← ae]
 refine st_nil (gL _ _ (wp_seq_k fun pw a4 => ?_))
 refine wp_block ?_
 refine wp_seq_k fun px gX => ?_
 refine wp_g0 [true, true, true, true] [] 91
   [ve (sv A5 dd c5),
    (OP eS.heap.size 64 .u16 (asc ⟨#[73, 110, 102, 105, 110, 105, 116, 121]⟩)), ve (.bool (decide (dd = (asc ⟨#[73, 110, 102, 105, 110, 105, 116, 121]⟩)))), ve (.bool (decide (dd = (asc ⟨#[73, 110, 102, 105, 110, 105, 116, 121]⟩))))] cP (.eq (.cons (fun _ _ _ n ⟨_, _, e, h⟩ => ⟨_, _, e, h.new_ n⟩) (.eq (.eq (.nil))))) ?_ ?_
 refine .m (fun k => k.fx 5 eU) ?_
 refine .o1 (tkC rfl (noG rfl) rfl fun _ w hn k => (by
       refine ⟨#[.string ⟨#[73, 110, 102, 105, 110, 105, 116, 121]⟩], _, args1 rfl, fun w => by kernel_rfl, ascii_c ⟨#[73, 110, 102, 105, 110, 105, 116, 121]⟩ _ (by first | omega | (show (_ : Nat) ≤ _; decide)), ?_⟩
       rintro e w' ⟨A9, nY, rfl, hmo0, hm⟩
       exact ⟨_, rfl, hm, ⟨A9, nY, rfl, (hmo0.more hn.size)⟩⟩)) ?_
 refine .o1 (tkC rfl (noG rfl) rfl fun _ w hn k => (by
       obtain ⟨nZ, n0, n1, lZ⟩ : (OP eS.heap.size 64 .u16 (asc ⟨#[73, 110, 102, 105, 110, 105, 116, 121]⟩)) _ _ := k.dep 1 64 (by kernel_rfl) (by kernel_rfl)
       refine ⟨#[sv A5 dd c5, sv nZ (asc ⟨#[73, 110, 102, 105, 110, 105, 116, 121]⟩) n0], _, args2 (k.eq1 0 63 rfl) n1, fun w => by kernel_rfl, tsame_c _ dd _ _ (asc ⟨#[73, 110, 102, 105, 110, 105, 116, 121]⟩) _ _ (cO.new_ hn) lZ.row, ?_⟩
       rintro e w' ⟨rfl, hm⟩
       exact ⟨_, rfl, hm, rfl⟩)) ?_
 exact .a (fun k => k.eq1 2 65 rfl) .nil
 refine aftI cP gW gV fun py pA aA bE bF a5 aj => ?_
 have bs := aj.fx 5 eU
 have cm := aj.fx 6 lU
 have cn := aj.fx 2 lV
 have eV := aj.fx 4 lW
 have co := aj.fx 7 lX
 have cp := aj.fx 8 lY
 have eW := aj.ge 3 62 rfl
 have bG := gT.new_ a5
 have cQ := gU.new_ a5
 have bH := gR.new_ a5
 have bI := cO.new_ a5
 refine st_nil (gX _ _ ?_)
 rcases bc (decide (dd = (asc ⟨#[73, 110, 102, 105, 110, 105, 116, 121]⟩))) with ac | ac
 have eX := oT ac
 have gY := hB eW ac
 refine wp_cond_true gY ?_
 refine wp_g0 [true, false] [(1, false)] 91
   [ve (nv (Nm.mk 3 0)), vt] aA (.eq (.tt (.nil))) ?_ ?_
 exact .t (fun _ w hn k => ⟨_, v_build (ps := [(0, iv 3)]) rfl (parts1 rfl) (by kernel_rfl), rfl⟩) <| .off .nil
 refine aftI aA bE bF fun pB pC cR gZ g0 cS aM => ?_
 have l0 := aM.fx 6 cm
 have l1 := aM.fx 2 cn
 have eY := aM.fx 7 co
 have l2 := aM.fx 8 cp
 have l3 := aM.ge 0 66 rfl
 have g1 := bG.new_ cS
 have g2 := bH.new_ cS
 obtain ⟨pD, -, eZ, g3, g4, g5⟩ := s_two (v0 := iv 3) (v1 := iv 0) Tryd.sizeOf23 rfl rfl rfl g2
 refine st_act rfl rfl fun pE g6 => a_store' rfl eY l3 eZ (g6 _ _ trivial ?_)
 have g7 := g5 _ _ _ (hne156) g1
 have g8 := g0.trans g4 (fun _ h b => by subst b; omega)
 refine st_nil (a4 _ _ (wp_seq_k fun pF cT => ?_))
 refine wp_seq_k fun pG g9 => ?_
 refine wp_g0 [true] [] 91
   [ve (.bool ng)] cR (.eq (.nil)) ?_ ?_
 exact .m (fun k => k.fx 6 l0) .nil
 refine aftI cR gZ g8 fun pH pI a6 cU cV cW a7 => ?_
 have e0 := a7.fx 2 l1
 have cq := a7.fx 7 eY
 have e1 := a7.fx 8 l2
 have e2 := a7.ge 0 86 rfl
 have cX := g7.new_ cW
 have bJ := g3.new_ cW
 refine st_nil (g9 _ _ ?_)
 rcases bc (ng) with aN | aN
 have ha := hB e2 aN
 refine wp_cond_true ha ?_
 refine wp_g0 [true, true, false] [(2, false)] 91
   [ve (nv (Nm.mk 3 0)), ve (nv (negM (Nm.mk 3 0))), vt] a6 (.eq (.eq (.tt (.nil)))) ?_ ?_
 exact .t (fun _ w hn k => ⟨_, v_load rfl (k.fx 7 cq) (l_two Tryd.isAgg23 Tryd.sizeOf23 (bJ.new_ hn)), rfl⟩) <| .o1 (ck rfl rfl rfl (fun _ w hn k => ⟨#[nv (Nm.mk 3 0)], args1 (k.eq1 0 87 rfl), fun _ => by kernel_rfl, nneg_c (Nm.mk 3 0) _ ⟩) fun _ => rfl) <| .off .nil
 refine aftI a6 cU cV fun pJ pK cY hc hd cZ a8 => ?_
 have l4 := a8.fx 2 e0
 have e3 := a8.fx 7 cq
 have l5 := a8.fx 8 e1
 have l6 := a8.ge 1 88 rfl
 have hf := cX.new_ cZ
 have hg := bJ.new_ cZ
 obtain ⟨pL, -, e4, hh, hi, hj⟩ := s_two (v0 := iv ((negM (Nm.mk 3 0)).k)) (v1 := iv ((negM (Nm.mk 3 0)).n)) Tryd.sizeOf23 rfl rfl rfl hg
 refine st_act rfl rfl fun pM hl => a_store' rfl e3 l6 e4 (hl _ _ trivial ?_)
 have ho := hj _ _ _ (hne156) hf
 have hr := hd.trans hi (fun _ h b => by subst b; omega)
 refine st_nil (cT _ _ (wp_seq_k fun pN hs => ?_))
 refine wp_g [true, true, false, false] [1] [(2, false), (3, true)] 91
   [ve (nv (negM (Nm.mk 3 0))), ve (.bool (!(strangeN (trimN u)))), vt, vt]
   [] newsNil cY (.eq (.eq (.tt (.tt (.nil))))) ?_ ?_ ?_
 refine .t (fun _ w hn k => ⟨_, v_load rfl (k.fx 7 e3) (l_two Tryd.isAgg23 Tryd.sizeOf23 (hh.new_ hn)), rfl⟩) ?_
 refine .o3 ?_
 exact .off <| .off .nil
 intro i h
 simp only [List.contains_eq_mem, List.mem_cons, List.not_mem_nil, or_false, decide_eq_true_eq] at h
 subst h
 exact eager_take rfl rfl fun _ w hn k => ⟨.bool (!(strangeN (trimN u))), fun w => v_move rfl (k.fx 8 l5), rfl⟩
 refine aftI cY hc hr fun e5 pO c0 ht hv hw bK => ?_
 have e6 := bK.fx 2 l4
 have e8 := bK.ge 0 89 rfl
 have e9 := bK.ge 1 90 rfl
 have hx := ho.new_ hw
 obtain ⟨pP, -, fa, hy, hz, oN⟩ := s_two (v0 := iv ((negM (Nm.mk 3 0)).k)) (v1 := iv ((negM (Nm.mk 3 0)).n)) Tryd.sizeOf23 rfl rfl rfl hx
 refine st_act rfl rfl fun pQ hA => a_store' rfl e6 e8 fa (hA _ _ trivial ?_)
 have hC := hv.trans hz (fun _ h b => by subst b; omega)
 refine st_take rfl rfl (y_assign (v := .bool (!(strangeN (trimN u)))) rfl e9) rfl ?_
 obtain ⟨l7, ak⟩ : ∃ a', a' = e5.put (some 3) (.bool (!(strangeN (trimN u)))) := ⟨_, rfl⟩
 have oO := pz ak c0
 have hD := pd ak ht
 have l8 := pn ak e6 (by decide)
 have pR := pn ak e8 (by decide)
 have pS := pn ak e9 (by decide)
 have l9 : l7.eval (.tmp 3) = .bool (!(strangeN (trimN u))) := by rw [ak]; exact put_same _ _ _ (by rw [c0]; decide)
 show stepsTo _ _ _ _ _ (e5.put (some 3) (.bool (!(strangeN (trimN u))))) _
 rw [← ak]
 refine st_nil (hs _ _ ?_)
 refine wp_ret (ret_k hD (v := .tuple #[nv (negM (Nm.mk 3 0)), .bool (!(strangeN (trimN u)))]) (res_ct rfl l8 l9 (l_two Tryd.isAgg23 Tryd.sizeOf23 hy)) ?_)
 refine ⟨?_, hC⟩
 show Ending.returned (.tuple #[nv (negM (Nm.mk 3 0)), .bool (!(strangeN (trimN u)))]) = Ending.returned (.tuple #[nv ((numT u).1), .bool ((numT u).2)])
 first | rfl | (simp only [hbody, bodyT, ab, ac, aN, bsm] <;> rfl) | (exfalso; omega)
 have hE := hB e2 aN
 refine wp_cond_false hE ?_
 refine wp_skip ?_
 refine cT _ _ ?_
 refine wp_seq_k fun pT hF => ?_
 refine wp_g [true, true, false, false] [1] [(2, false), (3, true)] 91
   [ve (nv (Nm.mk 3 0)), ve (.bool (!(strangeN (trimN u)))), vt, vt]
   [] newsNil a6 (.eq (.eq (.tt (.tt (.nil))))) ?_ ?_ ?_
 refine .t (fun _ w hn k => ⟨_, v_load rfl (k.fx 7 cq) (l_two Tryd.isAgg23 Tryd.sizeOf23 (bJ.new_ hn)), rfl⟩) ?_
 refine .o3 ?_
 exact .off <| .off .nil
 intro i h
 simp only [List.contains_eq_mem, List.mem_cons, List.not_mem_nil, or_false, decide_eq_true_eq] at h
 subst h
 exact eager_take rfl rfl fun _ w hn k => ⟨.bool (!(strangeN (trimN u))), fun w => v_move rfl (k.fx 8 e1), rfl⟩
 refine aftI a6 cU cV fun fb pU c6 hG hH hI bL => ?_
 have fc := bL.fx 2 e0
 have fd := bL.ge 0 89 rfl
 have fe := bL.ge 1 90 rfl
 have hJ := cX.new_ hI
 obtain ⟨pV, -, ff, hK, hL, oP⟩ := s_two (v0 := iv 3) (v1 := iv 0) Tryd.sizeOf23 rfl rfl rfl hJ
 refine st_act rfl rfl fun pW hM => a_store' rfl fc fd ff (hM _ _ trivial ?_)
 have hN := hH.trans hL (fun _ h b => by subst b; omega)
 refine st_take rfl rfl (y_assign (v := .bool (!(strangeN (trimN u)))) rfl fe) rfl ?_
 obtain ⟨ma, al⟩ : ∃ a', a' = fb.put (some 3) (.bool (!(strangeN (trimN u)))) := ⟨_, rfl⟩
 have oQ := pz al c6
 have hO := pd al hG
 have mb := pn al fc (by decide)
 have pX := pn al fd (by decide)
 have pY := pn al fe (by decide)
 have mc : ma.eval (.tmp 3) = .bool (!(strangeN (trimN u))) := by rw [al]; exact put_same _ _ _ (by rw [c6]; decide)
 show stepsTo _ _ _ _ _ (fb.put (some 3) (.bool (!(strangeN (trimN u))))) _
 rw [← al]
 refine st_nil (hF _ _ ?_)
 refine wp_ret (ret_k hO (v := .tuple #[nv (Nm.mk 3 0), .bool (!(strangeN (trimN u)))]) (res_ct rfl mb mc (l_two Tryd.isAgg23 Tryd.sizeOf23 hK)) ?_)
 refine ⟨?_, hN⟩
 show Ending.returned (.tuple #[nv (Nm.mk 3 0), .bool (!(strangeN (trimN u)))]) = Ending.returned (.tuple #[nv ((numT u).1), .bool ((numT u).2)])
 first | rfl | (simp only [hbody, bodyT, ab, ac, aN, bsm] <;> rfl) | (exfalso; omega)
 have eX := oF ac
 have hP := hB eW ac
 refine wp_cond_false hP ?_
 refine wp_seq_k fun pZ c7 => ?_
 rcases bc (decide ((dd.length : Int) ≤ 0)) with ad | ad
 have fg := oT ad
 refine wp_g0 (.replicate 9 true) [] 91
   [ve (sv A5 dd c5), ve (iv (dd.length : Int)), vF, vF, vU, vU, vU, vF, vF] aA (.eq (.eq (.eq (.eq (.eq (.eq (.eq (.eq (.eq (.nil)))))))))) ?_ ?_
 exact .m (fun k => k.fx 5 bs) <| .t (fun _ w hn k => ⟨_, v_lenR rfl elU (k.eq1 0 68 rfl), rfl⟩) <| .t (fun _ w hn k => ⟨_, v_bin rfl (k.eq1 1 69 rfl) rfl (fun _ => rfl) (r_gtrK ad), rfl⟩) <| .m (fun k => k.eq1 2 70 rfl) <| .s (fun k => k.eq1 3 71 rfl) <| .s (fun k => k.eq1 3 71 rfl) <| .s (fun k => k.eq1 3 71 rfl) <| .t (fun _ w hn k => ⟨_, v_pickF rfl (k.eq1 3 71 rfl) rfl, rfl⟩) <| .a (fun k => k.eq1 7 75 rfl) .nil
 refine aftI aA bE bF fun p0 p1 c8 hQ hR a9 am => ?_
 have p2 := am.fx 5 bs
 have md := am.fx 6 cm
 have me := am.fx 2 cn
 have p3 := am.fx 4 eV
 have mf := am.fx 7 co
 have mg := am.fx 8 cp
 have mh := am.ge 8 67 rfl
 have hS := bG.new_ a9
 have oR := cQ.new_ a9
 have hT := bH.new_ a9
 have oS := bI.new_ a9
 refine st_nil (c7 _ _ ?_)
 refine wp_cond_false mh ?_
 refine wp_skip ?_
 refine a4 _ _ ?_
 refine wp_seq_k fun p4 c9 => ?_
 refine wp_seq_k fun p5 hU => ?_
 refine wp_g0 [true] [] 91
   [ve (.bool ng)] c8 (.eq (.nil)) ?_ ?_
 exact .m (fun k => k.fx 6 md) .nil
 refine aftI c8 hQ hR fun p6 p7 ba da db dc bb => ?_
 have fh := bb.fx 2 me
 have cr := bb.fx 7 mf
 have fi := bb.fx 8 mg
 have fj := bb.ge 0 86 rfl
 have de := hS.new_ dc
 have bM := hT.new_ dc
 refine st_nil (hU _ _ ?_)
 rcases bc (ng) with aO | aO
 have hV := hB fj aO
 refine wp_cond_true hV ?_
 refine wp_g0 [true, true, false] [(2, false)] 91
   [ve (nv (Nm.mk 2 0)), ve (nv (negM (Nm.mk 2 0))), vt] ba (.eq (.eq (.tt (.nil)))) ?_ ?_
 exact .t (fun _ w hn k => ⟨_, v_load rfl (k.fx 7 cr) (l_two Tryd.isAgg23 Tryd.sizeOf23 (bM.new_ hn)), rfl⟩) <| .o1 (ck rfl rfl rfl (fun _ w hn k => ⟨#[nv (Nm.mk 2 0)], args1 (k.eq1 0 87 rfl), fun _ => by kernel_rfl, nneg_c (Nm.mk 2 0) _ ⟩) fun _ => rfl) <| .off .nil
 refine aftI ba da db fun p8 p9 df hW hX dg bd => ?_
 have mi := bd.fx 2 fh
 have fk := bd.fx 7 cr
 have mj := bd.fx 8 fi
 have ml := bd.ge 1 88 rfl
 have hY := de.new_ dg
 have hZ := bM.new_ dg
 obtain ⟨qa, -, fl, h3, h4, h5⟩ := s_two (v0 := iv ((negM (Nm.mk 2 0)).k)) (v1 := iv ((negM (Nm.mk 2 0)).n)) Tryd.sizeOf23 rfl rfl rfl hZ
 refine st_act rfl rfl fun qb h6 => a_store' rfl fk ml fl (h6 _ _ trivial ?_)
 have h7 := h5 _ _ _ (hne156) hY
 have ia := hX.trans h4 (fun _ h b => by subst b; omega)
 refine st_nil (c9 _ _ (wp_seq_k fun qc ib => ?_))
 refine wp_g [true, true, false, false] [1] [(2, false), (3, true)] 91
   [ve (nv (negM (Nm.mk 2 0))), ve (.bool (!(strangeN (trimN u)))), vt, vt]
   [] newsNil df (.eq (.eq (.tt (.tt (.nil))))) ?_ ?_ ?_
 refine .t (fun _ w hn k => ⟨_, v_load rfl (k.fx 7 fk) (l_two Tryd.isAgg23 Tryd.sizeOf23 (h3.new_ hn)), rfl⟩) ?_
 refine .o3 ?_
 exact .off <| .off .nil
 intro i h
 simp only [List.contains_eq_mem, List.mem_cons, List.not_mem_nil, or_false, decide_eq_true_eq] at h
 subst h
 exact eager_take rfl rfl fun _ w hn k => ⟨.bool (!(strangeN (trimN u))), fun w => v_move rfl (k.fx 8 mj), rfl⟩
 refine aftI df hW ia fun fm qd dh ic id ie bN => ?_
 have fn := bN.fx 2 mi
 have fo := bN.ge 0 89 rfl
 have fp := bN.ge 1 90 rfl
 have ig := h7.new_ ie
 obtain ⟨qe, -, fq, ih, ii, oU⟩ := s_two (v0 := iv ((negM (Nm.mk 2 0)).k)) (v1 := iv ((negM (Nm.mk 2 0)).n)) Tryd.sizeOf23 rfl rfl rfl ig
 refine st_act rfl rfl fun qf ij => a_store' rfl fn fo fq (ij _ _ trivial ?_)
 have ik := id.trans ii (fun _ h b => by subst b; omega)
 refine st_take rfl rfl (y_assign (v := .bool (!(strangeN (trimN u)))) rfl fp) rfl ?_
 obtain ⟨mn, an⟩ : ∃ a', a' = fm.put (some 3) (.bool (!(strangeN (trimN u)))) := ⟨_, rfl⟩
 have oV := pz an dh
 have il := pd an ic
 have mo := pn an fn (by decide)
 have qg := pn an fo (by decide)
 have qh := pn an fp (by decide)
 have mp : mn.eval (.tmp 3) = .bool (!(strangeN (trimN u))) := by rw [an]; exact put_same _ _ _ (by rw [dh]; decide)
 show stepsTo _ _ _ _ _ (fm.put (some 3) (.bool (!(strangeN (trimN u))))) _
 rw [← an]
 refine st_nil (ib _ _ ?_)
 refine wp_ret (ret_k il (v := .tuple #[nv (negM (Nm.mk 2 0)), .bool (!(strangeN (trimN u)))]) (res_ct rfl mo mp (l_two Tryd.isAgg23 Tryd.sizeOf23 ih)) ?_)
 refine ⟨?_, ik⟩
 show Ending.returned (.tuple #[nv (negM (Nm.mk 2 0)), .bool (!(strangeN (trimN u)))]) = Ending.returned (.tuple #[nv ((numT u).1), .bool ((numT u).2)])
 first | rfl | (simp only [hbody, bodyT, ab, ac, ad, aO, bsm] <;> rfl) | (exfalso; omega)
 have im := hB fj aO
 refine wp_cond_false im ?_
 refine wp_skip ?_
 refine c9 _ _ ?_
 refine wp_seq_k fun qi io => ?_
 refine wp_g [true, true, false, false] [1] [(2, false), (3, true)] 91
   [ve (nv (Nm.mk 2 0)), ve (.bool (!(strangeN (trimN u)))), vt, vt]
   [] newsNil ba (.eq (.eq (.tt (.tt (.nil))))) ?_ ?_ ?_
 refine .t (fun _ w hn k => ⟨_, v_load rfl (k.fx 7 cr) (l_two Tryd.isAgg23 Tryd.sizeOf23 (bM.new_ hn)), rfl⟩) ?_
 refine .o3 ?_
 exact .off <| .off .nil
 intro i h
 simp only [List.contains_eq_mem, List.mem_cons, List.not_mem_nil, or_false, decide_eq_true_eq] at h
 subst h
 exact eager_take rfl rfl fun _ w hn k => ⟨.bool (!(strangeN (trimN u))), fun w => v_move rfl (k.fx 8 fi), rfl⟩
 refine aftI ba da db fun fr qj di ip iq ir bO => ?_
 have fs := bO.fx 2 fh
 have ft := bO.ge 0 89 rfl
 have fu := bO.ge 1 90 rfl
 have it := de.new_ ir
 obtain ⟨qk, -, fv, iu, iw, oW⟩ := s_two (v0 := iv 2) (v1 := iv 0) Tryd.sizeOf23 rfl rfl rfl it
 refine st_act rfl rfl fun ql ix => a_store' rfl fs ft fv (ix _ _ trivial ?_)
 have iy := iq.trans iw (fun _ h b => by subst b; omega)
 refine st_take rfl rfl (y_assign (v := .bool (!(strangeN (trimN u)))) rfl fu) rfl ?_
 obtain ⟨mq, ao⟩ : ∃ a', a' = fr.put (some 3) (.bool (!(strangeN (trimN u)))) := ⟨_, rfl⟩
 have oX := pz ao di
 have iz := pd ao ip
 have mr := pn ao fs (by decide)
 have qm := pn ao ft (by decide)
 have qn := pn ao fu (by decide)
 have ms : mq.eval (.tmp 3) = .bool (!(strangeN (trimN u))) := by rw [ao]; exact put_same _ _ _ (by rw [di]; decide)
 show stepsTo _ _ _ _ _ (fr.put (some 3) (.bool (!(strangeN (trimN u))))) _
 rw [← ao]
 refine st_nil (io _ _ ?_)
 refine wp_ret (ret_k iz (v := .tuple #[nv (Nm.mk 2 0), .bool (!(strangeN (trimN u)))]) (res_ct rfl mr ms (l_two Tryd.isAgg23 Tryd.sizeOf23 iu)) ?_)
 refine ⟨?_, iy⟩
 show Ending.returned (.tuple #[nv (Nm.mk 2 0), .bool (!(strangeN (trimN u)))]) = Ending.returned (.tuple #[nv ((numT u).1), .bool ((numT u).2)])
 first | rfl | (simp only [hbody, bodyT, ab, ac, ad, aO, bsm] <;> rfl) | (exfalso; omega)
 have fg := oF ad
 refine wp_g0 (.replicate 9 true) [] 91
   [ve (sv A5 dd c5), ve (iv (dd.length : Int)), vT, vT, ve (sv A5 dd c5), ve (.bool (dd.any (fun y : Nat => !dgtN y))), ve (.bool (!(dd.any (fun y : Nat => !dgtN y)))), ve (.bool (!(dd.any (fun y : Nat => !dgtN y)))), ve (.bool (!(dd.any (fun y : Nat => !dgtN y))))] aA (.eq (.eq (.eq (.eq (.eq (.eq (.eq (.eq (.eq (.nil)))))))))) ?_ ?_
 exact .m (fun k => k.fx 5 bs) <| .t (fun _ w hn k => ⟨_, v_lenR rfl elU (k.eq1 0 68 rfl), rfl⟩) <| .t (fun _ w hn k => ⟨_, v_bin rfl (k.eq1 1 69 rfl) rfl (fun _ => rfl) (r_gtrK ad), rfl⟩) <| .m (fun k => k.eq1 2 70 rfl) <| .gm (fun k => k.eq1 3 71 rfl) (fun k => k.fx 5 bs) <| .o1 (cg rfl rfl rfl (fun _ _ k => k.eq1 3 71 rfl) rfl (fun _ w hn k => ⟨#[sv A5 dd c5, .func (.func 62) #[] #[]], args2 (k.eq1 4 72 rfl) rfl, fun _ => by kernel_rfl, containsf_c _ dd _ _ (bI.new_ hn) hdd⟩) fun _ => rfl) <| .g (fun k => k.eq1 3 71 rfl) (fun _ w hn k => ⟨_, v_not rfl (k.eq1 5 73 rfl), rfl⟩) <| .t (fun _ w hn k => ⟨_, v_pickT rfl (k.eq1 3 71 rfl) (k.eq1 6 74 rfl), rfl⟩) <| .a (fun k => k.eq1 7 75 rfl) .nil
 refine aftI aA bE bF fun fw qo be dj dk bf ap => ?_
 have mt := ap.fx 5 bs
 have fy := ap.fx 6 cm
 have fz := ap.fx 2 cn
 have mu := ap.fx 4 eV
 have fA := ap.fx 7 co
 have mv := ap.fx 8 cp
 have fB := ap.ge 8 67 rfl
 have dl := bG.new_ bf
 have iA := cQ.new_ bf
 have dm := bH.new_ bf
 have iB := bI.new_ bf
 refine st_nil (c7 _ _ ?_)
 rcases bc (dd.any (fun y : Nat => !dgtN y)) with af | af
 have iC : fw.eval (.tmp 67) = .bool false := fB.trans (congrArg Value.bool (by rw [af]; rfl))
 refine wp_cond_false iC ?_
 refine wp_skip ?_
 refine a4 _ _ ?_
 refine wp_seq_k fun qp dn => ?_
 refine wp_seq_k fun qq iD => ?_
 refine wp_g0 [true] [] 91
   [ve (.bool ng)] be (.eq (.nil)) ?_ ?_
 exact .m (fun k => k.fx 6 fy) .nil
 refine aftI be dj dk fun qr qs bg dp dq dr bh => ?_
 have fC := bh.fx 2 fz
 have ct := bh.fx 7 fA
 have fD := bh.fx 8 mv
 have fE := bh.ge 0 86 rfl
 have ds := dl.new_ dr
 have bP := dm.new_ dr
 refine st_nil (iD _ _ ?_)
 rcases bc (ng) with aP | aP
 have iE := hB fE aP
 refine wp_cond_true iE ?_
 refine wp_g0 [true, true, false] [(2, false)] 91
   [ve (nv (Nm.mk 2 0)), ve (nv (negM (Nm.mk 2 0))), vt] bg (.eq (.eq (.tt (.nil)))) ?_ ?_
 exact .t (fun _ w hn k => ⟨_, v_load rfl (k.fx 7 ct) (l_two Tryd.isAgg23 Tryd.sizeOf23 (bP.new_ hn)), rfl⟩) <| .o1 (ck rfl rfl rfl (fun _ w hn k => ⟨#[nv (Nm.mk 2 0)], args1 (k.eq1 0 87 rfl), fun _ => by kernel_rfl, nneg_c (Nm.mk 2 0) _ ⟩) fun _ => rfl) <| .off .nil
 refine aftI bg dp dq fun qt qu dt iF iG du bi => ?_
 have mw := bi.fx 2 fC
 have fF := bi.fx 7 ct
 have mx := bi.fx 8 fD
 have my := bi.ge 1 88 rfl
 have iH := ds.new_ du
 have iI := bP.new_ du
 obtain ⟨qv, -, fG, iJ, iK, iL⟩ := s_two (v0 := iv ((negM (Nm.mk 2 0)).k)) (v1 := iv ((negM (Nm.mk 2 0)).n)) Tryd.sizeOf23 rfl rfl rfl iI
 refine st_act rfl rfl fun qw iM => a_store' rfl fF my fG (iM _ _ trivial ?_)
 have iN := iL _ _ _ (hne156) iH
 have iO := iG.trans iK (fun _ h b => by subst b; omega)
 refine st_nil (dn _ _ (wp_seq_k fun qx iP => ?_))
 refine wp_g [true, true, false, false] [1] [(2, false), (3, true)] 91
   [ve (nv (negM (Nm.mk 2 0))), ve (.bool (!(strangeN (trimN u)))), vt, vt]
   [] newsNil dt (.eq (.eq (.tt (.tt (.nil))))) ?_ ?_ ?_
 refine .t (fun _ w hn k => ⟨_, v_load rfl (k.fx 7 fF) (l_two Tryd.isAgg23 Tryd.sizeOf23 (iJ.new_ hn)), rfl⟩) ?_
 refine .o3 ?_
 exact .off <| .off .nil
 intro i h
 simp only [List.contains_eq_mem, List.mem_cons, List.not_mem_nil, or_false, decide_eq_true_eq] at h
 subst h
 exact eager_take rfl rfl fun _ w hn k => ⟨.bool (!(strangeN (trimN u))), fun w => v_move rfl (k.fx 8 mx), rfl⟩
 refine aftI dt iF iO fun fH qy dv iQ iR iS bQ => ?_
 have fI := bQ.fx 2 mw
 have fJ := bQ.ge 0 89 rfl
 have fK := bQ.ge 1 90 rfl
 have iT := iN.new_ iS
 obtain ⟨qz, -, fL, iU, iV, oY⟩ := s_two (v0 := iv ((negM (Nm.mk 2 0)).k)) (v1 := iv ((negM (Nm.mk 2 0)).n)) Tryd.sizeOf23 rfl rfl rfl iT
 refine st_act rfl rfl fun qA iW => a_store' rfl fI fJ fL (iW _ _ trivial ?_)
 have iX := iR.trans iV (fun _ h b => by subst b; omega)
 refine st_take rfl rfl (y_assign (v := .bool (!(strangeN (trimN u)))) rfl fK) rfl ?_
 obtain ⟨mz, aq⟩ : ∃ a', a' = fH.put (some 3) (.bool (!(strangeN (trimN u)))) := ⟨_, rfl⟩
 have oZ := pz aq dv
 have iY := pd aq iQ
 have mA := pn aq fI (by decide)
 have qB := pn aq fJ (by decide)
 have qC := pn aq fK (by decide)
 have mB : mz.eval (.tmp 3) = .bool (!(strangeN (trimN u))) := by rw [aq]; exact put_same _ _ _ (by rw [dv]; decide)
 show stepsTo _ _ _ _ _ (fH.put (some 3) (.bool (!(strangeN (trimN u))))) _
 rw [← aq]
 refine st_nil (iP _ _ ?_)
 refine wp_ret (ret_k iY (v := .tuple #[nv (negM (Nm.mk 2 0)), .bool (!(strangeN (trimN u)))]) (res_ct rfl mA mB (l_two Tryd.isAgg23 Tryd.sizeOf23 iU)) ?_)
 refine ⟨?_, iX⟩
 show Ending.returned (.tuple #[nv (negM (Nm.mk 2 0)), .bool (!(strangeN (trimN u)))]) = Ending.returned (.tuple #[nv ((numT u).1), .bool ((numT u).2)])
 first | rfl | (simp only [hbody, bodyT, ab, ac, ad, af, aP, bsm] <;> rfl) | (exfalso; omega)
 have iZ := hB fE aP
 refine wp_cond_false iZ ?_
 refine wp_skip ?_
 refine dn _ _ ?_
 refine wp_seq_k fun qD i0 => ?_
 refine wp_g [true, true, false, false] [1] [(2, false), (3, true)] 91
   [ve (nv (Nm.mk 2 0)), ve (.bool (!(strangeN (trimN u)))), vt, vt]
   [] newsNil bg (.eq (.eq (.tt (.tt (.nil))))) ?_ ?_ ?_
 refine .t (fun _ w hn k => ⟨_, v_load rfl (k.fx 7 ct) (l_two Tryd.isAgg23 Tryd.sizeOf23 (bP.new_ hn)), rfl⟩) ?_
 refine .o3 ?_
 exact .off <| .off .nil
 intro i h
 simp only [List.contains_eq_mem, List.mem_cons, List.not_mem_nil, or_false, decide_eq_true_eq] at h
 subst h
 exact eager_take rfl rfl fun _ w hn k => ⟨.bool (!(strangeN (trimN u))), fun w => v_move rfl (k.fx 8 fD), rfl⟩
 refine aftI bg dp dq fun fM qE dx i1 i2 i3 bR => ?_
 have fN := bR.fx 2 fC
 have fO := bR.ge 0 89 rfl
 have fP := bR.ge 1 90 rfl
 have i4 := ds.new_ i3
 obtain ⟨qF, -, fQ, i5, i6, o0⟩ := s_two (v0 := iv 2) (v1 := iv 0) Tryd.sizeOf23 rfl rfl rfl i4
 refine st_act rfl rfl fun qG i7 => a_store' rfl fN fO fQ (i7 _ _ trivial ?_)
 have i8 := i2.trans i6 (fun _ h b => by subst b; omega)
 refine st_take rfl rfl (y_assign (v := .bool (!(strangeN (trimN u)))) rfl fP) rfl ?_
 obtain ⟨mC, ar⟩ : ∃ a', a' = fM.put (some 3) (.bool (!(strangeN (trimN u)))) := ⟨_, rfl⟩
 have o5 := pz ar dx
 have i9 := pd ar i1
 have mD := pn ar fN (by decide)
 have qH := pn ar fO (by decide)
 have qI := pn ar fP (by decide)
 have mE : mC.eval (.tmp 3) = .bool (!(strangeN (trimN u))) := by rw [ar]; exact put_same _ _ _ (by rw [dx]; decide)
 show stepsTo _ _ _ _ _ (fM.put (some 3) (.bool (!(strangeN (trimN u))))) _
 rw [← ar]
 refine st_nil (i0 _ _ ?_)
 refine wp_ret (ret_k i9 (v := .tuple #[nv (Nm.mk 2 0), .bool (!(strangeN (trimN u)))]) (res_ct rfl mD mE (l_two Tryd.isAgg23 Tryd.sizeOf23 i5)) ?_)
 refine ⟨?_, i8⟩
 show Ending.returned (.tuple #[nv (Nm.mk 2 0), .bool (!(strangeN (trimN u)))]) = Ending.returned (.tuple #[nv ((numT u).1), .bool ((numT u).2)])
 first | rfl | (simp only [hbody, bodyT, ab, ac, ad, af, aP, bsm] <;> rfl) | (exfalso; omega)
 have ja : fw.eval (.tmp 67) = .bool true := fB.trans (congrArg Value.bool (by rw [af]; rfl))
 refine wp_cond_true ja ?_
 refine wp_seq_k fun qJ jb => ?_
 refine wp_g0 [true, true, true, true, true, true, true] [] 91
   [ve (sv A5 dd c5), ve (.tuple #[iv ((valR dd 0).1), .bool ((valR dd 0).2)]), ve (.tuple #[iv ((valR dd 0).1), .bool ((valR dd 0).2)]), ve (iv ((valR dd 0).1)), ve (.bool ((valR dd 0).2)), ve (iv ((valR dd 0).1)), ve (.bool ((valR dd 0).2))] be (.eq (.eq (.eq (.eq (.eq (.eq (.eq (.nil)))))))) ?_ ?_
 exact .m (fun k => k.fx 5 mt) <| .o1 (ck rfl rfl rfl (fun _ w hn k => ⟨#[sv A5 dd c5], args1 (k.eq1 0 77 rfl), fun _ => by kernel_rfl, value_c _ dd _ _ (iB.new_ hn) hdd (digs_of af)⟩) fun _ => rfl) <| .m (fun k => k.eq1 1 78 rfl) <| .t (fun _ w hn k => ⟨_, v_extract rfl (k.eq1 2 76 rfl) rfl, rfl⟩) <| .t (fun _ w hn k => ⟨_, v_extract rfl (k.eq1 2 76 rfl) rfl, rfl⟩) <| .a (fun k => k.eq1 3 79 rfl) <| .a (fun k => k.eq1 4 80 rfl) .nil
 refine aftI be dj dk fun qK qL dy jc jd bS aB => ?_
 have mF := aB.fx 6 fy
 have mG := aB.fx 2 fz
 have mH := aB.fx 4 mu
 have mI := aB.fx 7 fA
 have mJ := aB.ge 5 9 rfl
 have mK := aB.ge 6 10 rfl
 have je := dl.new_ bS
 have jf := iA.new_ bS
 have jg := dm.new_ bS
 refine st_nil (jb _ _ (wp_seq_k fun qM jh => ?_))
 refine wp_seq_k fun qN ji => ?_
 refine wp_g0 [true, true] [] 91
   [ve (.bool ((valR dd 0).2)), ve (.bool (!((valR dd 0).2)))] dy (.eq (.eq (.nil))) ?_ ?_
 exact .m (fun k => k.fx 10 mK) <| .t (fun _ w hn k => ⟨_, v_not rfl (k.eq1 0 81 rfl), rfl⟩) .nil
 refine aftI dy jc jd fun fR qO bj dz dA bT aC => ?_
 have mL := aC.fx 6 mF
 have fS := aC.fx 2 mG
 have mM := aC.fx 4 mH
 have mN := aC.fx 7 mI
 have mO := aC.fx 9 mJ
 have fT := aC.ge 1 82 rfl
 have dB := je.new_ bT
 have jj := jf.new_ bT
 have jk := jg.new_ bT
 refine st_nil (ji _ _ ?_)
 rcases bc ((valR dd 0).2) with aD | aD
 have jl : fR.eval (.tmp 82) = .bool false := fT.trans (congrArg Value.bool (by rw [aD]; rfl))
 refine wp_cond_false jl ?_
 refine wp_skip ?_
 refine jh _ _ ?_
 refine wp_g0 [true, true, false, false] [(2, false), (3, true)] 91
   [ve (iv ((valR dd 0).1)), ve (nv (Nm.mk 0 ((valR dd 0).1))), vt, vt] bj (.eq (.eq (.tt (.tt (.nil))))) ?_ ?_
 exact .m (fun k => k.fx 9 mO) <| .t (fun _ w hn k => ⟨_, v_build (ps := [(1, iv ((valR dd 0).1))]) rfl (parts1 (k.eq1 0 84 rfl)) (by kernel_rfl), rfl⟩) <| .off <| .off .nil
 refine aftI bj dz dA fun fU qP dC jm jn dD bk => ?_
 have mP := bk.fx 6 mL
 have mQ := bk.fx 2 fS
 have fV := bk.fx 7 mN
 have fW := bk.ge 1 85 rfl
 have jo := dB.new_ dD
 have jp := jk.new_ dD
 obtain ⟨qQ, -, fX, jq, jr, js⟩ := s_two (v0 := iv 0) (v1 := iv ((valR dd 0).1)) Tryd.sizeOf23 rfl rfl rfl jp
 refine st_act rfl rfl fun qR jt => a_store' rfl fV fW fX (jt _ _ trivial ?_)
 have ju := js _ _ _ (hne156) jo
 have jv := jn.trans jr (fun _ h b => by subst b; omega)
 refine st_take rfl rfl (y_assign (v := .bool true) rfl rfl) rfl ?_
 obtain ⟨mR, ag⟩ : ∃ a', a' = fU.put (some 8) (.bool true) := ⟨_, rfl⟩
 have dE := pz ag dC
 have jw := pd ag jm
 have mS := pn ag mP (by decide)
 have mT := pn ag mQ (by decide)
 have mU := pn ag fV (by decide)
 have qS := pn ag fW (by decide)
 have mV : mR.eval (.tmp 8) = .bool true := by rw [ag]; exact put_same _ _ _ (by rw [dC]; decide)
 show stepsTo _ _ _ _ _ (fU.put (some 8) (.bool true)) _
 rw [← ag]
 refine st_nil (a4 _ _ (wp_seq_k fun qT dF => ?_))
 refine wp_seq_k fun qU jx => ?_
 refine wp_g0 [true] [] 91
   [ve (.bool ng)] dE (.eq (.nil)) ?_ ?_
 exact .m (fun k => k.fx 6 mS) .nil
 refine aftI dE jw jv fun qV qW bl dG dH dI bm => ?_
 have fY := bm.fx 2 mT
 have cv := bm.fx 7 mU
 have fZ := bm.fx 8 mV
 have f0 := bm.ge 0 86 rfl
 have dJ := ju.new_ dI
 have bU := jq.new_ dI
 refine st_nil (jx _ _ ?_)
 rcases bc (ng) with aQ | aQ
 have jy := hB f0 aQ
 refine wp_cond_true jy ?_
 refine wp_g0 [true, true, false] [(2, false)] 91
   [ve (nv (Nm.mk 0 ((valR dd 0).1))), ve (nv (negM (Nm.mk 0 ((valR dd 0).1)))), vt] bl (.eq (.eq (.tt (.nil)))) ?_ ?_
 exact .t (fun _ w hn k => ⟨_, v_load rfl (k.fx 7 cv) (l_two Tryd.isAgg23 Tryd.sizeOf23 (bU.new_ hn)), rfl⟩) <| .o1 (ck rfl rfl rfl (fun _ w hn k => ⟨#[nv (Nm.mk 0 ((valR dd 0).1))], args1 (k.eq1 0 87 rfl), fun _ => by kernel_rfl, nneg_c (Nm.mk 0 ((valR dd 0).1)) _ ⟩) fun _ => rfl) <| .off .nil
 refine aftI bl dG dH fun qX qY dK jz jA dL bn => ?_
 have mW := bn.fx 2 fY
 have f1 := bn.fx 7 cv
 have mX := bn.fx 8 fZ
 have mY := bn.ge 1 88 rfl
 have jB := dJ.new_ dL
 have jC := bU.new_ dL
 obtain ⟨qZ, -, f2, jD, jE, jF⟩ := s_two (v0 := iv ((negM (Nm.mk 0 ((valR dd 0).1))).k)) (v1 := iv ((negM (Nm.mk 0 ((valR dd 0).1))).n)) Tryd.sizeOf23 rfl rfl rfl jC
 refine st_act rfl rfl fun q0 jG => a_store' rfl f1 mY f2 (jG _ _ trivial ?_)
 have jH := jF _ _ _ (hne156) jB
 have jI := jA.trans jE (fun _ h b => by subst b; omega)
 refine st_nil (dF _ _ (wp_seq_k fun q1 jJ => ?_))
 refine wp_g [true, true, false, false] [1] [(2, false), (3, true)] 91
   [ve (nv (negM (Nm.mk 0 ((valR dd 0).1)))), vT, vt, vt]
   [] newsNil dK (.eq (.eq (.tt (.tt (.nil))))) ?_ ?_ ?_
 refine .t (fun _ w hn k => ⟨_, v_load rfl (k.fx 7 f1) (l_two Tryd.isAgg23 Tryd.sizeOf23 (jD.new_ hn)), rfl⟩) ?_
 refine .o3 ?_
 exact .off <| .off .nil
 intro i h
 simp only [List.contains_eq_mem, List.mem_cons, List.not_mem_nil, or_false, decide_eq_true_eq] at h
 subst h
 exact eager_take rfl rfl fun _ w hn k => ⟨.bool true, fun w => v_move rfl (k.fx 8 mX), rfl⟩
 refine aftI dK jz jI fun f3 q2 dM jK jL jM bV => ?_
 have f4 := bV.fx 2 mW
 have f5 := bV.ge 0 89 rfl
 have f6 := bV.ge 1 90 rfl
 have jN := jH.new_ jM
 obtain ⟨q3, -, f7, jO, jP, o7⟩ := s_two (v0 := iv ((negM (Nm.mk 0 ((valR dd 0).1))).k)) (v1 := iv ((negM (Nm.mk 0 ((valR dd 0).1))).n)) Tryd.sizeOf23 rfl rfl rfl jN
 refine st_act rfl rfl fun q4 jQ => a_store' rfl f4 f5 f7 (jQ _ _ trivial ?_)
 have jR := jL.trans jP (fun _ h b => by subst b; omega)
 refine st_take rfl rfl (y_assign (v := .bool true) rfl f6) rfl ?_
 obtain ⟨mZ, au⟩ : ∃ a', a' = f3.put (some 3) (.bool true) := ⟨_, rfl⟩
 have o8 := pz au dM
 have jS := pd au jK
 have m0 := pn au f4 (by decide)
 have q5 := pn au f5 (by decide)
 have q6 := pn au f6 (by decide)
 have m1 : mZ.eval (.tmp 3) = .bool true := by rw [au]; exact put_same _ _ _ (by rw [dM]; decide)
 show stepsTo _ _ _ _ _ (f3.put (some 3) (.bool true)) _
 rw [← au]
 refine st_nil (jJ _ _ ?_)
 refine wp_ret (ret_k jS (v := .tuple #[nv (negM (Nm.mk 0 ((valR dd 0).1))), .bool true]) (res_ct rfl m0 m1 (l_two Tryd.isAgg23 Tryd.sizeOf23 jO)) ?_)
 refine ⟨?_, jR⟩
 show Ending.returned (.tuple #[nv (negM (Nm.mk 0 ((valR dd 0).1))), .bool true]) = Ending.returned (.tuple #[nv ((numT u).1), .bool ((numT u).2)])
 first | rfl | (simp only [hbody, bodyT, ab, ac, ad, af, aD, aQ, bsm] <;> rfl) | (exfalso; omega)
 have jT := hB f0 aQ
 refine wp_cond_false jT ?_
 refine wp_skip ?_
 refine dF _ _ ?_
 refine wp_seq_k fun q7 jU => ?_
 refine wp_g [true, true, false, false] [1] [(2, false), (3, true)] 91
   [ve (nv (Nm.mk 0 ((valR dd 0).1))), vT, vt, vt]
   [] newsNil bl (.eq (.eq (.tt (.tt (.nil))))) ?_ ?_ ?_
 refine .t (fun _ w hn k => ⟨_, v_load rfl (k.fx 7 cv) (l_two Tryd.isAgg23 Tryd.sizeOf23 (bU.new_ hn)), rfl⟩) ?_
 refine .o3 ?_
 exact .off <| .off .nil
 intro i h
 simp only [List.contains_eq_mem, List.mem_cons, List.not_mem_nil, or_false, decide_eq_true_eq] at h
 subst h
 exact eager_take rfl rfl fun _ w hn k => ⟨.bool true, fun w => v_move rfl (k.fx 8 fZ), rfl⟩
 refine aftI bl dG dH fun f8 q8 dN jV jW jX bW => ?_
 have f9 := bW.fx 2 fY
 have ga := bW.ge 0 89 rfl
 have gb := bW.ge 1 90 rfl
 have jY := dJ.new_ jX
 obtain ⟨q9, -, gc, jZ, j0, o9⟩ := s_two (v0 := iv 0) (v1 := iv ((valR dd 0).1)) Tryd.sizeOf23 rfl rfl rfl jY
 refine st_act rfl rfl fun ra j1 => a_store' rfl f9 ga gc (j1 _ _ trivial ?_)
 have j2 := jW.trans j0 (fun _ h b => by subst b; omega)
 refine st_take rfl rfl (y_assign (v := .bool true) rfl gb) rfl ?_
 obtain ⟨m2, av⟩ : ∃ a', a' = f8.put (some 3) (.bool true) := ⟨_, rfl⟩
 have pa := pz av dN
 have j3 := pd av jV
 have m3 := pn av f9 (by decide)
 have rb := pn av ga (by decide)
 have rc := pn av gb (by decide)
 have m4 : m2.eval (.tmp 3) = .bool true := by rw [av]; exact put_same _ _ _ (by rw [dN]; decide)
 show stepsTo _ _ _ _ _ (f8.put (some 3) (.bool true)) _
 rw [← av]
 refine st_nil (jU _ _ ?_)
 refine wp_ret (ret_k j3 (v := .tuple #[nv (Nm.mk 0 ((valR dd 0).1)), .bool true]) (res_ct rfl m3 m4 (l_two Tryd.isAgg23 Tryd.sizeOf23 jZ)) ?_)
 refine ⟨?_, j2⟩
 show Ending.returned (.tuple #[nv (Nm.mk 0 ((valR dd 0).1)), .bool true]) = Ending.returned (.tuple #[nv ((numT u).1), .bool ((numT u).2)])
 first | rfl | (simp only [hbody, bodyT, ab, ac, ad, af, aD, aQ, bsm] <;> rfl) | (exfalso; omega)
 have j4 : fR.eval (.tmp 82) = .bool true := fT.trans (congrArg Value.bool (by rw [aD]; rfl))
 refine wp_cond_true j4 ?_
 refine wp_seq_k fun rd j5 => ?_
 refine wp_g0 [true, false, false] [(1, false), (2, true)] 91
   [ve (nv (Nm.mk 2 0)), vt, vt] bj (.eq (.tt (.tt (.nil)))) ?_ ?_
 exact .t (fun _ w hn k => ⟨_, v_load rfl (k.fx 4 mM) (l_two Tryd.isAgg23 Tryd.sizeOf23 (jj.new_ hn)), rfl⟩) <| .off <| .off .nil
 refine aftI bj dz dA fun gd re dO j6 j7 j8 dP => ?_
 have gf := dP.fx 2 fS
 have gg := dP.ge 0 83 rfl
 have j9 := dB.new_ j8
 obtain ⟨rf, -, gh, ka, kb, pb⟩ := s_two (v0 := iv 2) (v1 := iv 0) Tryd.sizeOf23 rfl rfl rfl j9
 refine st_act rfl rfl fun rg kc => a_store' rfl gf gg gh (kc _ _ trivial ?_)
 have kd := j7.trans kb (fun _ h b => by subst b; omega)
 refine st_take rfl rfl (y_assign (v := .bool false) rfl rfl) rfl ?_
 obtain ⟨m5, aE⟩ : ∃ a', a' = gd.put (some 3) (.bool false) := ⟨_, rfl⟩
 have pc := pz aE dO
 have ke := pd aE j6
 have m6 := pn aE gf (by decide)
 have rh := pn aE gg (by decide)
 have m7 : m5.eval (.tmp 3) = .bool false := by rw [aE]; exact put_same _ _ _ (by rw [dO]; decide)
 show stepsTo _ _ _ _ _ (gd.put (some 3) (.bool false)) _
 rw [← aE]
 refine st_nil (j5 _ _ ?_)
 refine wp_ret (ret_k ke (v := .tuple #[nv (Nm.mk 2 0), .bool false]) (res_ct rfl m6 m7 (l_two Tryd.isAgg23 Tryd.sizeOf23 ka)) ?_)
 refine ⟨?_, kd⟩
 show Ending.returned (.tuple #[nv (Nm.mk 2 0), .bool false]) = Ending.returned (.tuple #[nv ((numT u).1), .bool ((numT u).2)])
 first | rfl | (simp only [hbody, bodyT, ab, ac, ad, af, aD, bsm] <;> rfl) | (exfalso; omega)
 intro ri bX
 refine wp_seq_k fun rj dQ => ?_
 rcases bc (decide ((((trimN u).getD 0 0 : Nat) : Int) = 45)) with ah | ah
 have gi := oT ah
 have dR := hB eL ah
 refine wp_g0 [true, true, true, true, true, true, true] [] 91
   [vT, vT, vU, vU, vU, vU, vT] a3 (.eq (.eq (.eq (.eq (.eq (.eq (.eq (.nil)))))))) ?_ ?_
 exact .m (fun k => k.fx 6 dR) <| .m (fun k => k.eq1 0 49 rfl) <| .s (fun k => k.eq1 1 50 rfl) <| .s (fun k => k.eq1 1 50 rfl) <| .s (fun k => k.eq1 1 50 rfl) <| .s (fun k => k.eq1 1 50 rfl) <| .t (fun _ w hn k => ⟨_, v_pickT rfl (k.eq1 1 50 rfl) rfl, rfl⟩) .nil
 refine aftI a3 cD cE fun rk rl dS kf kg bY aF => ?_
 have gj := aF.fx 0 cl
 have m8 := aF.fx 2 eI
 have m9 := aF.fx 4 eJ
 have rm := aF.fx 5 eK
 have na := aF.fx 6 dR
 have nb := aF.ge 6 55 rfl
 have kh := cF.new_ bY
 have ki := cG.new_ bY
 have dT := bA.new_ bY
 refine st_nil (dQ _ _ ?_)
 refine wp_cond_true nb ?_
 refine wp_g0 [true, true, true] [] 91
   [ve (sv A4 (trimN u) c4),
    (RP .u16 ((trimN u).drop 1)),
    (RP .u16 ((trimN u).drop 1))] dS (.eq (.cons (fun _ _ _ n ⟨_, _, e, h⟩ => ⟨_, _, e, h.new_ n⟩) (.cons (fun v W W' hn ⟨n4, n5, he, h0⟩ => ⟨n4, n5, he, h0.new_ hn⟩) (.nil)))) ?_ ?_
 refine .m (fun k => k.fx 0 gj) ?_
 refine .o1 (tk rfl rfl fun _ w hn k => (by
       exact x_cutL (k := .u16) rfl elU (k.eq1 0 56 rfl) rfl (dT.new_ hn) (by omega) fun n6 n7 hmr => ⟨n6, n7, rfl, hmr⟩)) ?_
 refine .o1 (tk rfl rfl fun _ w hn k => (by
       obtain ⟨n8, n9, oa, nc⟩ : (RP .u16 ((trimN u).drop 1)) _ _ := k.dep 1 57 (by kernel_rfl) (by kernel_rfl)
       exact ⟨_, v_assign rfl oa, ⟨n8, n9, rfl, nc⟩⟩)) ?_
 exact .nil
 refine aftI dS kf kg fun nd rn kj kk kl bZ aR => ?_
 have ne := aR.fx 0 gj
 have nf := aR.fx 2 m8
 have nh := aR.fx 4 m9
 have ni := aR.fx 6 na
 obtain ⟨gk, dU, cw, km⟩ : (RP .u16 ((trimN u).drop 1)) _ _ := aR.got 2 5 rfl (by kernel_rfl)
 have cw : nd.eval (.tmp 5) = sv gk ((trimN u).drop 1) dU := cw
 have kn := kh.new_ bZ
 have ko := ki.new_ bZ
 have kp := dT.new_ bZ
 refine st_nil ?_
 exact bX _ _ ⟨true, ((trimN u).drop 1), gk, dU, kj, kk, kl, cw, ni, ne, nf, nh, kn, ko, km, kp, (by unfold numT; simp only [ab, ah, bsm]), (hut.drop 1)⟩
 have gi := oF ah
 have dV := hB eL ah
 refine wp_g0 [true, true, true, true, true, true, true] [] 91
   [vF, vF, ve (sv A4 (trimN u) c4),
    (EP (.int .u16 (((trimN u).getD 0 0 : Nat) : Int))), ve (.int .u16 (((trimN u).getD 0 0 : Nat) : Int)), ve (.bool (decide ((((trimN u).getD 0 0 : Nat) : Int) = 43))), ve (.bool (decide ((((trimN u).getD 0 0 : Nat) : Int) = 43)))] a3 (.eq (.eq (.eq (.cons (fun _ _ _ n ⟨_, _, e, h⟩ => ⟨_, _, e, h.new_ n⟩) (.eq (.eq (.eq (.nil)))))))) ?_ ?_
 refine .m (fun k => k.fx 6 dV) <| .m (fun k => k.eq1 0 49 rfl) <| .gm (fun k => k.eq1 1 50 rfl) (fun k => k.fx 0 cl) ?_
 refine .o1 (tg rfl rfl rfl (fun _ _ k => k.eq1 1 50 rfl) fun _ w hn k => (by
       exact x_eaddr (k := .u16) rfl elU (k.eq1 2 51 rfl) rfl (bA.new_ hn) (by omega) fun od oe hme => ⟨od, oe, rfl, hme⟩)) ?_
 refine .o1 (tg rfl rfl rfl (fun _ _ k => k.eq1 1 50 rfl) fun _ w hn k => (by
       obtain ⟨r7, r8, og, nj⟩ : (EP (.int .u16 (((trimN u).getD 0 0 : Nat) : Int))) _ _ := k.dep 3 52 (by kernel_rfl) (by kernel_rfl)
       exact ⟨_, v_load rfl og (l_one Tryd.isAgg64 nj.1), rfl⟩)) ?_
 exact .g (fun k => k.eq1 1 50 rfl) (fun _ w hn k => ⟨_, v_bin rfl (k.eq1 4 53 rfl) rfl (fun _ => rfl) (r_eql rfl), rfl⟩) <| .t (fun _ w hn k => ⟨_, v_pickF rfl (k.eq1 1 50 rfl) (k.eq1 5 54 rfl), rfl⟩) .nil
 refine aftI a3 cD cE fun ro rp b0 dW dX b2 aG => ?_
 have cx := aG.fx 0 cl
 have gl := aG.fx 2 eI
 have gn := aG.fx 4 eJ
 have nk := aG.fx 5 eK
 have go := aG.fx 6 dV
 have gp := aG.ge 6 55 rfl
 have dY := cF.new_ b2
 have dZ := cG.new_ b2
 have bo := bA.new_ b2
 refine st_nil (dQ _ _ ?_)
 rcases bc (decide ((((trimN u).getD 0 0 : Nat) : Int) = 43)) with aw | aw
 have gq := oT aw
 have kq := hB gp aw
 refine wp_cond_true kq ?_
 refine wp_g0 [true, true, true] [] 91
   [ve (sv A4 (trimN u) c4),
    (RP .u16 ((trimN u).drop 1)),
    (RP .u16 ((trimN u).drop 1))] b0 (.eq (.cons (fun _ _ _ n ⟨_, _, e, h⟩ => ⟨_, _, e, h.new_ n⟩) (.cons (fun v W W' hn ⟨oj, ok, he, h0⟩ => ⟨oj, ok, he, h0.new_ hn⟩) (.nil)))) ?_ ?_
 refine .m (fun k => k.fx 0 cx) ?_
 refine .o1 (tk rfl rfl fun _ w hn k => (by
       exact x_cutL (k := .u16) rfl elU (k.eq1 0 56 rfl) rfl (bo.new_ hn) (by omega) fun ol om hmr => ⟨ol, om, rfl, hmr⟩)) ?_
 refine .o1 (tk rfl rfl fun _ w hn k => (by
       obtain ⟨oo, op, oq, nl⟩ : (RP .u16 ((trimN u).drop 1)) _ _ := k.dep 1 57 (by kernel_rfl) (by kernel_rfl)
       exact ⟨_, v_assign rfl oq, ⟨oo, op, rfl, nl⟩⟩)) ?_
 exact .nil
 refine aftI b0 dW dX fun nm rq kr ks kt b4 aS => ?_
 have nn := aS.fx 0 cx
 have np := aS.fx 2 gl
 have nq := aS.fx 4 gn
 have nr := aS.fx 6 go
 obtain ⟨gr, d0, cy, ku⟩ : (RP .u16 ((trimN u).drop 1)) _ _ := aS.got 2 5 rfl (by kernel_rfl)
 have cy : nm.eval (.tmp 5) = sv gr ((trimN u).drop 1) d0 := cy
 have kv := dY.new_ b4
 have kw := dZ.new_ b4
 have kx := bo.new_ b4
 refine st_nil ?_
 exact bX _ _ ⟨false, ((trimN u).drop 1), gr, d0, kr, ks, kt, cy, nr, nn, np, nq, kv, kw, ku, kx, (by unfold numT; simp only [ab, ah, aw, bsm]), (hut.drop 1)⟩
 have gq := oF aw
 have ky := hB gp aw
 refine wp_cond_false ky ?_
 refine wp_skip ?_
 exact bX _ _ ⟨false, (trimN u), A4, c4, b0, dW, dX, nk, go, cx, gl, gn, dY, dZ, bo, bo, (by unfold numT; simp only [ab, ah, aw, bsm]), hut⟩
 intro rr d1
 refine wp_block ?_
 refine wp_loopX (fun (mm : Nat) (aa : Act) (ww : World) => ∃ (cu2 : List Nat) (A2 : Option Addr) (c2 : Nat), mm = cu2.length ∧ aa.tmps.size = 91 ∧ aa.defers = [] ∧ New w ww ∧ aa.eval (.tmp 0) = sv A2 cu2 c2 ∧ aa.eval (.tmp 2) = pv ay ∧ Blk ww ay 23 [iv 0, iv 0] ∧ SRow ww .u16 A2 cu2 c2 ∧ (rtrimN cu2 = trimN u) ∧ (U16s cu2)) (fun mm => mm) ⟨_, ⟨(u.dropWhile blankN), A3, c3, rfl, lc, ld, le, nM, nN, lf, lg, rfl, (hu.dw _)⟩⟩ ?_
 rintro mm rs rt ⟨cu2, A2, c2, hmm, bp, d2, d3, aY, gs, d4, aT, hc2, hcu2⟩
 refine wp_seq_k fun ru kz => ?_
 refine wp_seq_k fun rv d5 => ?_
 have hix2 : ((cu2.length : Int) - 1).toNat = cu2.length - 1 := by omega
 rcases bc (decide ((cu2.length : Int) ≤ 0)) with aU | aU
 have gt := oT aU
 have hb := hcu2.at16 ((cu2.length : Int) - 1).toNat
 have k8 := aT.max
 refine wp_g0 (.replicate 12 true) [] 91
   [ve (sv A2 cu2 c2), ve (iv (cu2.length : Int)), vF, vF, vU, vU, vU, vU, vU, vU, vU, vF] bp (.eq (.eq (.eq (.eq (.eq (.eq (.eq (.eq (.eq (.eq (.eq (.eq (.nil))))))))))))) ?_ ?_
 exact .m (fun k => k.fx 0 aY) <| .t (fun _ w hn k => ⟨_, v_lenR rfl elU (k.eq1 0 22 rfl), rfl⟩) <| .t (fun _ w hn k => ⟨_, v_bin rfl (k.eq1 1 23 rfl) rfl (fun _ => rfl) (r_gtrK aU), rfl⟩) <| .m (fun k => k.eq1 2 24 rfl) <| .s (fun k => k.eq1 3 25 rfl) <| .s (fun k => k.eq1 3 25 rfl) <| .s (fun k => k.eq1 3 25 rfl) <| .s (fun k => k.eq1 3 25 rfl) <| .s (fun k => k.eq1 3 25 rfl) <| .s (fun k => k.eq1 3 25 rfl) <| .s (fun k => k.eq1 3 25 rfl) <| .t (fun _ w hn k => ⟨_, v_pickF rfl (k.eq1 3 25 rfl) rfl, rfl⟩) .nil
 refine aftI bp d2 d3 fun rx ry kA kB kC d6 b6 => ?_
 have gu := b6.fx 0 aY
 have ns := b6.fx 2 gs
 have nt := b6.ge 11 33 rfl
 have kD := d4.new_ d6
 have d7 := aT.new_ d6
 refine st_nil (d5 _ _ ?_)
 refine wp_cond_false nt ?_
 refine wp_exit ?_
 have hrt := rt_end (l := cu2) (Or.inl (by omega))
 have he851 : cu2 = (trimN u) := hrt.symm.trans hc2
 rw [he851] at gu
 rw [he851] at d7
 exact d1 _ _ ⟨A2, c2, kA, kB, kC, gu, ns, kD, d7⟩
 have gt := oF aU
 have hb := hcu2.at16 ((cu2.length : Int) - 1).toNat
 have k8 := aT.max
 refine wp_g0 (.replicate 12 true) [] 91
   [ve (sv A2 cu2 c2), ve (iv (cu2.length : Int)), vT, vT, ve (sv A2 cu2 c2), ve (sv A2 cu2 c2), ve (iv (cu2.length : Int)), ve (iv ((cu2.length : Int) - 1)),
    (EP (.int .u16 ((cu2.getD (((cu2.length : Int) - 1 : Int).toNat) 0 : Nat) : Int))), ve (.int .u16 ((cu2.getD (((cu2.length : Int) - 1 : Int).toNat) 0 : Nat) : Int)), ve (.bool (blankN (cu2.getD (((cu2.length : Int) - 1 : Int).toNat) 0))), ve (.bool (blankN (cu2.getD (((cu2.length : Int) - 1 : Int).toNat) 0)))] bp (.eq (.eq (.eq (.eq (.eq (.eq (.eq (.eq (.cons (fun _ _ _ n ⟨_, _, e, h⟩ => ⟨_, _, e, h.new_ n⟩) (.eq (.eq (.eq (.nil))))))))))))) ?_ ?_
 refine .m (fun k => k.fx 0 aY) <| .t (fun _ w hn k => ⟨_, v_lenR rfl elU (k.eq1 0 22 rfl), rfl⟩) <| .t (fun _ w hn k => ⟨_, v_bin rfl (k.eq1 1 23 rfl) rfl (fun _ => rfl) (r_gtrK aU), rfl⟩) <| .m (fun k => k.eq1 2 24 rfl) <| .gm (fun k => k.eq1 3 25 rfl) (fun k => k.fx 0 aY) <| .gm (fun k => k.eq1 3 25 rfl) (fun k => k.fx 0 aY) <| .g (fun k => k.eq1 3 25 rfl) (fun _ w hn k => ⟨_, v_lenR rfl elU (k.eq1 5 27 rfl), rfl⟩) <| .g (fun k => k.eq1 3 25 rfl) (fun _ w hn k => ⟨_, v_bin rfl (k.eq1 6 28 rfl) rfl (fun _ => rfl) (r_sub rfl (by omega)), rfl⟩) ?_
 refine .o1 (tg rfl rfl rfl (fun _ _ k => k.eq1 3 25 rfl) fun _ w hn k => (by
       exact x_eaddr (k := .u16) rfl elU (k.eq1 4 26 rfl) (k.eq1 7 29 rfl) (aT.new_ hn) (by omega) fun ou ov hme => ⟨ou, ov, rfl, hme⟩)) ?_
 refine .o1 (tg rfl rfl rfl (fun _ _ k => k.eq1 3 25 rfl) fun _ w hn k => (by
       obtain ⟨r9, sa, ow, nu⟩ : (EP (.int .u16 ((cu2.getD (((cu2.length : Int) - 1 : Int).toNat) 0 : Nat) : Int))) _ _ := k.dep 8 30 (by kernel_rfl) (by kernel_rfl)
       exact ⟨_, v_load rfl ow (l_one Tryd.isAgg64 nu.1), rfl⟩)) ?_
 exact .o1 (cg rfl rfl rfl (fun _ _ k => k.eq1 3 25 rfl) rfl (fun _ w hn k => ⟨#[.int .u16 ((cu2.getD (((cu2.length : Int) - 1 : Int).toNat) 0 : Nat) : Int)], args1 (k.eq1 9 31 rfl), fun _ => by kernel_rfl, blank_c (cu2.getD (((cu2.length : Int) - 1 : Int).toNat) 0) _ (by omega)⟩) fun _ => rfl) <| .t (fun _ w hn k => ⟨_, v_pickT rfl (k.eq1 3 25 rfl) (k.eq1 10 32 rfl), rfl⟩) .nil
 refine aftI bp d2 d3 fun rz rA b7 d8 d9 ea b8 => ?_
 have bt := b8.fx 0 aY
 have gv := b8.fx 2 gs
 have gw := b8.ge 11 33 rfl
 have eb := d4.new_ ea
 have aV := aT.new_ ea
 refine st_nil (d5 _ _ ?_)
 rcases bc (blankN (cu2.getD (((cu2.length : Int) - 1 : Int).toNat) 0)) with ax | ax
 have kE := hB gw ax
 refine wp_cond_true kE ?_
 refine wp_skip ?_
 refine kz _ _ ?_
 refine wp_block ?_
 have k8 := aV.max
 refine wp_g0 [true, true, true, true, true, false] [(5, true)] 91
   [ve (sv A2 cu2 c2), ve (sv A2 cu2 c2), ve (iv (cu2.length : Int)), ve (iv ((cu2.length : Int) - 1)),
    (RP .u16 (cu2.take (((cu2.length : Int) - 1 : Int).toNat))), vt] b7 (.eq (.eq (.eq (.eq (.cons (fun _ _ _ n ⟨_, _, e, h⟩ => ⟨_, _, e, h.new_ n⟩) (.tt (.nil))))))) ?_ ?_
 refine .m (fun k => k.fx 0 bt) <| .m (fun k => k.fx 0 bt) <| .t (fun _ w hn k => ⟨_, v_lenR rfl elU (k.eq1 1 35 rfl), rfl⟩) <| .t (fun _ w hn k => ⟨_, v_bin rfl (k.eq1 2 36 rfl) rfl (fun _ => rfl) (r_sub rfl (by omega)), rfl⟩) ?_
 refine .o1 (tk rfl rfl fun _ w hn k => (by
       exact x_cutH (k := .u16) rfl elU (k.eq1 0 34 rfl) (k.eq1 3 37 rfl) (aV.new_ hn) (by omega) fun oz oA hmr => ⟨oz, oA, rfl, hmr⟩)) ?_
 exact .off .nil
 refine aftI b7 d8 d9 fun cz rB ec kF kG ed b9 => ?_
 have rC := b9.fx 0 bt
 have nx := b9.fx 2 gv
 obtain ⟨aZ, aH, ca, kH⟩ : (RP .u16 (cu2.take (((cu2.length : Int) - 1 : Int).toNat))) _ _ := b9.got 4 38 rfl (by kernel_rfl)
 have ca : cz.eval (.tmp 38) = sv aZ (cu2.take (((cu2.length : Int) - 1 : Int).toNat)) aH := ca
 have kI := eb.new_ ed
 have pe := aV.new_ ed
 refine st_take rfl rfl (y_assign (v := sv aZ (cu2.take (((cu2.length : Int) - 1 : Int).toNat)) aH) rfl ca) rfl ?_
 obtain ⟨ny, aI⟩ : ∃ a', a' = cz.put (some 0) (sv aZ (cu2.take (((cu2.length : Int) - 1 : Int).toNat)) aH) := ⟨_, rfl⟩
 have kJ := pz aI ec
 have kK := pd aI kF
 have nz := pn aI nx (by decide)
 have rD := pn aI ca (by decide)
 have nA : ny.eval (.tmp 0) = sv aZ (cu2.take (((cu2.length : Int) - 1 : Int).toNat)) aH := by rw [aI]; exact put_same _ _ _ (by rw [ec]; decide)
 show stepsTo _ _ _ _ _ (cz.put (some 0) (sv aZ (cu2.take (((cu2.length : Int) - 1 : Int).toNat)) aH)) _
 rw [← aI]
 refine st_nil ?_
 refine blk_n ?_
 refine then_n ?_
 exact ⟨_, ⟨(cu2.take (((cu2.length : Int) - 1 : Int).toNat)), aZ, aH, rfl, kJ, kK, kG, nA, nz, kI, kH, (by rw [hix2]; rw [hix2] at ax; exact (rt_step (by omega) ax).trans hc2), (hcu2.take _)⟩, (by rw [List.length_take]; omega)⟩
 have kL := hB gw ax
 refine wp_cond_false kL ?_
 refine wp_exit ?_
 rw [hix2] at ax
 have hrt := rt_end (l := cu2) (Or.inr ⟨by omega, ax⟩)
 have he889 : cu2 = (trimN u) := hrt.symm.trans hc2
 rw [he889] at bt
 rw [he889] at aV
 exact d1 _ _ ⟨A2, c2, b7, d8, d9, bt, gv, eb, aV⟩
 intro rE ee
 refine wp_block ?_
 refine wp_loopX (fun (mm : Nat) (aa : Act) (ww : World) => ∃ (cur : List Nat) (A1 : Option Addr) (c1 : Nat), mm = cur.length ∧ aa.tmps.size = 91 ∧ aa.defers = [] ∧ New w ww ∧ aa.eval (.tmp 0) = sv A1 cur c1 ∧ aa.eval (.tmp 2) = pv ay ∧ Blk ww ay 23 [iv 0, iv 0] ∧ SRow ww .u16 A1 cur c1 ∧ (cur.dropWhile blankN = u.dropWhile blankN) ∧ (U16s cur)) (fun mm => mm) ⟨_, ⟨u, Au, cu, rfl, nK, nL, es, h8, h9, la, (hru.new_ es), rfl, hu⟩⟩ ?_
 rintro mm rF rG ⟨cur, A1, c1, hmm, bq, ef, eg, bu, gx, eh, cb, hcd, hcu⟩
 refine wp_seq_k fun rH kM => ?_
 refine wp_seq_k fun rI ei => ?_
 rcases bc (decide ((cur.length : Int) ≤ 0)) with aW | aW
 have gy := oT aW
 have hb := hcu.at16 0
 refine wp_g0 (.replicate 9 true) [] 91
   [ve (sv A1 cur c1), ve (iv (cur.length : Int)), vF, vF, vU, vU, vU, vU, vF] bq (.eq (.eq (.eq (.eq (.eq (.eq (.eq (.eq (.eq (.nil)))))))))) ?_ ?_
 exact .m (fun k => k.fx 0 bu) <| .t (fun _ w hn k => ⟨_, v_lenR rfl elU (k.eq1 0 11 rfl), rfl⟩) <| .t (fun _ w hn k => ⟨_, v_bin rfl (k.eq1 1 12 rfl) rfl (fun _ => rfl) (r_gtrK aW), rfl⟩) <| .m (fun k => k.eq1 2 13 rfl) <| .s (fun k => k.eq1 3 14 rfl) <| .s (fun k => k.eq1 3 14 rfl) <| .s (fun k => k.eq1 3 14 rfl) <| .s (fun k => k.eq1 3 14 rfl) <| .t (fun _ w hn k => ⟨_, v_pickF rfl (k.eq1 3 14 rfl) rfl, rfl⟩) .nil
 refine aftI bq ef eg fun rJ rK kN kO kP ej cc => ?_
 have gz := cc.fx 0 bu
 have nB := cc.fx 2 gx
 have nC := cc.ge 8 19 rfl
 have kQ := eh.new_ ej
 have ek := cb.new_ ej
 refine st_nil (ei _ _ ?_)
 refine wp_cond_false nC ?_
 refine wp_exit ?_
 have hdw := dw_end (l := cur) (Or.inl (by omega))
 have he915 : cur = (u.dropWhile blankN) := hdw.symm.trans hcd
 rw [he915] at gz
 rw [he915] at ek
 exact ee _ _ ⟨A1, c1, kN, kO, kP, gz, nB, kQ, ek⟩
 have gy := oF aW
 have hb := hcu.at16 0
 refine wp_g0 (.replicate 9 true) [] 91
   [ve (sv A1 cur c1), ve (iv (cur.length : Int)), vT, vT, ve (sv A1 cur c1),
    (EP (.int .u16 ((cur.getD 0 0 : Nat) : Int))), ve (.int .u16 ((cur.getD 0 0 : Nat) : Int)), ve (.bool (blankN (cur.getD 0 0))), ve (.bool (blankN (cur.getD 0 0)))] bq (.eq (.eq (.eq (.eq (.eq (.cons (fun _ _ _ n ⟨_, _, e, h⟩ => ⟨_, _, e, h.new_ n⟩) (.eq (.eq (.eq (.nil)))))))))) ?_ ?_
 refine .m (fun k => k.fx 0 bu) <| .t (fun _ w hn k => ⟨_, v_lenR rfl elU (k.eq1 0 11 rfl), rfl⟩) <| .t (fun _ w hn k => ⟨_, v_bin rfl (k.eq1 1 12 rfl) rfl (fun _ => rfl) (r_gtrK aW), rfl⟩) <| .m (fun k => k.eq1 2 13 rfl) <| .gm (fun k => k.eq1 3 14 rfl) (fun k => k.fx 0 bu) ?_
 refine .o1 (tg rfl rfl rfl (fun _ _ k => k.eq1 3 14 rfl) fun _ w hn k => (by
       exact x_eaddr (k := .u16) rfl elU (k.eq1 4 15 rfl) rfl (cb.new_ hn) (by omega) fun oD oE hme => ⟨oD, oE, rfl, hme⟩)) ?_
 refine .o1 (tg rfl rfl rfl (fun _ _ k => k.eq1 3 14 rfl) fun _ w hn k => (by
       obtain ⟨sb, sc, oG, nD⟩ : (EP (.int .u16 ((cur.getD 0 0 : Nat) : Int))) _ _ := k.dep 5 16 (by kernel_rfl) (by kernel_rfl)
       exact ⟨_, v_load rfl oG (l_one Tryd.isAgg64 nD.1), rfl⟩)) ?_
 exact .o1 (cg rfl rfl rfl (fun _ _ k => k.eq1 3 14 rfl) rfl (fun _ w hn k => ⟨#[.int .u16 ((cur.getD 0 0 : Nat) : Int)], args1 (k.eq1 6 17 rfl), fun _ => by kernel_rfl, blank_c (cur.getD 0 0) _ (by omega)⟩) fun _ => rfl) <| .t (fun _ w hn k => ⟨_, v_pickT rfl (k.eq1 3 14 rfl) (k.eq1 7 18 rfl), rfl⟩) .nil
 refine aftI bq ef eg fun rL rM cd el em en ce => ?_
 have cf := ce.fx 0 bu
 have gA := ce.fx 2 gx
 have gB := ce.ge 8 19 rfl
 have eo := eh.new_ en
 have br := cb.new_ en
 refine st_nil (ei _ _ ?_)
 rcases bc (blankN (cur.getD 0 0)) with aX | aX
 have kR := hB gB aX
 refine wp_cond_true kR ?_
 refine wp_skip ?_
 refine kM _ _ ?_
 refine wp_block ?_
 refine wp_g0 [true, true, false] [(2, true)] 91
   [ve (sv A1 cur c1),
    (RP .u16 (cur.drop 1)), vt] cd (.eq (.cons (fun _ _ _ n ⟨_, _, e, h⟩ => ⟨_, _, e, h.new_ n⟩) (.tt (.nil)))) ?_ ?_
 refine .m (fun k => k.fx 0 cf) ?_
 refine .o1 (tk rfl rfl fun _ w hn k => (by
       exact x_cutL (k := .u16) rfl elU (k.eq1 0 20 rfl) rfl (br.new_ hn) (by omega) fun oJ oK hmr => ⟨oJ, oK, rfl, hmr⟩)) ?_
 exact .off .nil
 refine aftI cd el em fun cA rN ep kS kT er ch => ?_
 have rO := ch.fx 0 cf
 have nE := ch.fx 2 gA
 obtain ⟨a1, aJ, ci, kU⟩ : (RP .u16 (cur.drop 1)) _ _ := ch.got 1 21 rfl (by kernel_rfl)
 have ci : cA.eval (.tmp 21) = sv a1 (cur.drop 1) aJ := ci
 have kV := eo.new_ er
 have pf := br.new_ er
 refine st_take rfl rfl (y_assign (v := sv a1 (cur.drop 1) aJ) rfl ci) rfl ?_
 obtain ⟨nF, aK⟩ : ∃ a', a' = cA.put (some 0) (sv a1 (cur.drop 1) aJ) := ⟨_, rfl⟩
 have kW := pz aK ep
 have kX := pd aK kS
 have nG := pn aK nE (by decide)
 have rP := pn aK ci (by decide)
 have nH : nF.eval (.tmp 0) = sv a1 (cur.drop 1) aJ := by rw [aK]; exact put_same _ _ _ (by rw [ep]; decide)
 show stepsTo _ _ _ _ _ (cA.put (some 0) (sv a1 (cur.drop 1) aJ)) _
 rw [← aK]
 refine st_nil ?_
 refine blk_n ?_
 refine then_n ?_
 exact ⟨_, ⟨(cur.drop 1), a1, aJ, rfl, kW, kX, kT, nH, nG, kV, kU, ((dw_step (by omega) aX).trans hcd), (hcu.drop 1)⟩, (by rw [List.length_drop]; omega)⟩
 have kY := hB gB aX
 refine wp_cond_false kY ?_
 refine wp_exit ?_
 have hdw := dw_end (l := cur) (Or.inr aX)
 have he953 : cur = (u.dropWhile blankN) := hdw.symm.trans hcd
 rw [he953] at cf
 rw [he953] at br
 exact ee _ _ ⟨A1, c1, cd, el, em, cf, gA, eo, br⟩
theorem cnumber_c (v : Vl) (Av : Option Addr) (cv : Nat) (Bv : Option Addr) (dv : Nat) (w : World) (hmv : SRow w .u32 Av v.mag cv) (hsv : SRow w .u16 Bv v.s dv) (hvv : VOk v) : Calls Tryd.prog 12 #[vv v Av cv Bv dv] w (IsRet (.tuple #[nv ((numberV v).1), iv ((numberV v).2)]) w) := by
 refine enter_abs Tryd.func12 rfl fun a0 aY gf hp => ?_
 have aY : a0.tmps.size = 37 := aY
 have bG : New w w := Upd.refl _ _
 have hp0 : a0.eval (.tmp 0) = vv v Av cv Bv dv := hp 0 _ rfl
 refine wp_seq_k fun K1 gg => ?_
 refine wp_g [true, true, true] [] [] 37
   [IsNew w 29 [iv v.k, iv v.nk, iv v.nn, .bool v.neg, sv Av v.mag cv, sv Bv v.s dv, iv v.ref], IsNew w 23 [iv 0, iv 0], ve (iv 0)]
   [0, 1] (newsCons (fun v w h => IsNew.old h) (newsCons (fun v w h => IsNew.old h) newsNil)) aY (.nw (.nw (.eq (.nil)))) ?_ (fun i h => by cases h) ?_
 exact .o2 (step_allocN (cs := [iv v.k, iv v.nk, iv v.nn, .bool v.neg, sv Av v.mag cv, sv Bv v.s dv, iv v.ref]) (t := 29) rfl (noG rfl) (fun _ w hn k => v_box rfl (k.fx 0 hp0) (fun w => rfl)) (fun q _ hq hb => ⟨q, rfl, hq, hb⟩)) <| .o2 (step_allocN (cs := [iv 0, iv 0]) (t := 23) rfl (noG rfl) (fun _ w hn k => rfl) (fun q _ hq hb => ⟨q, rfl, hq, hb⟩)) <| .t (fun _ w hn k => ⟨_, v_assign rfl rfl, rfl⟩) .nil
 refine aftI aY gf bG fun a2 w3 eW gh aS hO bH => ?_
 obtain ⟨q9, h8, e6, bI⟩ : IsNew _ _ _ _ _ := bH.got 0 1 rfl (by kernel_rfl)
 obtain ⟨eX, eY, e7, e8⟩ : IsNew _ _ _ _ _ := bH.got 1 2 rfl (by kernel_rfl)
 have hne16 : q9 ≠ eX := bH.ne 0 1 1 2 h8 eY
 have gF := Nat.le_trans bG.size e6
 have gG := Nat.le_trans bG.size e7
 refine st_nil (gg _ _ (wp_seq_k fun hP e9 => ?_))
 refine wp_g0 [true, true, false] [(2, false)] 37
   [ve (vv v Av cv Bv dv),
    (VP (cleanV v)), vt] eW (.eq (.cons (fun v W W' hn ⟨A5, c6, A7, c8, he, h0, h1⟩ => ⟨A5, c6, A7, c8, he, h0.new_ hn, h1.new_ hn⟩) (.tt (.nil)))) ?_ ?_
 refine .t (fun _ w hn k => ⟨_, v_load rfl (k.fx 1 h8) (l_agg Tryd.isAgg29 Tryd.sizeOf29 (bI.new_ hn) rfl), rfl⟩) ?_
 refine .o1 (tkC rfl (noG rfl) rfl fun _ w hn k => (by
       refine ⟨#[vv v Av cv Bv dv], _, args1 (k.eq1 0 6 rfl), fun w => by kernel_rfl, clean_c v _ _ _ _ _ (hmv.new_ (aS.transNew hn)) (hsv.new_ (aS.transNew hn)), ?_⟩
       rintro e w' ⟨A1, c2, A3, c4, rfl, hmo0, hmo1, hm⟩
       exact ⟨_, rfl, hm, ⟨A1, c2, A3, c4, rfl, hmo0, hmo1⟩⟩)) ?_
 exact .off .nil
 refine aftI eW gh aS fun gi hQ bJ fa fb bK aT => ?_
 have bL := aT.fx 1 h8
 have gj := aT.fx 2 eY
 obtain ⟨bM, aU, aR, aI, bN, fc, fd⟩ : (VP (cleanV v)) _ _ := aT.got 1 7 rfl (by kernel_rfl)
 have bN : gi.eval (.tmp 7) = vv (cleanV v) bM aU aR aI := bN
 have aV := bI.new_ bK
 have fe := e8.new_ bK
 obtain ⟨gk, cU, cV, aW, ff⟩ := s_many (P := Tryd.prog) (t := 29) (i := 0) [iv ((cleanV v).k), iv ((cleanV v).nk), iv ((cleanV v).nn), .bool ((cleanV v).neg), sv bM ((cleanV v).mag) aU, sv aR ((cleanV v).s) aI, iv ((cleanV v).ref)] Tryd.sizeOf29 rfl rfl rfl aV lb
 have bO : Blk gk q9 29 [iv ((cleanV v).k), iv ((cleanV v).nk), iv ((cleanV v).nn), .bool ((cleanV v).neg), sv bM ((cleanV v).mag) aU, sv aR ((cleanV v).s) aI, iv ((cleanV v).ref)] := cV
 refine st_act rfl rfl fun hR fg => a_store' rfl bL bN cU (fg _ _ trivial ?_)
 have fh := fc.far aV aW (by first | rfl | decide | simp [notK])
 have fi := fd.far aV aW (by first | rfl | decide | simp [notK])
 have fj := ff _ _ _ (fun h => hne16 h.symm) fe
 have fk := fb.trans aW (fun _ h b => by subst b; omega)
 refine st_nil (e9 _ _ (wp_seq_k fun hS bP => ?_))
 refine wp_seq_k fun hT fl => ?_
 refine wp_g0 [true, true] [] 37
   [ve (pv q9), ve (iv ((cleanV v).k))] bJ (.eq (.eq (.nil))) ?_ ?_
 exact .f (fun k => k.fx 1 bL) <| .t (fun _ w hn k => ⟨_, v_load rfl (k.eq1 0 8 rfl) (l_one Tryd.isAgg3 ((bO.new_ hn).cell 0)), rfl⟩) .nil
 refine aftI bJ fa fk fun hU hV bQ fm fn aJ aX => ?_
 have gl := aX.fx 1 bL
 have gm := aX.fx 2 gj
 have eZ := aX.ge 1 9 rfl
 have fo := bO.new_ aJ
 have fp := fj.new_ aJ
 have fq := fh.new_ aJ
 have fr := fi.new_ aJ
 refine st_nil (fl _ _ ?_)
 refine wp_block ?_
 refine wp_seq_k fun hW fs => ?_
 refine wp_g0 [true, true] [] 37
   [ve (.bool (decide (((cleanV v).k) = 0))), ve (.bool (decide (((cleanV v).k) = 0)))] bQ (.eq (.eq (.nil))) ?_ ?_
 exact .t (fun _ w hn k => ⟨_, v_bin rfl (k.fx 9 eZ) rfl (fun _ => rfl) (r_eql rfl), rfl⟩) <| .a (fun k => k.eq1 0 11 rfl) .nil
 refine aftI bQ fm fn fun hX hY aK bR bS aL aM => ?_
 have gn := aM.fx 1 gl
 have e0 := aM.fx 2 gm
 have e1 := aM.fx 9 eZ
 have e2 := aM.ge 1 10 rfl
 have ft := fo.new_ aL
 have bT := fp.new_ aL
 have fu := fq.new_ aL
 have fv := fr.new_ aL
 refine st_nil (fs _ _ ?_)
 rcases bc (decide (((cleanV v).k) = 0)) with ac | ac
 have cW := oT ac
 have fw := hB e2 ac
 refine wp_cond_true fw ?_
 refine wp_seq_k fun hZ fy => ?_
 refine wp_g0 [true, false, false] [(1, false), (2, true)] 37
   [ve (nv (Nm.mk 2 0)), vt, vt] aK (.eq (.tt (.tt (.nil)))) ?_ ?_
 exact .t (fun _ w hn k => ⟨_, v_build (ps := [(0, iv 2)]) rfl (parts1 rfl) (by kernel_rfl), rfl⟩) <| .off <| .off .nil
 refine aftI aK bR bS fun e3 h3 bU fz fA fB bV => ?_
 have e4 := bV.fx 2 e0
 have e5 := bV.ge 0 12 rfl
 have fC := bT.new_ fB
 obtain ⟨h4, -, cX, fD, fE, gH⟩ := s_two (v0 := iv 2) (v1 := iv 0) Tryd.sizeOf23 rfl rfl rfl fC
 refine st_act rfl rfl fun gI cY => a_store' rfl e4 e5 cX (cY _ _ trivial ?_)
 have cZ := fA.trans fE (fun _ h b => by subst b; omega)
 refine st_take rfl rfl (y_assign (v := iv 0) rfl rfl) rfl ?_
 obtain ⟨fF, ah⟩ : ∃ a', a' = e3.put (some 3) (iv 0) := ⟨_, rfl⟩
 have go := pz ah bU
 have c0 := pd ah fz
 have fG := pn ah e4 (by decide)
 have gJ := pn ah e5 (by decide)
 have fH : fF.eval (.tmp 3) = iv 0 := by rw [ah]; exact put_same _ _ _ (by rw [bU]; decide)
 show stepsTo _ _ _ _ _ (e3.put (some 3) (iv 0)) _
 rw [← ah]
 refine st_nil (fy _ _ ?_)
 refine wp_ret (ret_k c0 (v := .tuple #[nv (Nm.mk 2 0), iv 0]) (res_ct rfl fG fH (l_two Tryd.isAgg23 Tryd.sizeOf23 fD)) ?_)
 refine ⟨?_, cZ⟩
 show Ending.returned (.tuple #[nv (Nm.mk 2 0), iv 0]) = Ending.returned (.tuple #[nv ((numberV v).1), iv ((numberV v).2)])
 first | rfl | (simp only [numberV, ac, bsm] <;> rfl) | (exfalso; omega)
 have cW := oF ac
 have c1 := hB e2 ac
 refine wp_cond_false c1 ?_
 refine wp_seq_k fun gK aZ => ?_
 refine wp_seq_k fun gL c3 => ?_
 refine wp_g0 [true, true] [] 37
   [ve (.bool (decide (((cleanV v).k) = 1))), ve (.bool (decide (((cleanV v).k) = 1)))] aK (.eq (.eq (.nil))) ?_ ?_
 exact .t (fun _ w hn k => ⟨_, v_bin rfl (k.fx 9 e1) rfl (fun _ => rfl) (r_eql rfl), rfl⟩) <| .a (fun k => k.eq1 0 14 rfl) .nil
 refine aftI aK bR bS fun gM gN aq a1 a3 ar au => ?_
 have bW := au.fx 1 gn
 have bX := au.fx 2 e0
 have bY := au.fx 9 e1
 have bZ := au.ge 1 13 rfl
 have a4 := ft.new_ ar
 have a5 := bT.new_ ar
 have c5 := fu.new_ ar
 have c7 := fv.new_ ar
 refine st_nil (c3 _ _ ?_)
 rcases bc (decide (((cleanV v).k) = 1)) with aa | aa
 have b0 := oT aa
 have a6 := hB bZ aa
 refine wp_cond_true a6 ?_
 refine wp_skip ?_
 refine aZ _ _ ?_
 refine wp_cond_true a6 ?_
 refine wp_seq_k fun gO c9 => ?_
 refine wp_g0 [true, true, true, false, false] [(3, false), (4, true)] 37
   [ve (.pointer (some ⟨q9, 6, none⟩)), ve (iv ((cleanV v).ref)), ve (nv (Nm.mk 0 ((cleanV v).ref))), vt, vt] aq (.eq (.eq (.eq (.tt (.tt (.nil)))))) ?_ ?_
 exact .f (fun k => k.fx 1 bW) <| .t (fun _ w hn k => ⟨_, v_load rfl (k.eq1 0 16 rfl) (l_one Tryd.isAgg3 ((a4.new_ hn).cell 6)), rfl⟩) <| .t (fun _ w hn k => ⟨_, v_build (ps := [(1, iv ((cleanV v).ref))]) rfl (parts1 (k.eq1 1 17 rfl)) (by kernel_rfl), rfl⟩) <| .off <| .off .nil
 refine aftI aq a1 a3 fun b1 gP a7 da db dc a8 => ?_
 have b2 := a8.fx 2 bX
 have b3 := a8.ge 2 18 rfl
 have dd := a5.new_ dc
 obtain ⟨gQ, -, b4, de, df, gp⟩ := s_two (v0 := iv 0) (v1 := iv ((cleanV v).ref)) Tryd.sizeOf23 rfl rfl rfl dd
 refine st_act rfl rfl fun gR dg => a_store' rfl b2 b3 b4 (dg _ _ trivial ?_)
 have dh := db.trans df (fun _ h b => by subst b; omega)
 refine st_take rfl rfl (y_assign (v := iv 0) rfl rfl) rfl ?_
 obtain ⟨fI, ai⟩ : ∃ a', a' = b1.put (some 3) (iv 0) := ⟨_, rfl⟩
 have gq := pz ai a7
 have di := pd ai da
 have fJ := pn ai b2 (by decide)
 have gS := pn ai b3 (by decide)
 have fK : fI.eval (.tmp 3) = iv 0 := by rw [ai]; exact put_same _ _ _ (by rw [a7]; decide)
 show stepsTo _ _ _ _ _ (b1.put (some 3) (iv 0)) _
 rw [← ai]
 refine st_nil (c9 _ _ ?_)
 refine wp_ret (ret_k di (v := .tuple #[nv (Nm.mk 0 ((cleanV v).ref)), iv 0]) (res_ct rfl fJ fK (l_two Tryd.isAgg23 Tryd.sizeOf23 de)) ?_)
 refine ⟨?_, dh⟩
 show Ending.returned (.tuple #[nv (Nm.mk 0 ((cleanV v).ref)), iv 0]) = Ending.returned (.tuple #[nv ((numberV v).1), iv ((numberV v).2)])
 first | rfl | (simp only [numberV, ac, aa, bsm] <;> rfl) | (exfalso; omega)
 have b0 := oF aa
 have dj := hB bZ aa
 refine wp_cond_false dj ?_
 refine wp_g0 [true, true] [] 37
   [ve (.bool (decide (((cleanV v).k) = 2))), ve (.bool (decide (((cleanV v).k) = 2)))] aq (.eq (.eq (.nil))) ?_ ?_
 exact .t (fun _ w hn k => ⟨_, v_bin rfl (k.fx 9 bY) rfl (fun _ => rfl) (r_eql rfl), rfl⟩) <| .a (fun k => k.eq1 0 15 rfl) .nil
 refine aftI aq a1 a3 fun gT gU av a9 ba aw ax => ?_
 have b5 := ax.fx 1 bW
 have b6 := ax.fx 2 bX
 have b7 := ax.fx 9 bY
 have b8 := ax.ge 1 13 rfl
 have bb := a4.new_ aw
 have bd := a5.new_ aw
 have dk := c5.new_ aw
 have dl := c7.new_ aw
 refine st_nil (aZ _ _ ?_)
 rcases bc (decide (((cleanV v).k) = 2)) with ab | ab
 have b9 := oT ab
 have dm := hB b8 ab
 refine wp_cond_true dm ?_
 refine wp_seq_k fun gV dn => ?_
 refine wp_g0 [true, true, true, false, false] [(3, false), (4, true)] 37
   [ve (.pointer (some ⟨q9, 6, none⟩)), ve (iv ((cleanV v).ref)), ve (nv (Nm.mk 0 ((cleanV v).ref))), vt, vt] av (.eq (.eq (.eq (.tt (.tt (.nil)))))) ?_ ?_
 exact .f (fun k => k.fx 1 b5) <| .t (fun _ w hn k => ⟨_, v_load rfl (k.eq1 0 16 rfl) (l_one Tryd.isAgg3 ((bb.new_ hn).cell 6)), rfl⟩) <| .t (fun _ w hn k => ⟨_, v_build (ps := [(1, iv ((cleanV v).ref))]) rfl (parts1 (k.eq1 1 17 rfl)) (by kernel_rfl), rfl⟩) <| .off <| .off .nil
 refine aftI av a9 ba fun ca gW be dp dq dr bf => ?_
 have cb := bf.fx 2 b6
 have cc := bf.ge 2 18 rfl
 have ds := bd.new_ dr
 obtain ⟨gX, -, cd, dt, du, gr⟩ := s_two (v0 := iv 0) (v1 := iv ((cleanV v).ref)) Tryd.sizeOf23 rfl rfl rfl ds
 refine st_act rfl rfl fun gY dw => a_store' rfl cb cc cd (dw _ _ trivial ?_)
 have dx := dq.trans du (fun _ h b => by subst b; omega)
 refine st_take rfl rfl (y_assign (v := iv 0) rfl rfl) rfl ?_
 obtain ⟨fL, aj⟩ : ∃ a', a' = ca.put (some 3) (iv 0) := ⟨_, rfl⟩
 have gs := pz aj be
 have dy := pd aj dp
 have fM := pn aj cb (by decide)
 have gZ := pn aj cc (by decide)
 have fN : fL.eval (.tmp 3) = iv 0 := by rw [aj]; exact put_same _ _ _ (by rw [be]; decide)
 show stepsTo _ _ _ _ _ (ca.put (some 3) (iv 0)) _
 rw [← aj]
 refine st_nil (dn _ _ ?_)
 refine wp_ret (ret_k dy (v := .tuple #[nv (Nm.mk 0 ((cleanV v).ref)), iv 0]) (res_ct rfl fM fN (l_two Tryd.isAgg23 Tryd.sizeOf23 dt)) ?_)
 refine ⟨?_, dx⟩
 show Ending.returned (.tuple #[nv (Nm.mk 0 ((cleanV v).ref)), iv 0]) = Ending.returned (.tuple #[nv ((numberV v).1), iv ((numberV v).2)])
 first | rfl | (simp only [numberV, ac, aa, ab, bsm] <;> rfl) | (exfalso; omega)
 have b9 := oF ab
 have dz := hB b8 ab
 refine wp_cond_false dz ?_
 refine wp_seq_k fun g0 dA => ?_
 refine wp_g0 [true, true] [] 37
   [ve (.bool (decide (((cleanV v).k) = 3))), ve (.bool (decide (((cleanV v).k) = 3)))] av (.eq (.eq (.nil))) ?_ ?_
 exact .t (fun _ w hn k => ⟨_, v_bin rfl (k.fx 9 b7) rfl (fun _ => rfl) (r_eql rfl), rfl⟩) <| .a (fun k => k.eq1 0 20 rfl) .nil
 refine aftI av a9 ba fun g1 g2 ay bg bh az aA => ?_
 have ce := aA.fx 1 b5
 have cf := aA.fx 2 b6
 have ch := aA.fx 9 b7
 have ci := aA.ge 1 19 rfl
 have bi := bb.new_ az
 have bj := bd.new_ az
 have dB := dk.new_ az
 have dC := dl.new_ az
 refine st_nil (dA _ _ ?_)
 rcases bc (decide (((cleanV v).k) = 3)) with ad | ad
 have cj := oT ad
 have dD := hB ci ad
 refine wp_cond_true dD ?_
 refine wp_seq_k fun g3 dE => ?_
 refine wp_g0 [true, true, false, false] [(2, false), (3, true)] 37
   [ve (.pointer (some ⟨q9, 1, none⟩)), ve (nv (Nm.mk ((cleanV v).nk) ((cleanV v).nn))), vt, vt] ay (.eq (.eq (.tt (.tt (.nil))))) ?_ ?_
 exact .f (fun k => k.fx 1 ce) <| .t (fun _ w hn k => ⟨_, v_load rfl (k.eq1 0 21 rfl) (l_part Tryd.isAgg23 Tryd.sizeOf23 (bi.new_ hn) lb), rfl⟩) <| .off <| .off .nil
 refine aftI ay bg bh fun cl g4 bk dF dG dH bl => ?_
 have cm := bl.fx 2 cf
 have cn := bl.ge 1 22 rfl
 have dI := bj.new_ dH
 obtain ⟨g5, -, co, dJ, dK, gt⟩ := s_two (v0 := iv ((cleanV v).nk)) (v1 := iv ((cleanV v).nn)) Tryd.sizeOf23 rfl rfl rfl dI
 refine st_act rfl rfl fun g6 dL => a_store' rfl cm cn co (dL _ _ trivial ?_)
 have dM := dG.trans dK (fun _ h b => by subst b; omega)
 refine st_take rfl rfl (y_assign (v := iv 0) rfl rfl) rfl ?_
 obtain ⟨fO, ak⟩ : ∃ a', a' = cl.put (some 3) (iv 0) := ⟨_, rfl⟩
 have gu := pz ak bk
 have dN := pd ak dF
 have fP := pn ak cm (by decide)
 have g7 := pn ak cn (by decide)
 have fQ : fO.eval (.tmp 3) = iv 0 := by rw [ak]; exact put_same _ _ _ (by rw [bk]; decide)
 show stepsTo _ _ _ _ _ (cl.put (some 3) (iv 0)) _
 rw [← ak]
 refine st_nil (dE _ _ ?_)
 refine wp_ret (ret_k dN (v := .tuple #[nv (Nm.mk ((cleanV v).nk) ((cleanV v).nn)), iv 0]) (res_ct rfl fP fQ (l_two Tryd.isAgg23 Tryd.sizeOf23 dJ)) ?_)
 refine ⟨?_, dM⟩
 show Ending.returned (.tuple #[nv (Nm.mk ((cleanV v).nk) ((cleanV v).nn)), iv 0]) = Ending.returned (.tuple #[nv ((numberV v).1), iv ((numberV v).2)])
 first | rfl | (simp only [numberV, ac, aa, ab, ad, bsm] <;> rfl) | (exfalso; omega)
 have cj := oF ad
 have dO := hB ci ad
 refine wp_cond_false dO ?_
 refine wp_seq_k fun g8 dP => ?_
 refine wp_g0 [true, true] [] 37
   [ve (.bool (decide (((cleanV v).k) = 4))), ve (.bool (decide (((cleanV v).k) = 4)))] ay (.eq (.eq (.nil))) ?_ ?_
 exact .t (fun _ w hn k => ⟨_, v_bin rfl (k.fx 9 ch) rfl (fun _ => rfl) (r_eql rfl), rfl⟩) <| .a (fun k => k.eq1 0 24 rfl) .nil
 refine aftI ay bg bh fun g9 ha aB bm bn aC aD => ?_
 have fR := aD.fx 1 ce
 have cp := aD.fx 2 cf
 have fS := aD.fx 9 ch
 have cq := aD.ge 1 23 rfl
 have dQ := bi.new_ aC
 have bo := bj.new_ aC
 have dR := dB.new_ aC
 have dS := dC.new_ aC
 refine st_nil (dP _ _ ?_)
 rcases bc (decide (((cleanV v).k) = 4)) with ae | ae
 have cr := oT ae
 have dT := hB cq ae
 refine wp_cond_true dT ?_
 refine wp_seq_k fun hc dU => ?_
 refine wp_g0 [true, false, false] [(1, false), (2, true)] 37
   [ve (nv (Nm.mk 0 0)), vt, vt] aB (.eq (.tt (.tt (.nil)))) ?_ ?_
 exact .t (fun _ w hn k => ⟨_, v_build (ps := []) rfl parts0 (by kernel_rfl), rfl⟩) <| .off <| .off .nil
 refine aftI aB bm bn fun ct hd bp dV dW dX bq => ?_
 have cu := bq.fx 2 cp
 have cw := bq.ge 0 25 rfl
 have dY := bo.new_ dX
 obtain ⟨hf, -, cx, dZ, d0, gv⟩ := s_two (v0 := iv 0) (v1 := iv 0) Tryd.sizeOf23 rfl rfl rfl dY
 refine st_act rfl rfl fun hg d1 => a_store' rfl cu cw cx (d1 _ _ trivial ?_)
 have d2 := dW.trans d0 (fun _ h b => by subst b; omega)
 refine st_take rfl rfl (y_assign (v := iv 1) rfl rfl) rfl ?_
 obtain ⟨fT, al⟩ : ∃ a', a' = ct.put (some 3) (iv 1) := ⟨_, rfl⟩
 have gw := pz al bp
 have d3 := pd al dV
 have fU := pn al cu (by decide)
 have hh := pn al cw (by decide)
 have fV : fT.eval (.tmp 3) = iv 1 := by rw [al]; exact put_same _ _ _ (by rw [bp]; decide)
 show stepsTo _ _ _ _ _ (ct.put (some 3) (iv 1)) _
 rw [← al]
 refine st_nil (dU _ _ ?_)
 refine wp_ret (ret_k d3 (v := .tuple #[nv (Nm.mk 0 0), iv 1]) (res_ct rfl fU fV (l_two Tryd.isAgg23 Tryd.sizeOf23 dZ)) ?_)
 refine ⟨?_, d2⟩
 show Ending.returned (.tuple #[nv (Nm.mk 0 0), iv 1]) = Ending.returned (.tuple #[nv ((numberV v).1), iv ((numberV v).2)])
 first | rfl | (simp only [numberV, ac, aa, ab, ad, ae, bsm] <;> rfl) | (exfalso; omega)
 have cr := oF ae
 have d4 := hB cq ae
 refine wp_cond_false d4 ?_
 refine wp_seq_k fun hi d5 => ?_
 refine wp_g0 [true, true] [] 37
   [ve (.bool (decide (((cleanV v).k) = 5))), ve (.bool (decide (((cleanV v).k) = 5)))] aB (.eq (.eq (.nil))) ?_ ?_
 exact .t (fun _ w hn k => ⟨_, v_bin rfl (k.fx 9 fS) rfl (fun _ => rfl) (r_eql rfl), rfl⟩) <| .a (fun k => k.eq1 0 27 rfl) .nil
 refine aftI aB bm bn fun hj fW aE br aN aF aO => ?_
 have fX := aO.fx 1 fR
 have cy := aO.fx 2 cp
 have cz := aO.ge 1 26 rfl
 have d6 := dQ.new_ aF
 have aP := bo.new_ aF
 have gx := dR.new_ aF
 have d7 := dS.new_ aF
 refine st_nil (d5 _ _ ?_)
 rcases bc (decide (((cleanV v).k) = 5)) with af | af
 have cA := oT af
 have d8 := hB cz af
 refine wp_cond_true d8 ?_
 refine wp_seq_k fun hl d9 => ?_
 refine wp_g [true, true, true, true, true, true, true, false, false] [5] [(7, false), (8, true)] 37
   [ve (.pointer (some ⟨q9, 5, none⟩)), ve (sv aR ((cleanV v).s) aI), ve (.tuple #[nv ((numT ((cleanV v).s)).1), .bool ((numT ((cleanV v).s)).2)]), ve (.tuple #[nv ((numT ((cleanV v).s)).1), .bool ((numT ((cleanV v).s)).2)]), ve (nv ((numT ((cleanV v).s)).1)), ve (.bool ((numT ((cleanV v).s)).2)), IsNew fW 23 [iv 0, iv 0], vt, vt]
   [6] (newsCons (fun v w h => IsNew.old h) newsNil) aE (.eq (.eq (.eq (.eq (.eq (.eq (.nw (.tt (.tt (.nil)))))))))) ?_ ?_ ?_
 refine .f (fun k => k.fx 1 fX) <| .t (fun _ w hn k => ⟨_, v_load rfl (k.eq1 0 29 rfl) (l_one Tryd.isAgg27 ((d6.new_ hn).cell 5)), rfl⟩) <| .o1 (ck rfl rfl rfl (fun _ w hn k => ⟨#[sv aR ((cleanV v).s) aI], args1 (k.eq1 1 30 rfl), fun _ => by kernel_rfl, tnumber_c _ ((cleanV v).s) _ _ (d7.new_ hn) hvv.clean.units⟩) fun _ => rfl) <| .m (fun k => k.eq1 2 31 rfl) <| .t (fun _ w hn k => ⟨_, v_extract rfl (k.eq1 3 28 rfl) rfl, rfl⟩) ?_
 refine .o3 ?_
 exact .o2 (step_allocN (cs := [iv 0, iv 0]) (t := 23) rfl (noG rfl) (fun _ w hn k => rfl) (fun q _ hq hb => ⟨q, rfl, hq, hb⟩)) <| .off <| .off .nil
 intro i h
 simp only [List.contains_eq_mem, List.mem_cons, List.not_mem_nil, or_false, decide_eq_true_eq] at h
 subst h
 exact eager_take rfl rfl fun _ w hn k => ⟨.bool ((numT ((cleanV v).s)).2), fun w => v_extract rfl (k.eq1 3 28 rfl) rfl, rfl⟩
 refine aftI aE br aN fun cB ho bs ea eb ec aG => ?_
 have fY := aG.fx 2 cy
 have cC := aG.ge 4 32 rfl
 have cD := aG.ge 5 33 rfl
 obtain ⟨fZ, cE, bt, ed⟩ : IsNew _ _ _ _ _ := aG.got 6 4 rfl (by kernel_rfl)
 have ee := aP.new_ ec
 have hne323 : eX ≠ fZ := by have h1 := aP.lt; have h2 := bt; omega
 have gy := Nat.le_trans aN.size bt
 obtain ⟨hr, -, cF, ef, eg, eh⟩ := s_two (v0 := iv ((numT ((cleanV v).s)).1.k)) (v1 := iv ((numT ((cleanV v).s)).1.n)) Tryd.sizeOf23 rfl rfl rfl ed
 refine st_act rfl rfl fun hs ei => a_store' rfl cE cC cF (ei _ _ trivial ?_)
 have ej := eh _ _ _ (hne323) ee
 have ek := eb.trans eg (fun _ h b => by subst b; omega)
 refine st_take rfl rfl (y_assign (v := .bool ((numT ((cleanV v).s)).2)) rfl cD) rfl ?_
 obtain ⟨f0, ag⟩ : ∃ a', a' = cB.put (some 5) (.bool ((numT ((cleanV v).s)).2)) := ⟨_, rfl⟩
 have bu := pz ag bs
 have el := pd ag ea
 have f1 := pn ag fY (by decide)
 have ht := pn ag cC (by decide)
 have hu := pn ag cD (by decide)
 have f2 := pn ag cE (by decide)
 have f3 : f0.eval (.tmp 5) = .bool ((numT ((cleanV v).s)).2) := by rw [ag]; exact put_same _ _ _ (by rw [bs]; decide)
 show stepsTo _ _ _ _ _ (cB.put (some 5) (.bool ((numT ((cleanV v).s)).2))) _
 rw [← ag]
 refine st_nil (d9 _ _ (wp_seq_k fun hv em => ?_))
 refine wp_g0 [true] [] 37
   [ve (.bool ((numT ((cleanV v).s)).2))] bu (.eq (.nil)) ?_ ?_
 exact .m (fun k => k.fx 5 f3) .nil
 refine aftI bu el ek fun hw hx aH bv bw bx aQ => ?_
 have cG := aQ.fx 2 f1
 have f4 := aQ.fx 4 f2
 have cH := aQ.ge 0 34 rfl
 have bz := ej.new_ bx
 have en := ef.new_ bx
 refine st_nil (em _ _ ?_)
 rcases bc ((numT ((cleanV v).s)).2) with ap | ap
 have eo := hB cH ap
 refine wp_cond_true eo ?_
 refine wp_seq_k fun hy ep => ?_
 refine wp_g0 [true, false, false] [(1, false), (2, true)] 37
   [ve (nv ((numT ((cleanV v).s)).1)), vt, vt] aH (.eq (.tt (.tt (.nil)))) ?_ ?_
 exact .t (fun _ w hn k => ⟨_, v_load rfl (k.fx 4 f4) (l_two Tryd.isAgg23 Tryd.sizeOf23 (en.new_ hn)), rfl⟩) <| .off <| .off .nil
 refine aftI aH bv bw fun cI hz bA er es et bB => ?_
 have cJ := bB.fx 2 cG
 have cK := bB.ge 0 35 rfl
 have eu := bz.new_ et
 obtain ⟨hA, -, cL, ev, ew, gz⟩ := s_two (v0 := iv ((numT ((cleanV v).s)).1.k)) (v1 := iv ((numT ((cleanV v).s)).1.n)) Tryd.sizeOf23 rfl rfl rfl eu
 refine st_act rfl rfl fun hC ex => a_store' rfl cJ cK cL (ex _ _ trivial ?_)
 have ey := es.trans ew (fun _ h b => by subst b; omega)
 refine st_take rfl rfl (y_assign (v := iv 0) rfl rfl) rfl ?_
 obtain ⟨f5, am⟩ : ∃ a', a' = cI.put (some 3) (iv 0) := ⟨_, rfl⟩
 have gA := pz am bA
 have ez := pd am er
 have f6 := pn am cJ (by decide)
 have hD := pn am cK (by decide)
 have f7 : f5.eval (.tmp 3) = iv 0 := by rw [am]; exact put_same _ _ _ (by rw [bA]; decide)
 show stepsTo _ _ _ _ _ (cI.put (some 3) (iv 0)) _
 rw [← am]
 refine st_nil (ep _ _ ?_)
 refine wp_ret (ret_k ez (v := .tuple #[nv ((numT ((cleanV v).s)).1), iv 0]) (res_ct rfl f6 f7 (l_two Tryd.isAgg23 Tryd.sizeOf23 ev)) ?_)
 refine ⟨?_, ey⟩
 show Ending.returned (.tuple #[nv ((numT ((cleanV v).s)).1), iv 0]) = Ending.returned (.tuple #[nv ((numberV v).1), iv ((numberV v).2)])
 first | rfl | (simp only [numberV, ac, aa, ab, ad, ae, af, ap, bsm] <;> rfl) | (exfalso; omega)
 have eA := hB cH ap
 refine wp_cond_false eA ?_
 refine wp_skip ?_
 refine bP _ _ ?_
 refine wp_seq_k fun hE eB => ?_
 refine wp_g0 [true, false, false] [(1, false), (2, true)] 37
   [ve (nv (Nm.mk 0 0)), vt, vt] aH (.eq (.tt (.tt (.nil)))) ?_ ?_
 exact .t (fun _ w hn k => ⟨_, v_build (ps := []) rfl parts0 (by kernel_rfl), rfl⟩) <| .off <| .off .nil
 refine aftI aH bv bw fun cM hF bC eC eD eE bD => ?_
 have cN := bD.fx 2 cG
 have cO := bD.ge 0 36 rfl
 have eF := bz.new_ eE
 obtain ⟨hG, -, cP, eG, eH, gB⟩ := s_two (v0 := iv 0) (v1 := iv 0) Tryd.sizeOf23 rfl rfl rfl eF
 refine st_act rfl rfl fun hH eI => a_store' rfl cN cO cP (eI _ _ trivial ?_)
 have eJ := eD.trans eH (fun _ h b => by subst b; omega)
 refine st_take rfl rfl (y_assign (v := iv 3) rfl rfl) rfl ?_
 obtain ⟨f8, an⟩ : ∃ a', a' = cM.put (some 3) (iv 3) := ⟨_, rfl⟩
 have gC := pz an bC
 have eK := pd an eC
 have f9 := pn an cN (by decide)
 have hI := pn an cO (by decide)
 have ga : f8.eval (.tmp 3) = iv 3 := by rw [an]; exact put_same _ _ _ (by rw [bC]; decide)
 show stepsTo _ _ _ _ _ (cM.put (some 3) (iv 3)) _
 rw [← an]
 refine st_nil (eB _ _ ?_)
 refine wp_ret (ret_k eK (v := .tuple #[nv (Nm.mk 0 0), iv 3]) (res_ct rfl f9 ga (l_two Tryd.isAgg23 Tryd.sizeOf23 eG)) ?_)
 refine ⟨?_, eJ⟩
 show Ending.returned (.tuple #[nv (Nm.mk 0 0), iv 3]) = Ending.returned (.tuple #[nv ((numberV v).1), iv ((numberV v).2)])
 first | rfl | (simp only [numberV, ac, aa, ab, ad, ae, af, ap, bsm] <;> rfl) | (exfalso; omega)
 have cA := oF af
 have eL := hB cz af
 refine wp_cond_false eL ?_
 refine wp_skip ?_
 refine bP _ _ ?_
 refine wp_seq_k fun hJ eM => ?_
 refine wp_g0 [true, false, false] [(1, false), (2, true)] 37
   [ve (nv (Nm.mk 0 0)), vt, vt] aE (.eq (.tt (.tt (.nil)))) ?_ ?_
 exact .t (fun _ w hn k => ⟨_, v_build (ps := []) rfl parts0 (by kernel_rfl), rfl⟩) <| .off <| .off .nil
 refine aftI aE br aN fun cQ hK bE eN eO eP bF => ?_
 have cR := bF.fx 2 cy
 have cS := bF.ge 0 36 rfl
 have eQ := aP.new_ eP
 obtain ⟨hL, -, cT, eR, eS, gD⟩ := s_two (v0 := iv 0) (v1 := iv 0) Tryd.sizeOf23 rfl rfl rfl eQ
 refine st_act rfl rfl fun hM eT => a_store' rfl cR cS cT (eT _ _ trivial ?_)
 have eU := eO.trans eS (fun _ h b => by subst b; omega)
 refine st_take rfl rfl (y_assign (v := iv 3) rfl rfl) rfl ?_
 obtain ⟨gb, ao⟩ : ∃ a', a' = cQ.put (some 3) (iv 3) := ⟨_, rfl⟩
 have gE := pz ao bE
 have eV := pd ao eN
 have gc := pn ao cR (by decide)
 have hN := pn ao cS (by decide)
 have gd : gb.eval (.tmp 3) = iv 3 := by rw [ao]; exact put_same _ _ _ (by rw [bE]; decide)
 show stepsTo _ _ _ _ _ (cQ.put (some 3) (iv 3)) _
 rw [← ao]
 refine st_nil (eM _ _ ?_)
 refine wp_ret (ret_k eV (v := .tuple #[nv (Nm.mk 0 0), iv 3]) (res_ct rfl gc gd (l_two Tryd.isAgg23 Tryd.sizeOf23 eR)) ?_)
 refine ⟨?_, eU⟩
 show Ending.returned (.tuple #[nv (Nm.mk 0 0), iv 3]) = Ending.returned (.tuple #[nv ((numberV v).1), iv ((numberV v).2)])
 first | rfl | (simp only [numberV, ac, aa, ab, ad, ae, af, bsm] <;> rfl) | (exfalso; omega)
theorem cindex_c (v : Vl) (Av : Option Addr) (cv : Nat) (Bv : Option Addr) (dv : Nat) (w : World) (hmv : SRow w .u32 Av v.mag cv) (hsv : SRow w .u16 Bv v.s dv) (hvv : VOk v) : Calls Tryd.prog 16 #[vv v Av cv Bv dv] w (IsRet (.tuple #[iv ((indexV v).1), iv ((indexV v).2)]) w) := by
 refine enter_abs Tryd.func16 rfl fun a0 av ci hp => ?_
 have av : a0.tmps.size = 29 := av
 have bs : New w w := Upd.refl _ _
 have hp0 : a0.eval (.tmp 0) = vv v Av cv Bv dv := hp 0 _ rfl
 refine wp_seq_k fun K1 cj => ?_
 refine wp_g [true, true, true] [] [] 29
   [IsNew w 29 [iv v.k, iv v.nk, iv v.nn, .bool v.neg, sv Av v.mag cv, sv Bv v.s dv, iv v.ref], ve (iv 0), ve (iv 0)]
   [0] (newsCons (fun v w h => IsNew.old h) newsNil) av (.nw (.eq (.eq (.nil)))) ?_ (fun i h => by cases h) ?_
 exact .o2 (step_allocN (cs := [iv v.k, iv v.nk, iv v.nn, .bool v.neg, sv Av v.mag cv, sv Bv v.s dv, iv v.ref]) (t := 29) rfl (noG rfl) (fun _ w hn k => v_box rfl (k.fx 0 hp0) (fun w => rfl)) (fun q _ hq hb => ⟨q, rfl, hq, hb⟩)) <| .t (fun _ w hn k => ⟨_, v_assign rfl rfl, rfl⟩) <| .t (fun _ w hn k => ⟨_, v_assign rfl rfl, rfl⟩) .nil
 refine aftI av ci bs fun a2 w3 bt cl an dc cm => ?_
 obtain ⟨q9, h8, bB, aI⟩ : IsNew _ _ _ _ _ := cm.got 0 1 rfl (by kernel_rfl)
 have cF := Nat.le_trans bs.size bB
 refine st_nil (cj _ _ (wp_seq_k fun dd bC => ?_))
 refine wp_g0 [true, true, false] [(2, false)] 29
   [ve (vv v Av cv Bv dv),
    (VP (cleanV v)), vt] bt (.eq (.cons (fun v W W' hn ⟨A5, c6, A7, c8, he, h0, h1⟩ => ⟨A5, c6, A7, c8, he, h0.new_ hn, h1.new_ hn⟩) (.tt (.nil)))) ?_ ?_
 refine .t (fun _ w hn k => ⟨_, v_load rfl (k.fx 1 h8) (l_agg Tryd.isAgg29 Tryd.sizeOf29 (aI.new_ hn) rfl), rfl⟩) ?_
 refine .o1 (tkC rfl (noG rfl) rfl fun _ w hn k => (by
       refine ⟨#[vv v Av cv Bv dv], _, args1 (k.eq1 0 8 rfl), fun w => by kernel_rfl, clean_c v _ _ _ _ _ (hmv.new_ (an.transNew hn)) (hsv.new_ (an.transNew hn)), ?_⟩
       rintro e w' ⟨A1, c2, A3, c4, rfl, hmo0, hmo1, hm⟩
       exact ⟨_, rfl, hm, ⟨A1, c2, A3, c4, rfl, hmo0, hmo1⟩⟩)) ?_
 exact .off .nil
 refine aftI bt cl an fun cn de aJ bD bE bF aK => ?_
 have aL := aK.fx 1 h8
 obtain ⟨al, af, am, ag, aM, bG, bH⟩ : (VP (cleanV v)) _ _ := aK.got 1 9 rfl (by kernel_rfl)
 have aM : cn.eval (.tmp 9) = vv (cleanV v) al af am ag := aM
 have ao := aI.new_ bF
 obtain ⟨co, aY, aZ, ap, cG⟩ := s_many (P := Tryd.prog) (t := 29) (i := 0) [iv ((cleanV v).k), iv ((cleanV v).nk), iv ((cleanV v).nn), .bool ((cleanV v).neg), sv al ((cleanV v).mag) af, sv am ((cleanV v).s) ag, iv ((cleanV v).ref)] Tryd.sizeOf29 rfl rfl rfl ao lb
 have aN : Blk co q9 29 [iv ((cleanV v).k), iv ((cleanV v).nk), iv ((cleanV v).nn), .bool ((cleanV v).neg), sv al ((cleanV v).mag) af, sv am ((cleanV v).s) ag, iv ((cleanV v).ref)] := aZ
 refine st_act rfl rfl fun df bI => a_store' rfl aL aM aY (bI _ _ trivial ?_)
 have bJ := bG.far ao ap (by first | rfl | decide | simp [notK])
 have bK := bH.far ao ap (by first | rfl | decide | simp [notK])
 have bL := bE.trans ap (fun _ h b => by subst b; omega)
 refine st_nil (bC _ _ (wp_seq_k fun dg bM => ?_))
 refine wp_seq_k fun dh bN => ?_
 refine wp_g0 [true, true, true] [] 29
   [ve (pv q9), ve (iv ((cleanV v).k)), ve (.bool (decide (((cleanV v).k) = 0)))] aJ (.eq (.eq (.eq (.nil)))) ?_ ?_
 exact .f (fun k => k.fx 1 aL) <| .t (fun _ w hn k => ⟨_, v_load rfl (k.eq1 0 10 rfl) (l_one Tryd.isAgg3 ((aN.new_ hn).cell 0)), rfl⟩) <| .t (fun _ w hn k => ⟨_, v_bin rfl (k.eq1 1 11 rfl) rfl (fun _ => rfl) (r_eql rfl), rfl⟩) .nil
 refine aftI aJ bD bL fun di cp ah aO aq ar aP => ?_
 have cq := aP.fx 1 aL
 have bu := aP.ge 2 12 rfl
 have bO := aN.new_ ar
 have bP := bJ.new_ ar
 have bQ := bK.new_ ar
 refine st_nil (bN _ _ ?_)
 rcases bc (decide (((cleanV v).k) = 0)) with ab | ab
 have a1 := oT ab
 have bR := hB bu ab
 refine wp_cond_true bR ?_
 refine wp_seq_k fun dj bS => ?_
 refine wp_g0 [true, true] [] 29
   [ve (iv 0), ve (iv 0)] ah (.eq (.eq (.nil))) ?_ ?_
 exact .t (fun _ w hn k => ⟨_, v_assign rfl rfl, rfl⟩) <| .t (fun _ w hn k => ⟨_, v_assign rfl rfl, rfl⟩) .nil
 refine aftI ah aO aq fun dk dl cH bT bU cI aQ => ?_
 have cr := aQ.ge 0 2 rfl
 have ct := aQ.ge 1 3 rfl
 refine st_nil (bS _ _ ?_)
 refine wp_ret (ret_k bT (v := .tuple #[iv 0, iv 0]) (res_tt rfl cr ct _) ?_)
 refine ⟨?_, bU⟩
 show Ending.returned (.tuple #[iv 0, iv 0]) = Ending.returned (.tuple #[iv ((indexV v).1), iv ((indexV v).2)])
 first | rfl | (simp only [indexV, ab, bsm] <;> rfl) | (exfalso; omega)
 have a1 := oF ab
 have bV := hB bu ab
 refine wp_cond_false bV ?_
 refine wp_skip ?_
 refine bM _ _ ?_
 refine wp_seq_k fun dm bW => ?_
 refine wp_g [true, true, true, true, true, true, false, false] [4] [(6, false), (7, true)] 29
   [ve (vv (cleanV v) al af am ag), ve (.tuple #[nv ((numberV (cleanV v)).1), iv ((numberV (cleanV v)).2)]), ve (.tuple #[nv ((numberV (cleanV v)).1), iv ((numberV (cleanV v)).2)]), ve (nv ((numberV (cleanV v)).1)), ve (iv ((numberV (cleanV v)).2)), IsNew cp 23 [iv 0, iv 0], vt, vt]
   [5] (newsCons (fun v w h => IsNew.old h) newsNil) ah (.eq (.eq (.eq (.eq (.eq (.nw (.tt (.tt (.nil))))))))) ?_ ?_ ?_
 refine .t (fun _ w hn k => ⟨_, v_load rfl (k.fx 1 cq) (l_agg Tryd.isAgg29 Tryd.sizeOf29 (bO.new_ hn) rfl), rfl⟩) <| .o1 (ck rfl rfl rfl (fun _ w hn k => ⟨#[vv (cleanV v) al af am ag], args1 (k.eq1 0 14 rfl), fun _ => by kernel_rfl, cnumber_c (cleanV v) _ _ _ _ _ (bP.new_ hn) (bQ.new_ hn) hvv.clean⟩) fun _ => rfl) <| .m (fun k => k.eq1 1 15 rfl) <| .t (fun _ w hn k => ⟨_, v_extract rfl (k.eq1 2 13 rfl) rfl, rfl⟩) ?_
 refine .o3 ?_
 exact .o2 (step_allocN (cs := [iv 0, iv 0]) (t := 23) rfl (noG rfl) (fun _ w hn k => rfl) (fun q _ hq hb => ⟨q, rfl, hq, hb⟩)) <| .off <| .off .nil
 intro i h
 simp only [List.contains_eq_mem, List.mem_cons, List.not_mem_nil, or_false, decide_eq_true_eq] at h
 subst h
 exact eager_take rfl rfl fun _ w hn k => ⟨iv ((numberV (cleanV v)).2), fun w => v_extract rfl (k.eq1 2 13 rfl) rfl, rfl⟩
 refine aftI ah aO aq fun bv dn aR bX bY cJ au => ?_
 have bw := au.ge 3 16 rfl
 have bx := au.ge 4 17 rfl
 obtain ⟨dp, bz, bZ, b0⟩ : IsNew _ _ _ _ _ := au.got 5 4 rfl (by kernel_rfl)
 have cK := Nat.le_trans aq.size bZ
 obtain ⟨dq, -, a3, aS, b1, cL⟩ := s_two (v0 := iv ((numberV (cleanV v)).1.k)) (v1 := iv ((numberV (cleanV v)).1.n)) Tryd.sizeOf23 rfl rfl rfl b0
 refine st_act rfl rfl fun dr b2 => a_store' rfl bz bw a3 (b2 _ _ trivial ?_)
 have aT := bY.trans b1 (fun _ h b => by subst b; omega)
 refine st_take rfl rfl (y_assign (v := iv ((numberV (cleanV v)).2)) rfl bx) rfl ?_
 obtain ⟨cu, ac⟩ : ∃ a', a' = bv.put (some 5) (iv ((numberV (cleanV v)).2)) := ⟨_, rfl⟩
 have ai := pz ac aR
 have aU := pd ac bX
 have ds := pn ac bw (by decide)
 have dt := pn ac bx (by decide)
 have bA := pn ac bz (by decide)
 have aw : cu.eval (.tmp 5) = iv ((numberV (cleanV v)).2) := by rw [ac]; exact put_same _ _ _ (by rw [aR]; decide)
 show stepsTo _ _ _ _ _ (bv.put (some 5) (iv ((numberV (cleanV v)).2))) _
 rw [← ac]
 refine st_nil (bW _ _ (wp_seq_k fun du b3 => ?_))
 refine wp_seq_k fun cM ax => ?_
 rcases bc (decide (((numberV (cleanV v)).2) = 0)) with aa | aa
 have aV := oT aa
 refine wp_g0 [true, true] [] 29
   [ve (iv ((numberV (cleanV v)).2)), vF] ai (.eq (.eq (.nil))) ?_ ?_
 exact .m (fun k => k.fx 5 aw) <| .t (fun _ w hn k => ⟨_, v_bin rfl (k.eq1 0 18 rfl) rfl (fun _ => rfl) (r_neq aa), rfl⟩) .nil
 refine aftI ai aU aT fun cN cO ay a4 a5 a6 aj => ?_
 have b4 := aj.fx 4 bA
 have cP := aj.fx 5 aw
 have b5 := aj.ge 1 19 rfl
 have a7 := aS.new_ a6
 refine st_nil (ax _ _ ?_)
 refine wp_cond_false b5 ?_
 refine wp_skip ?_
 refine b3 _ _ ?_
 refine wp_seq_k fun cQ a8 => ?_
 refine wp_g0 [true, true, true, true, true, true, true] [] 29
   [ve (nv ((numberV (cleanV v)).1)), ve (.tuple #[iv ((indexM ((numberV (cleanV v)).1)).1), .bool ((indexM ((numberV (cleanV v)).1)).2)]), ve (.tuple #[iv ((indexM ((numberV (cleanV v)).1)).1), .bool ((indexM ((numberV (cleanV v)).1)).2)]), ve (iv ((indexM ((numberV (cleanV v)).1)).1)), ve (.bool ((indexM ((numberV (cleanV v)).1)).2)), ve (iv ((indexM ((numberV (cleanV v)).1)).1)), ve (.bool ((indexM ((numberV (cleanV v)).1)).2))] ay (.eq (.eq (.eq (.eq (.eq (.eq (.eq (.nil)))))))) ?_ ?_
 exact .t (fun _ w hn k => ⟨_, v_load rfl (k.fx 4 b4) (l_two Tryd.isAgg23 Tryd.sizeOf23 (a7.new_ hn)), rfl⟩) <| .o1 (ck rfl rfl rfl (fun _ w hn k => ⟨#[nv ((numberV (cleanV v)).1)], args1 (k.eq1 0 22 rfl), fun _ => by kernel_rfl, nindex_c ((numberV (cleanV v)).1) _ ⟩) fun _ => rfl) <| .m (fun k => k.eq1 1 23 rfl) <| .t (fun _ w hn k => ⟨_, v_extract rfl (k.eq1 2 21 rfl) rfl, rfl⟩) <| .t (fun _ w hn k => ⟨_, v_extract rfl (k.eq1 2 21 rfl) rfl, rfl⟩) <| .a (fun k => k.eq1 3 24 rfl) <| .a (fun k => k.eq1 4 25 rfl) .nil
 refine aftI ay a4 a5 fun cR cS az a9 ba cw aA => ?_
 have b6 := aA.ge 5 6 rfl
 have b7 := aA.ge 6 7 rfl
 refine st_nil (a8 _ _ (wp_seq_k fun cT bb => ?_))
 refine wp_seq_k fun cU bd => ?_
 refine wp_g0 [true, true] [] 29
   [ve (.bool ((indexM ((numberV (cleanV v)).1)).2)), ve (.bool (!((indexM ((numberV (cleanV v)).1)).2)))] az (.eq (.eq (.nil))) ?_ ?_
 exact .m (fun k => k.fx 7 b7) <| .t (fun _ w hn k => ⟨_, v_not rfl (k.eq1 0 26 rfl), rfl⟩) .nil
 refine aftI az a9 ba fun aW cV ae aB aC cx aD => ?_
 have b8 := aD.fx 6 b6
 have aX := aD.ge 1 27 rfl
 refine st_nil (bd _ _ ?_)
 rcases bc ((indexM ((numberV (cleanV v)).1)).2) with ad | ad
 have be : aW.eval (.tmp 27) = .bool false := aX.trans (congrArg Value.bool (by rw [ad]; rfl))
 refine wp_cond_false be ?_
 refine wp_skip ?_
 refine bb _ _ ?_
 refine wp_seq_k fun cW bf => ?_
 refine wp_g0 [true, true, true] [] 29
   [ve (iv ((indexM ((numberV (cleanV v)).1)).1)), ve (iv ((indexM ((numberV (cleanV v)).1)).1)), ve (iv 0)] ae (.eq (.eq (.eq (.nil)))) ?_ ?_
 exact .m (fun k => k.fx 6 b8) <| .a (fun k => k.eq1 0 28 rfl) <| .t (fun _ w hn k => ⟨_, v_assign rfl rfl, rfl⟩) .nil
 refine aftI ae aB aC fun cX cY cy bg bh cz aE => ?_
 have b9 := aE.ge 1 2 rfl
 have ca := aE.ge 2 3 rfl
 refine st_nil (bf _ _ ?_)
 refine wp_ret (ret_k bg (v := .tuple #[iv ((indexM ((numberV (cleanV v)).1)).1), iv 0]) (res_tt rfl b9 ca _) ?_)
 refine ⟨?_, bh⟩
 show Ending.returned (.tuple #[iv ((indexM ((numberV (cleanV v)).1)).1), iv 0]) = Ending.returned (.tuple #[iv ((indexV v).1), iv ((indexV v).2)])
 first | rfl | (simp only [indexV, ab, aa, ad, bsm] <;> rfl) | (exfalso; omega)
 have bi : aW.eval (.tmp 27) = .bool true := aX.trans (congrArg Value.bool (by rw [ad]; rfl))
 refine wp_cond_true bi ?_
 refine wp_seq_k fun cZ bj => ?_
 refine wp_g0 [true, true] [] 29
   [ve (iv 0), ve (iv 2)] ae (.eq (.eq (.nil))) ?_ ?_
 exact .t (fun _ w hn k => ⟨_, v_assign rfl rfl, rfl⟩) <| .t (fun _ w hn k => ⟨_, v_assign rfl rfl, rfl⟩) .nil
 refine aftI ae aB aC fun c0 c1 cA bk bl cB aF => ?_
 have cb := aF.ge 0 2 rfl
 have cc := aF.ge 1 3 rfl
 refine st_nil (bj _ _ ?_)
 refine wp_ret (ret_k bk (v := .tuple #[iv 0, iv 2]) (res_tt rfl cb cc _) ?_)
 refine ⟨?_, bl⟩
 show Ending.returned (.tuple #[iv 0, iv 2]) = Ending.returned (.tuple #[iv ((indexV v).1), iv ((indexV v).2)])
 first | rfl | (simp only [indexV, ab, aa, ad, bsm] <;> rfl) | (exfalso; omega)
 have aV := oF aa
 refine wp_g0 [true, true] [] 29
   [ve (iv ((numberV (cleanV v)).2)), vT] ai (.eq (.eq (.nil))) ?_ ?_
 exact .m (fun k => k.fx 5 aw) <| .t (fun _ w hn k => ⟨_, v_bin rfl (k.eq1 0 18 rfl) rfl (fun _ => rfl) (r_neq aa), rfl⟩) .nil
 refine aftI ai aU aT fun c3 c5 aG bm bn bo ak => ?_
 have c7 := ak.fx 4 bA
 have cd := ak.fx 5 aw
 have ce := ak.ge 1 19 rfl
 have cC := aS.new_ bo
 refine st_nil (ax _ _ ?_)
 refine wp_cond_true ce ?_
 refine wp_seq_k fun c9 bp => ?_
 refine wp_g0 [true, true, true] [] 29
   [ve (iv ((numberV (cleanV v)).2)), ve (iv 0), ve (iv ((numberV (cleanV v)).2))] aG (.eq (.eq (.eq (.nil)))) ?_ ?_
 exact .m (fun k => k.fx 5 cd) <| .t (fun _ w hn k => ⟨_, v_assign rfl rfl, rfl⟩) <| .a (fun k => k.eq1 0 20 rfl) .nil
 refine aftI aG bm bn fun da db cD bq br cE aH => ?_
 have cf := aH.ge 1 2 rfl
 have ch := aH.ge 2 3 rfl
 refine st_nil (bp _ _ ?_)
 refine wp_ret (ret_k bq (v := .tuple #[iv 0, iv ((numberV (cleanV v)).2)]) (res_tt rfl cf ch _) ?_)
 refine ⟨?_, br⟩
 show Ending.returned (.tuple #[iv 0, iv ((numberV (cleanV v)).2)]) = Ending.returned (.tuple #[iv ((indexV v).1), iv ((indexV v).2)])
 first | rfl | (simp only [indexV, ab, aa, bsm] <;> rfl) | (exfalso; omega)
theorem cstrict_c (v : Vl) (Av : Option Addr) (cv : Nat) (Bv : Option Addr) (dv : Nat) (u : Vl) (Au : Option Addr) (cu : Nat) (Bu : Option Addr) (du : Nat) (w : World) (hmv : SRow w .u32 Av v.mag cv) (hsv : SRow w .u16 Bv v.s dv) (hmu : SRow w .u32 Au u.mag cu) (hsu : SRow w .u16 Bu u.s du) : Calls Tryd.prog 9 #[vv v Av cv Bv dv, vv u Au cu Bu du] w (IsRet (.bool (strictV v u)) w) := by
 refine enter_abs Tryd.func9 rfl fun a0 aF b8 hp => ?_
 have aF : a0.tmps.size = 27 := aF
 have aK : New w w := Upd.refl _ _
 have hp0 : a0.eval (.tmp 0) = vv v Av cv Bv dv := hp 0 _ rfl
 have hp1 : a0.eval (.tmp 1) = vv u Au cu Bu du := hp 1 _ rfl
 refine wp_seq_k fun K1 b9 => ?_
 refine wp_g [true, true, true] [] [] 27
   [IsNew w 29 [iv v.k, iv v.nk, iv v.nn, .bool v.neg, sv Av v.mag cv, sv Bv v.s dv, iv v.ref], IsNew w 29 [iv u.k, iv u.nk, iv u.nn, .bool u.neg, sv Au u.mag cu, sv Bu u.s du, iv u.ref], vF]
   [0, 1] (newsCons (fun v w h => IsNew.old h) (newsCons (fun v w h => IsNew.old h) newsNil)) aF (.nw (.nw (.eq (.nil)))) ?_ (fun i h => by cases h) ?_
 exact .o2 (step_allocN (cs := [iv v.k, iv v.nk, iv v.nn, .bool v.neg, sv Av v.mag cv, sv Bv v.s dv, iv v.ref]) (t := 29) rfl (noG rfl) (fun _ w hn k => v_box rfl (k.fx 0 hp0) (fun w => rfl)) (fun q _ hq hb => ⟨q, rfl, hq, hb⟩)) <| .o2 (step_allocN (cs := [iv u.k, iv u.nk, iv u.nn, .bool u.neg, sv Au u.mag cu, sv Bu u.s du, iv u.ref]) (t := 29) rfl (noG rfl) (fun _ w hn k => v_box rfl (k.fx 1 hp1) (fun w => rfl)) (fun q _ hq hb => ⟨q, rfl, hq, hb⟩)) <| .t (fun _ w hn k => ⟨_, v_assign rfl rfl, rfl⟩) .nil
 refine aftI aF b8 aK fun a2 w3 bw ca af cS aL => ?_
 obtain ⟨q9, h8, bC, aM⟩ : IsNew _ _ _ _ _ := aL.got 0 2 rfl (by kernel_rfl)
 obtain ⟨aw, aN, bD, aO⟩ : IsNew _ _ _ _ _ := aL.got 1 3 rfl (by kernel_rfl)
 have hne16 : q9 ≠ aw := aL.ne 0 1 2 3 h8 aN
 have cD := Nat.le_trans aK.size bC
 have cE := Nat.le_trans aK.size bD
 refine st_nil (b9 _ _ (wp_seq_k fun cT bE => ?_))
 refine wp_g0 [true, true, true, true, false, false] [(4, false), (5, false)] 27
   [ve (vv v Av cv Bv dv),
    (VP (cleanV v)), ve (vv u Au cu Bu du),
    (VP (cleanV u)), vt, vt] bw (.eq (.cons (fun v W W' hn ⟨A5, c6, A7, c8, he, h0, h1⟩ => ⟨A5, c6, A7, c8, he, h0.new_ hn, h1.new_ hn⟩) (.eq (.cons (fun v W W' hn ⟨cb, cc, cd, ce, he, h0, h1⟩ => ⟨cb, cc, cd, ce, he, h0.new_ hn, h1.new_ hn⟩) (.tt (.tt (.nil))))))) ?_ ?_
 refine .t (fun _ w hn k => ⟨_, v_load rfl (k.fx 2 h8) (l_agg Tryd.isAgg29 Tryd.sizeOf29 (aM.new_ hn) rfl), rfl⟩) ?_
 refine .o1 (tkC rfl (noG rfl) rfl fun _ w hn k => (by
       refine ⟨#[vv v Av cv Bv dv], _, args1 (k.eq1 0 5 rfl), fun w => by kernel_rfl, clean_c v _ _ _ _ _ (hmv.new_ (af.transNew hn)) (hsv.new_ (af.transNew hn)), ?_⟩
       rintro e w' ⟨A1, c2, A3, c4, rfl, hmo0, hmo1, hm⟩
       exact ⟨_, rfl, hm, ⟨A1, c2, A3, c4, rfl, hmo0, hmo1⟩⟩)) ?_
 refine .t (fun _ w hn k => ⟨_, v_load rfl (k.fx 3 aN) (l_agg Tryd.isAgg29 Tryd.sizeOf29 (aO.new_ hn) rfl), rfl⟩) ?_
 refine .o1 (tkC rfl (noG rfl) rfl fun _ w hn k => (by
       refine ⟨#[vv u Au cu Bu du], _, args1 (k.eq1 2 7 rfl), fun w => by kernel_rfl, clean_c u _ _ _ _ _ (hmu.new_ (af.transNew hn)) (hsu.new_ (af.transNew hn)), ?_⟩
       rintro e w' ⟨A9, cf, ch, ci, rfl, hmo0, hmo1, hm⟩
       exact ⟨_, rfl, hm, ⟨A9, cf, ch, ci, rfl, hmo0, hmo1⟩⟩)) ?_
 exact .off <| .off .nil
 refine aftI bw ca af fun bx cU ao aP bF aQ ap => ?_
 have ax := ap.fx 2 h8
 have ay := ap.fx 3 aN
 obtain ⟨az, ag, aA, ah, aR, bG, bH⟩ : (VP (cleanV v)) _ _ := ap.got 1 6 rfl (by kernel_rfl)
 have aR : bx.eval (.tmp 6) = vv (cleanV v) az ag aA ah := aR
 obtain ⟨aB, ai, aC, aj, aS, bI, bJ⟩ : (VP (cleanV u)) _ _ := ap.got 3 8 rfl (by kernel_rfl)
 have aS : bx.eval (.tmp 8) = vv (cleanV u) aB ai aC aj := aS
 have ak := aM.new_ aQ
 have bK := aO.new_ aQ
 obtain ⟨cj, a6, a7, al, bL⟩ := s_many (P := Tryd.prog) (t := 29) (i := 0) [iv ((cleanV v).k), iv ((cleanV v).nk), iv ((cleanV v).nn), .bool ((cleanV v).neg), sv az ((cleanV v).mag) ag, sv aA ((cleanV v).s) ah, iv ((cleanV v).ref)] Tryd.sizeOf29 rfl rfl rfl ak lb
 have bM : Blk cj q9 29 [iv ((cleanV v).k), iv ((cleanV v).nk), iv ((cleanV v).nn), .bool ((cleanV v).neg), sv az ((cleanV v).mag) ag, sv aA ((cleanV v).s) ah, iv ((cleanV v).ref)] := a7
 refine st_act rfl rfl fun cV bN => a_store' rfl ax aR a6 (bN _ _ trivial ?_)
 have bO := bG.far ak al (by first | rfl | decide | simp [notK])
 have bP := bH.far ak al (by first | rfl | decide | simp [notK])
 have bQ := bI.far ak al (by first | rfl | decide | simp [notK])
 have bR := bJ.far ak al (by first | rfl | decide | simp [notK])
 have am := bL _ _ _ (fun h => hne16 h.symm) bK
 have bS := bF.trans al (fun _ h b => by subst b; omega)
 obtain ⟨cl, a8, a9, an, bT⟩ := s_many (P := Tryd.prog) (t := 29) (i := 0) [iv ((cleanV u).k), iv ((cleanV u).nk), iv ((cleanV u).nn), .bool ((cleanV u).neg), sv aB ((cleanV u).mag) ai, sv aC ((cleanV u).s) aj, iv ((cleanV u).ref)] Tryd.sizeOf29 rfl rfl rfl am lb
 have aq : Blk cl aw 29 [iv ((cleanV u).k), iv ((cleanV u).nk), iv ((cleanV u).nn), .bool ((cleanV u).neg), sv aB ((cleanV u).mag) ai, sv aC ((cleanV u).s) aj, iv ((cleanV u).ref)] := a9
 refine st_act rfl rfl fun cW bU => a_store' rfl ay aS a8 (bU _ _ trivial ?_)
 have aT := bO.far am an (by first | rfl | decide | simp [notK])
 have aU := bP.far am an (by first | rfl | decide | simp [notK])
 have aV := bQ.far am an (by first | rfl | decide | simp [notK])
 have aW := bR.far am an (by first | rfl | decide | simp [notK])
 have ar := bT _ _ _ (hne16) bM
 have aX := bS.trans an (fun _ h b => by subst b; omega)
 refine st_nil (bE _ _ (wp_seq_k fun cX bV => ?_))
 refine wp_block ?_
 refine wp_seq_k fun cY aY => ?_
 rcases bc (decide (((cleanV v).k) = ((cleanV u).k))) with ab | ab
 have ba := oT ab
 refine wp_g0 [true, true, true, true, true, true] [] 27
   [ve (pv q9), ve (iv ((cleanV v).k)), ve (pv aw), ve (iv ((cleanV u).k)), vF, vF] ao (.eq (.eq (.eq (.eq (.eq (.eq (.nil))))))) ?_ ?_
 exact .f (fun k => k.fx 2 ax) <| .t (fun _ w hn k => ⟨_, v_load rfl (k.eq1 0 10 rfl) (l_one Tryd.isAgg3 ((ar.new_ hn).cell 0)), rfl⟩) <| .f (fun k => k.fx 3 ay) <| .t (fun _ w hn k => ⟨_, v_load rfl (k.eq1 2 12 rfl) (l_one Tryd.isAgg3 ((aq.new_ hn).cell 0)), rfl⟩) <| .t (fun _ w hn k => ⟨_, v_bin rfl (k.eq1 1 11 rfl) (k.eq1 3 13 rfl) (fun _ => rfl) (r_neq ab), rfl⟩) <| .a (fun k => k.eq1 4 14 rfl) .nil
 refine aftI ao aP aX fun cZ c0 aZ bW bX ad aD => ?_
 have bz := aD.fx 2 ax
 have cm := aD.fx 3 ay
 have cn := aD.ge 5 9 rfl
 have a1 := ar.new_ ad
 have bY := aq.new_ ad
 have bZ := aT.new_ ad
 have b0 := aU.new_ ad
 have b1 := aV.new_ ad
 have b2 := aW.new_ ad
 refine st_nil (aY _ _ ?_)
 refine wp_cond_false cn ?_
 refine wp_seq_k fun c1 b3 => ?_
 refine wp_g0 [true, true, true, true] [] 27
   [ve (pv q9), ve (iv ((cleanV v).k)), ve (.bool (decide (((cleanV v).k) = 3))), ve (.bool (decide (((cleanV v).k) = 3)))] aZ (.eq (.eq (.eq (.eq (.nil))))) ?_ ?_
 exact .f (fun k => k.fx 2 bz) <| .t (fun _ w hn k => ⟨_, v_load rfl (k.eq1 0 16 rfl) (l_one Tryd.isAgg3 ((a1.new_ hn).cell 0)), rfl⟩) <| .t (fun _ w hn k => ⟨_, v_bin rfl (k.eq1 1 17 rfl) rfl (fun _ => rfl) (r_eql rfl), rfl⟩) <| .a (fun k => k.eq1 2 18 rfl) .nil
 refine aftI aZ bW bX fun c3 c5 au a3 aG ae aE => ?_
 have bA := aE.fx 2 bz
 have bB := aE.fx 3 cm
 have a4 := aE.ge 3 15 rfl
 have aH := a1.new_ ae
 have aI := bY.new_ ae
 have bb := bZ.new_ ae
 have bd := b0.new_ ae
 have be := b1.new_ ae
 have bf := b2.new_ ae
 refine st_nil (b3 _ _ ?_)
 rcases bc (decide (((cleanV v).k) = 3)) with aa | aa
 have a5 := oT aa
 have bg := hB a4 aa
 refine wp_cond_true bg ?_
 refine wp_seq_k fun cF bh => ?_
 refine wp_g0 [true, true, true, true, true, true] [] 27
   [ve (.pointer (some ⟨q9, 1, none⟩)), ve (nv (Nm.mk ((cleanV v).nk) ((cleanV v).nn))), ve (.pointer (some ⟨aw, 1, none⟩)), ve (nv (Nm.mk ((cleanV u).nk) ((cleanV u).nn))), ve (.bool (equalM (Nm.mk ((cleanV v).nk) ((cleanV v).nn)) (Nm.mk ((cleanV u).nk) ((cleanV u).nn)))), ve (.bool (equalM (Nm.mk ((cleanV v).nk) ((cleanV v).nn)) (Nm.mk ((cleanV u).nk) ((cleanV u).nn))))] au (.eq (.eq (.eq (.eq (.eq (.eq (.nil))))))) ?_ ?_
 exact .f (fun k => k.fx 2 bA) <| .t (fun _ w hn k => ⟨_, v_load rfl (k.eq1 0 19 rfl) (l_part Tryd.isAgg23 Tryd.sizeOf23 (aH.new_ hn) lb), rfl⟩) <| .f (fun k => k.fx 3 bB) <| .t (fun _ w hn k => ⟨_, v_load rfl (k.eq1 2 21 rfl) (l_part Tryd.isAgg23 Tryd.sizeOf23 (aI.new_ hn) lb), rfl⟩) <| .o1 (ck rfl rfl rfl (fun _ w hn k => ⟨#[nv (Nm.mk ((cleanV v).nk) ((cleanV v).nn)), nv (Nm.mk ((cleanV u).nk) ((cleanV u).nn))], args2 (k.eq1 1 20 rfl) (k.eq1 3 22 rfl), fun _ => by kernel_rfl, equal_c (Nm.mk ((cleanV v).nk) ((cleanV v).nn)) (Nm.mk ((cleanV u).nk) ((cleanV u).nn)) _ ⟩) fun _ => rfl) <| .a (fun k => k.eq1 4 23 rfl) .nil
 refine aftI au a3 aG fun cG cH co bi bj cp bk => ?_
 have b4 := bk.ge 5 4 rfl
 refine st_nil (bh _ _ ?_)
 refine wp_ret (ret_k bi (v := .bool (equalM (Nm.mk ((cleanV v).nk) ((cleanV v).nn)) (Nm.mk ((cleanV u).nk) ((cleanV u).nn)))) (res_t rfl b4 _) ?_)
 refine ⟨?_, bj⟩
 show Ending.returned (.bool (equalM (Nm.mk ((cleanV v).nk) ((cleanV v).nn)) (Nm.mk ((cleanV u).nk) ((cleanV u).nn)))) = Ending.returned (.bool (strictV v u))
 first | rfl | (simp only [strictV, ab, aa, bsm] <;> rfl) | (exfalso; omega)
 have a5 := oF aa
 have bl := hB a4 aa
 refine wp_cond_false bl ?_
 refine wp_skip ?_
 refine bV _ _ ?_
 refine wp_seq_k fun cI bm => ?_
 refine wp_g0 [true, true, true, true] [] 27
   [ve (vv (cleanV v) az ag aA ah), ve (vv (cleanV u) aB ai aC aj), ve (.bool (sameV (cleanV v) (cleanV u))), ve (.bool (sameV (cleanV v) (cleanV u)))] au (.eq (.eq (.eq (.eq (.nil))))) ?_ ?_
 exact .t (fun _ w hn k => ⟨_, v_load rfl (k.fx 2 bA) (l_agg Tryd.isAgg29 Tryd.sizeOf29 (aH.new_ hn) rfl), rfl⟩) <| .t (fun _ w hn k => ⟨_, v_load rfl (k.fx 3 bB) (l_agg Tryd.isAgg29 Tryd.sizeOf29 (aI.new_ hn) rfl), rfl⟩) <| .o1 (ck rfl rfl rfl (fun _ w hn k => ⟨#[vv (cleanV v) az ag aA ah, vv (cleanV u) aB ai aC aj], args2 (k.eq1 0 24 rfl) (k.eq1 1 25 rfl), fun _ => by kernel_rfl, vsame_c (cleanV v) _ _ _ _ (cleanV u) _ _ _ _ _ (bb.new_ hn) (bd.new_ hn) (be.new_ hn) (bf.new_ hn)⟩) fun _ => rfl) <| .a (fun k => k.eq1 2 26 rfl) .nil
 refine aftI au a3 aG fun cJ cK cq bn bo cr bp => ?_
 have b5 := bp.ge 3 4 rfl
 refine st_nil (bm _ _ ?_)
 refine wp_ret (ret_k bn (v := .bool (sameV (cleanV v) (cleanV u))) (res_t rfl b5 _) ?_)
 refine ⟨?_, bo⟩
 show Ending.returned (.bool (sameV (cleanV v) (cleanV u))) = Ending.returned (.bool (strictV v u))
 first | rfl | (simp only [strictV, ab, aa, bsm] <;> rfl) | (exfalso; omega)
 have ba := oF ab
 refine wp_g0 [true, true, true, true, true, true] [] 27
   [ve (pv q9), ve (iv ((cleanV v).k)), ve (pv aw), ve (iv ((cleanV u).k)), vT, vT] ao (.eq (.eq (.eq (.eq (.eq (.eq (.nil))))))) ?_ ?_
 exact .f (fun k => k.fx 2 ax) <| .t (fun _ w hn k => ⟨_, v_load rfl (k.eq1 0 10 rfl) (l_one Tryd.isAgg3 ((ar.new_ hn).cell 0)), rfl⟩) <| .f (fun k => k.fx 3 ay) <| .t (fun _ w hn k => ⟨_, v_load rfl (k.eq1 2 12 rfl) (l_one Tryd.isAgg3 ((aq.new_ hn).cell 0)), rfl⟩) <| .t (fun _ w hn k => ⟨_, v_bin rfl (k.eq1 1 11 rfl) (k.eq1 3 13 rfl) (fun _ => rfl) (r_neq ab), rfl⟩) <| .a (fun k => k.eq1 4 14 rfl) .nil
 refine aftI ao aP aX fun cL cM aJ bq br ac av => ?_
 have cN := av.fx 2 ax
 have cO := av.fx 3 ay
 have b6 := av.ge 5 9 rfl
 have ct := ar.new_ ac
 have cw := aq.new_ ac
 have cx := aT.new_ ac
 have cy := aU.new_ ac
 have cz := aV.new_ ac
 have cA := aW.new_ ac
 refine st_nil (aY _ _ ?_)
 refine wp_cond_true b6 ?_
 refine wp_seq_k fun cP bs => ?_
 refine wp_g0 [true] [] 27
   [vF] aJ (.eq (.nil)) ?_ ?_
 exact .t (fun _ w hn k => ⟨_, v_assign rfl rfl, rfl⟩) .nil
 refine aftI aJ bq br fun cQ cR cB bt bu cC bv => ?_
 have b7 := bv.ge 0 4 rfl
 refine st_nil (bs _ _ ?_)
 refine wp_ret (ret_k bt (v := .bool false) (res_t rfl b7 _) ?_)
 refine ⟨?_, bu⟩
 show Ending.returned (.bool false) = Ending.returned (.bool (strictV v u))
 first | rfl | (simp only [strictV, ab, bsm] <;> rfl) | (exfalso; omega)
def cstr_c_P (Au : Option Addr) (u : List Nat) (cu : Nat) (w : World) (en : Ending) (w' : World) : Prop := ∃ (Ar0 : Option Addr) (cr0 : Nat) (Ar1 : Option Addr) (cr1 : Nat), en = .returned (vv (strV u) Ar0 cr0 Ar1 cr1) ∧ SRow w' .u32 Ar0 ((strV u).mag) cr0 ∧ SRow w' .u16 Ar1 ((strV u).s) cr1 ∧ New w w'
theorem cstr_c (Au : Option Addr) (u : List Nat) (cu : Nat) (w : World) (hru : SRow w .u16 Au u cu) (hs : u.length ≤ 20000) : Calls Tryd.prog 13 #[sv Au u cu] w (cstr_c_P Au u cu w) := by
 refine enter_abs Tryd.func13 rfl fun a0 af aJ hp => ?_
 have af : a0.tmps.size = 10 := af
 have am : New w w := Upd.refl _ _
 have hp0 : a0.eval (.tmp 0) = sv Au u cu := hp 0 _ rfl
 refine wp_seq_k fun K1 aK => ?_
 refine wp_g [true] [] [] 10
   [IsNew w 29 [iv 0, iv 0, iv 0, .bool false, sv none ([]) 0, sv none ([]) 0, iv 0]]
   [0] (newsCons (fun v w h => IsNew.old h) newsNil) af (.nw (.nil)) ?_ (fun i h => by cases h) ?_
 exact .o2 (step_allocN (cs := [iv 0, iv 0, iv 0, .bool false, sv none ([]) 0, sv none ([]) 0, iv 0]) (t := 29) rfl (noG rfl) (fun _ w hn k => rfl) (fun q _ hq hb => ⟨q, rfl, hq, hb⟩)) .nil
 refine aftI af aJ am fun a2 w3 an aL ae aX ao => ?_
 have h8 := ao.fx 0 hp0
 obtain ⟨aM, h9, aw, ax⟩ : IsNew _ _ _ _ _ := ao.got 0 2 rfl (by kernel_rfl)
 have aU := Nat.le_trans am.size aw
 refine st_nil (aK _ _ (wp_seq_k fun aY ay => ?_))
 refine wp_g0 [true, true, true, true, true, true, true, false] [(7, false)] 10
   [ve (sv Au u cu), ve (sv Au u cu), ve (iv (u.length : Int)), ve (iv (min (u.length : Int) 4096)),
    (RP .u16 (u.take ((min (u.length : Int) 4096 : Int).toNat))),
    (OP w3.heap.size 64 .u16 (u.take ((min (u.length : Int) 4096 : Int).toNat))), (fun (v_ : Value) (W : World) => ∃ (ab : Option Addr) (ac : Nat), v_ = vv (Vl.mk 5 0 0 false [] (u.take ((min (u.length : Int) 4096 : Int).toNat)) 0) none 0 ab ac ∧ SOwn W w3.heap.size 64 .u16 ab (u.take ((min (u.length : Int) 4096 : Int).toNat)) ac), vt] an (.eq (.eq (.eq (.eq (.cons (fun _ _ _ n ⟨_, _, e, h⟩ => ⟨_, _, e, h.new_ n⟩) (.cons (fun v W W' hn ⟨aN, aO, he, h0⟩ => ⟨aN, aO, he, h0.new_ hn⟩) (.cons (fun _ _ _ n ⟨_, _, e, h⟩ => ⟨_, _, e, h.new_ n⟩) (.tt (.nil))))))))) ?_ ?_
 refine .m (fun k => k.fx 0 h8) <| .m (fun k => k.fx 0 h8) <| .t (fun _ w hn k => ⟨_, v_lenR rfl elU (k.eq1 1 4 rfl), rfl⟩) <| .t (fun _ w hn k => ⟨_, v_min rfl (k.eq1 2 5 rfl) rfl, rfl⟩) ?_
 refine .o1 (tk rfl rfl fun _ w hn k => (by
       exact x_cutH (k := .u16) rfl elU (k.eq1 0 3 rfl) (k.eq1 3 6 rfl) (hru.new_ (ae.transNew hn)) (by omega) fun A1 c2 hmr => ⟨A1, c2, rfl, hmr⟩)) ?_
 refine .o1 (tkC rfl (noG rfl) rfl fun _ w hn k => (by
       obtain ⟨A5, c6, e7, aP⟩ : (RP .u16 (u.take ((min (u.length : Int) 4096 : Int).toNat))) _ _ := k.dep 4 7 (by kernel_rfl) (by kernel_rfl)
       refine ⟨#[sv A5 (u.take ((min (u.length : Int) 4096 : Int).toNat)) c6], _, args1 e7, fun w => by kernel_rfl, clone16_c _ (u.take ((min (u.length : Int) 4096 : Int).toNat)) _ _ aP (by first | omega | (simp only [List.length_nil, List.length_take, List.length_drop]; omega) | (simp only [List.length_cons, List.length_nil]; omega)), ?_⟩
       rintro e w' ⟨A9, aQ, rfl, hmo0, hm⟩
       exact ⟨_, rfl, hm, ⟨A9, aQ, rfl, (hmo0.more hn.size)⟩⟩)) ?_
 refine .o1 (tk rfl rfl fun _ w hn k => (by
       obtain ⟨ap, aq, aR, az⟩ : (OP w3.heap.size 64 .u16 (u.take ((min (u.length : Int) 4096 : Int).toNat))) _ _ := k.dep 5 8 (by kernel_rfl) (by kernel_rfl)
       exact ⟨_, v_build (ps := [(0, iv 5), (3, sv ap (u.take ((min (u.length : Int) 4096 : Int).toNat)) aq)]) rfl (parts2 rfl aR) (by kernel_rfl), ⟨ap, aq, rfl, az⟩⟩)) ?_
 exact .off .nil
 refine aftI an aL ae fun aS aZ aV aA aB aC ag => ?_
 have ar := ag.fx 2 h9
 obtain ⟨ad, aa, ah, aD⟩ : (fun (v_ : Value) (W : World) => ∃ (ab : Option Addr) (ac : Nat), v_ = vv (Vl.mk 5 0 0 false [] (u.take ((min (u.length : Int) 4096 : Int).toNat)) 0) none 0 ab ac ∧ SOwn W w3.heap.size 64 .u16 ab (u.take ((min (u.length : Int) 4096 : Int).toNat)) ac) _ _ := ag.got 6 9 rfl (by kernel_rfl)
 have ah : aS.eval (.tmp 9) = vv (Vl.mk 5 0 0 false [] (u.take ((min (u.length : Int) 4096 : Int).toNat)) 0) none 0 ad aa := ah
 have ai := ax.new_ aC
 have aE := aD.more ae.size
 obtain ⟨aT, ak, al, aj, aW⟩ := s_many (P := Tryd.prog) (t := 29) (i := 0) [iv 5, iv 0, iv 0, .bool false, sv none ([]) 0, sv ad (u.take ((min (u.length : Int) 4096 : Int).toNat)) aa, iv 0] Tryd.sizeOf29 rfl rfl rfl ai lb
 have aF : Blk aT aM 29 [iv 5, iv 0, iv 0, .bool false, sv none ([]) 0, sv ad (u.take ((min (u.length : Int) 4096 : Int).toNat)) aa, iv 0] := al
 refine st_act rfl rfl fun a1 aG => a_store' rfl ar ah ak (aG _ _ trivial ?_)
 have aH := aE.far ai aj (by decide)
 have aI := aB.trans aj (fun _ h b => by subst b; omega)
 refine st_nil (ay _ _ ?_)
 refine wp_ret (ret_k aA (v := vv (Vl.mk 5 0 0 false [] (u.take ((min (u.length : Int) 4096 : Int).toNat)) 0) none 0 ad aa) (res_c rfl ar (l_agg Tryd.isAgg29 Tryd.sizeOf29 aF rfl)) ?_)
 have au : (strV u).mag = [] := by first | rfl | (simp only [strV, tk_min, bsm] <;> rfl) | (exfalso; omega)
 have av : (strV u).s = (u.take ((min (u.length : Int) 4096 : Int).toNat)) := by first | rfl | (simp only [strV, tk_min, bsm] <;> rfl) | (exfalso; omega)
 exact ⟨none, 0, ad, aa, (by show Ending.returned (vv (Vl.mk 5 0 0 false [] (u.take ((min (u.length : Int) 4096 : Int).toNat)) 0) none 0 ad aa) = Ending.returned (vv (strV u) none 0 ad aa); (first | rfl | (simp only [strV, au, av, tk_min, bsm] <;> rfl) | (exfalso; omega))), (by rw [au]; exact (SRow.nil _ _)), (by rw [av]; exact aH.row), aI⟩
theorem cloose_c (v : Vl) (Av : Option Addr) (cv : Nat) (Bv : Option Addr) (dv : Nat) (u : Vl) (Au : Option Addr) (cu : Nat) (Bu : Option Addr) (du : Nat) (w : World) (hmv : SRow w .u32 Av v.mag cv) (hsv : SRow w .u16 Bv v.s dv) (hmu : SRow w .u32 Au u.mag cu) (hsu : SRow w .u16 Bu u.s du) (hvv : VOk v) (hvu : VOk u) : Calls Tryd.prog 8 #[vv v Av cv Bv dv, vv u Au cu Bu du] w (IsRet (.tuple #[.bool ((looseV v u).1), iv ((looseV v u).2)]) w) := by
 refine enter_abs Tryd.func8 rfl fun a0 cO jQ hp => ?_
 have cO : a0.tmps.size = 91 := cO
 have d3 : New w w := Upd.refl _ _
 have hp0 : a0.eval (.tmp 0) = vv v Av cv Bv dv := hp 0 _ rfl
 have hp1 : a0.eval (.tmp 1) = vv u Au cu Bu du := hp 1 _ rfl
 have hlv1 := hvv.clean.mlen
 have hlu1 := hvu.clean.mlen
 have hlv2 := hvv.clean.counted.mlen
 have hlu2 := hvu.clean.counted.mlen
 have mR := hvv.clean.counted.nlo
 have mS := hvv.clean.counted.nhi
 have mT := hvu.clean.counted.nlo
 have mU := hvu.clean.counted.nhi
 refine wp_seq_k fun K1 jR => ?_
 refine wp_g [true, true, true, true] [] [] 91
   [IsNew w 29 [iv v.k, iv v.nk, iv v.nn, .bool v.neg, sv Av v.mag cv, sv Bv v.s dv, iv v.ref], IsNew w 29 [iv u.k, iv u.nk, iv u.nn, .bool u.neg, sv Au u.mag cu, sv Bu u.s du, iv u.ref], vF, ve (iv 0)]
   [0, 1] (newsCons (fun v w h => IsNew.old h) (newsCons (fun v w h => IsNew.old h) newsNil)) cO (.nw (.nw (.eq (.eq (.nil))))) ?_ (fun i h => by cases h) ?_
 exact .o2 (step_allocN (cs := [iv v.k, iv v.nk, iv v.nn, .bool v.neg, sv Av v.mag cv, sv Bv v.s dv, iv v.ref]) (t := 29) rfl (noG rfl) (fun _ w hn k => v_box rfl (k.fx 0 hp0) (fun w => rfl)) (fun q _ hq hb => ⟨q, rfl, hq, hb⟩)) <| .o2 (step_allocN (cs := [iv u.k, iv u.nk, iv u.nn, .bool u.neg, sv Au u.mag cu, sv Bu u.s du, iv u.ref]) (t := 29) rfl (noG rfl) (fun _ w hn k => v_box rfl (k.fx 1 hp1) (fun w => rfl)) (fun q _ hq hb => ⟨q, rfl, hq, hb⟩)) <| .t (fun _ w hn k => ⟨_, v_assign rfl rfl, rfl⟩) <| .t (fun _ w hn k => ⟨_, v_assign rfl rfl, rfl⟩) .nil
 refine aftI cO jQ d3 fun a2 w3 ig jS bw mV d4 => ?_
 obtain ⟨q9, h8, ij, d5⟩ : IsNew _ _ _ _ _ := d4.got 0 2 rfl (by kernel_rfl)
 obtain ⟨aB, d6, ik, d7⟩ : IsNew _ _ _ _ _ := d4.got 1 3 rfl (by kernel_rfl)
 have hne16 : q9 ≠ aB := d4.ne 0 1 2 3 h8 d6
 have k5 := Nat.le_trans d3.size ij
 have k6 := Nat.le_trans d3.size ik
 refine st_nil (jR _ _ (wp_seq_k fun mW il => ?_))
 refine wp_g0 [true, true, true, true, false, false] [(4, false), (5, false)] 91
   [ve (vv v Av cv Bv dv),
    (VP (cleanV v)), ve (vv u Au cu Bu du),
    (VP (cleanV u)), vt, vt] ig (.eq (.cons (fun v W W' hn ⟨A5, c6, A7, c8, he, h0, h1⟩ => ⟨A5, c6, A7, c8, he, h0.new_ hn, h1.new_ hn⟩) (.eq (.cons (fun v W W' hn ⟨jT, jU, jV, jW, he, h0, h1⟩ => ⟨jT, jU, jV, jW, he, h0.new_ hn, h1.new_ hn⟩) (.tt (.tt (.nil))))))) ?_ ?_
 refine .t (fun _ w hn k => ⟨_, v_load rfl (k.fx 2 h8) (l_agg Tryd.isAgg29 Tryd.sizeOf29 (d5.new_ hn) rfl), rfl⟩) ?_
 refine .o1 (tkC rfl (noG rfl) rfl fun _ w hn k => (by
       refine ⟨#[vv v Av cv Bv dv], _, args1 (k.eq1 0 8 rfl), fun w => by kernel_rfl, clean_c v _ _ _ _ _ (hmv.new_ (bw.transNew hn)) (hsv.new_ (bw.transNew hn)), ?_⟩
       rintro e w' ⟨A1, c2, A3, c4, rfl, hmo0, hmo1, hm⟩
       exact ⟨_, rfl, hm, ⟨A1, c2, A3, c4, rfl, hmo0, hmo1⟩⟩)) ?_
 refine .t (fun _ w hn k => ⟨_, v_load rfl (k.fx 3 d6) (l_agg Tryd.isAgg29 Tryd.sizeOf29 (d7.new_ hn) rfl), rfl⟩) ?_
 refine .o1 (tkC rfl (noG rfl) rfl fun _ w hn k => (by
       refine ⟨#[vv u Au cu Bu du], _, args1 (k.eq1 2 10 rfl), fun w => by kernel_rfl, clean_c u _ _ _ _ _ (hmu.new_ (bw.transNew hn)) (hsu.new_ (bw.transNew hn)), ?_⟩
       rintro e w' ⟨A9, jX, jY, jZ, rfl, hmo0, hmo1, hm⟩
       exact ⟨_, rfl, hm, ⟨A9, jX, jY, jZ, rfl, hmo0, hmo1⟩⟩)) ?_
 exact .off <| .off .nil
 refine aftI ig jS bw fun ih mX d8 im io d9 bJ => ?_
 have ea := bJ.fx 2 h8
 have eb := bJ.fx 3 d6
 obtain ⟨aC, ak, aq, al, ec, ip, iq⟩ : (VP (cleanV v)) _ _ := bJ.got 1 9 rfl (by kernel_rfl)
 have ec : ih.eval (.tmp 9) = vv (cleanV v) aC ak aq al := ec
 obtain ⟨aJ, aD, aM, aE, ed, ir, it⟩ : (VP (cleanV u)) _ _ := bJ.got 3 11 rfl (by kernel_rfl)
 have ed : ih.eval (.tmp 11) = vv (cleanV u) aJ aD aM aE := ed
 have bx := d5.new_ d9
 have iu := d7.new_ d9
 obtain ⟨j0, e0, e1, bz, iw⟩ := s_many (P := Tryd.prog) (t := 29) (i := 0) [iv ((cleanV v).k), iv ((cleanV v).nk), iv ((cleanV v).nn), .bool ((cleanV v).neg), sv aC ((cleanV v).mag) ak, sv aq ((cleanV v).s) al, iv ((cleanV v).ref)] Tryd.sizeOf29 rfl rfl rfl bx lb
 have ix : Blk j0 q9 29 [iv ((cleanV v).k), iv ((cleanV v).nk), iv ((cleanV v).nn), .bool ((cleanV v).neg), sv aC ((cleanV v).mag) ak, sv aq ((cleanV v).s) al, iv ((cleanV v).ref)] := e1
 refine st_act rfl rfl fun mY iy => a_store' rfl ea ec e0 (iy _ _ trivial ?_)
 have iz := ip.far bx bz (by first | rfl | decide | simp [notK])
 have iA := iq.far bx bz (by first | rfl | decide | simp [notK])
 have iB := ir.far bx bz (by first | rfl | decide | simp [notK])
 have iC := it.far bx bz (by first | rfl | decide | simp [notK])
 have bA := iw _ _ _ (fun h => hne16 h.symm) iu
 have iD := io.trans bz (fun _ h b => by subst b; omega)
 obtain ⟨j1, e2, e3, bB, iE⟩ := s_many (P := Tryd.prog) (t := 29) (i := 0) [iv ((cleanV u).k), iv ((cleanV u).nk), iv ((cleanV u).nn), .bool ((cleanV u).neg), sv aJ ((cleanV u).mag) aD, sv aM ((cleanV u).s) aE, iv ((cleanV u).ref)] Tryd.sizeOf29 rfl rfl rfl bA lb
 have ee : Blk j1 aB 29 [iv ((cleanV u).k), iv ((cleanV u).nk), iv ((cleanV u).nn), .bool ((cleanV u).neg), sv aJ ((cleanV u).mag) aD, sv aM ((cleanV u).s) aE, iv ((cleanV u).ref)] := e3
 refine st_act rfl rfl fun mZ iF => a_store' rfl eb ed e2 (iF _ _ trivial ?_)
 have iG := iz.far bA bB (by first | rfl | decide | simp [notK])
 have iH := iA.far bA bB (by first | rfl | decide | simp [notK])
 have iI := iB.far bA bB (by first | rfl | decide | simp [notK])
 have iJ := iC.far bA bB (by first | rfl | decide | simp [notK])
 have ef := iE _ _ _ (hne16) ix
 have iK := iD.trans bB (fun _ h b => by subst b; omega)
 refine st_nil (il _ _ (wp_seq_k fun m0 iL => ?_))
 refine wp_block ?_
 refine wp_seq_k fun m1 iM => ?_
 refine wp_g0 [true, true, true, true, true, true] [] 91
   [ve (pv q9), ve (iv ((cleanV v).k)), ve (pv aB), ve (iv ((cleanV u).k)), ve (.bool (decide (((cleanV v).k) = ((cleanV u).k)))), ve (.bool (decide (((cleanV v).k) = ((cleanV u).k))))] d8 (.eq (.eq (.eq (.eq (.eq (.eq (.nil))))))) ?_ ?_
 exact .f (fun k => k.fx 2 ea) <| .t (fun _ w hn k => ⟨_, v_load rfl (k.eq1 0 13 rfl) (l_one Tryd.isAgg3 ((ef.new_ hn).cell 0)), rfl⟩) <| .f (fun k => k.fx 3 eb) <| .t (fun _ w hn k => ⟨_, v_load rfl (k.eq1 2 15 rfl) (l_one Tryd.isAgg3 ((ee.new_ hn).cell 0)), rfl⟩) <| .t (fun _ w hn k => ⟨_, v_bin rfl (k.eq1 1 14 rfl) (k.eq1 3 16 rfl) (fun _ => rfl) (r_eql rfl), rfl⟩) <| .a (fun k => k.eq1 4 17 rfl) .nil
 refine aftI d8 im iK fun m2 m3 be cC cD bf cE => ?_
 have cB := cE.fx 2 ea
 have cP := cE.fx 3 eb
 have ii := cE.ge 5 12 rfl
 have bC := ef.new_ bf
 have bK := ee.new_ bf
 have bD := iG.new_ bf
 have bE := iH.new_ bf
 have bL := iI.new_ bf
 have bM := iJ.new_ bf
 refine st_nil (iM _ _ ?_)
 rcases bc (decide (((cleanV v).k) = ((cleanV u).k))) with ad | ad
 have e4 := oT ad
 have iN := hB ii ad
 refine wp_cond_true iN ?_
 refine wp_seq_k fun m4 iO => ?_
 refine wp_g0 [true, true, true, true, true] [] 91
   [ve (vv (cleanV v) aC ak aq al), ve (vv (cleanV u) aJ aD aM aE), ve (.bool (strictV (cleanV v) (cleanV u))), ve (.bool (strictV (cleanV v) (cleanV u))), ve (iv 0)] be (.eq (.eq (.eq (.eq (.eq (.nil)))))) ?_ ?_
 exact .t (fun _ w hn k => ⟨_, v_load rfl (k.fx 2 cB) (l_agg Tryd.isAgg29 Tryd.sizeOf29 (bC.new_ hn) rfl), rfl⟩) <| .t (fun _ w hn k => ⟨_, v_load rfl (k.fx 3 cP) (l_agg Tryd.isAgg29 Tryd.sizeOf29 (bK.new_ hn) rfl), rfl⟩) <| .o1 (ck rfl rfl rfl (fun _ w hn k => ⟨#[vv (cleanV v) aC ak aq al, vv (cleanV u) aJ aD aM aE], args2 (k.eq1 0 18 rfl) (k.eq1 1 19 rfl), fun _ => by kernel_rfl, cstrict_c (cleanV v) _ _ _ _ (cleanV u) _ _ _ _ _ (bD.new_ hn) (bE.new_ hn) (bL.new_ hn) (bM.new_ hn)⟩) fun _ => rfl) <| .a (fun k => k.eq1 2 20 rfl) <| .t (fun _ w hn k => ⟨_, v_assign rfl rfl, rfl⟩) .nil
 refine aftI be cC cD fun m5 m6 k7 iP e5 k8 eg => ?_
 have j2 := eg.ge 3 4 rfl
 have iQ := eg.ge 4 5 rfl
 refine st_nil (iO _ _ ?_)
 refine wp_ret (ret_k iP (v := .tuple #[.bool (strictV (cleanV v) (cleanV u)), iv 0]) (res_tt rfl j2 iQ _) ?_)
 refine ⟨?_, e5⟩
 show Ending.returned (.tuple #[.bool (strictV (cleanV v) (cleanV u)), iv 0]) = Ending.returned (.tuple #[.bool ((looseV v u).1), iv ((looseV v u).2)])
 first | rfl | (simp only [looseV, loose1, loose2, loose3, noneV, ad, bsm] <;> rfl) | (exfalso; omega)
 have e4 := oF ad
 have e6 := hB ii ad
 refine wp_cond_false e6 ?_
 refine wp_seq_k fun k9 cQ => ?_
 rcases bc ((decide ((cleanV v).k = 0) || decide ((cleanV v).k = 1))) with aa | aa
 refine wp_g0 [true, true, true, true, true, true, true] [] 91
   [ve (vv (cleanV v) aC ak aq al), vT, vT, vU, vU, vT, vT] be (.eq (.eq (.eq (.eq (.eq (.eq (.eq (.nil)))))))) ?_ ?_
 exact .t (fun _ w hn k => ⟨_, v_load rfl (k.fx 2 cB) (l_agg Tryd.isAgg29 Tryd.sizeOf29 (bC.new_ hn) rfl), rfl⟩) <| .o1 (ck rfl rfl rfl (fun _ w hn k => ⟨#[vv (cleanV v) aC ak aq al], args1 (k.eq1 0 22 rfl), fun _ => by kernel_rfl, none_c (cleanV v) _ _ _ _ _ (bD.new_ hn) (bE.new_ hn)⟩) fun _ => congrArg Value.bool aa) <| .m (fun k => k.eq1 1 23 rfl) <| .s (fun k => k.eq1 2 24 rfl) <| .s (fun k => k.eq1 2 24 rfl) <| .t (fun _ w hn k => ⟨_, v_pickT rfl (k.eq1 2 24 rfl) rfl, rfl⟩) <| .a (fun k => k.eq1 5 27 rfl) .nil
 refine aftI be cC cD fun la lc cR e7 e8 aN bN => ?_
 have iR := bN.fx 2 cB
 have iS := bN.fx 3 cP
 have iT := bN.ge 6 21 rfl
 have e9 := bC.new_ aN
 have fa := bK.new_ aN
 have fb := bD.new_ aN
 have fc := bE.new_ aN
 have fd := bL.new_ aN
 have fe := bM.new_ aN
 refine st_nil (cQ _ _ ?_)
 refine wp_cond_true iT ?_
 refine wp_seq_k fun ld ff => ?_
 refine wp_g0 (.replicate 8 true) [] 91
   [ve (vv (cleanV v) aC ak aq al), vT, vT, ve (vv (cleanV u) aJ aD aM aE), ve (.bool (decide ((cleanV u).k = 0) || decide ((cleanV u).k = 1))), ve (.bool (decide ((cleanV u).k = 0) || decide ((cleanV u).k = 1))), ve (.bool (decide ((cleanV u).k = 0) || decide ((cleanV u).k = 1))), ve (iv 0)] cR (.eq (.eq (.eq (.eq (.eq (.eq (.eq (.eq (.nil))))))))) ?_ ?_
 exact .t (fun _ w hn k => ⟨_, v_load rfl (k.fx 2 iR) (l_agg Tryd.isAgg29 Tryd.sizeOf29 (e9.new_ hn) rfl), rfl⟩) <| .o1 (ck rfl rfl rfl (fun _ w hn k => ⟨#[vv (cleanV v) aC ak aq al], args1 (k.eq1 0 28 rfl), fun _ => by kernel_rfl, none_c (cleanV v) _ _ _ _ _ (fb.new_ hn) (fc.new_ hn)⟩) fun _ => congrArg Value.bool aa) <| .m (fun k => k.eq1 1 29 rfl) <| .g (fun k => k.eq1 2 30 rfl) (fun _ w hn k => ⟨_, v_load rfl (k.fx 3 iS) (l_agg Tryd.isAgg29 Tryd.sizeOf29 (fa.new_ hn) rfl), rfl⟩) <| .o1 (cg rfl rfl rfl (fun _ _ k => k.eq1 2 30 rfl) rfl (fun _ w hn k => ⟨#[vv (cleanV u) aJ aD aM aE], args1 (k.eq1 3 31 rfl), fun _ => by kernel_rfl, none_c (cleanV u) _ _ _ _ _ (fd.new_ hn) (fe.new_ hn)⟩) fun _ => rfl) <| .t (fun _ w hn k => ⟨_, v_pickT rfl (k.eq1 2 30 rfl) (k.eq1 4 32 rfl), rfl⟩) <| .a (fun k => k.eq1 5 33 rfl) <| .t (fun _ w hn k => ⟨_, v_assign rfl rfl, rfl⟩) .nil
 refine aftI cR e7 e8 fun le lf kh fg fh ki cS => ?_
 have iU := cS.ge 6 4 rfl
 have iV := cS.ge 7 5 rfl
 refine st_nil (ff _ _ ?_)
 refine wp_ret (ret_k fg (v := .tuple #[.bool (decide ((cleanV u).k = 0) || decide ((cleanV u).k = 1)), iv 0]) (res_tt rfl iU iV _) ?_)
 refine ⟨?_, fh⟩
 show Ending.returned (.tuple #[.bool (decide ((cleanV u).k = 0) || decide ((cleanV u).k = 1)), iv 0]) = Ending.returned (.tuple #[.bool ((looseV v u).1), iv ((looseV v u).2)])
 first | rfl | (simp only [looseV, loose1, loose2, loose3, noneV, ad, aa, bsm] <;> rfl) | (exfalso; omega)
 refine wp_g0 [true, true, true, true, true, true, true] [] 91
   [ve (vv (cleanV v) aC ak aq al), vF, vF, ve (vv (cleanV u) aJ aD aM aE), ve (.bool (decide ((cleanV u).k = 0) || decide ((cleanV u).k = 1))), ve (.bool (decide ((cleanV u).k = 0) || decide ((cleanV u).k = 1))), ve (.bool (decide ((cleanV u).k = 0) || decide ((cleanV u).k = 1)))] be (.eq (.eq (.eq (.eq (.eq (.eq (.eq (.nil)))))))) ?_ ?_
 exact .t (fun _ w hn k => ⟨_, v_load rfl (k.fx 2 cB) (l_agg Tryd.isAgg29 Tryd.sizeOf29 (bC.new_ hn) rfl), rfl⟩) <| .o1 (ck rfl rfl rfl (fun _ w hn k => ⟨#[vv (cleanV v) aC ak aq al], args1 (k.eq1 0 22 rfl), fun _ => by kernel_rfl, none_c (cleanV v) _ _ _ _ _ (bD.new_ hn) (bE.new_ hn)⟩) fun _ => congrArg Value.bool aa) <| .m (fun k => k.eq1 1 23 rfl) <| .g (fun k => k.eq1 2 24 rfl) (fun _ w hn k => ⟨_, v_load rfl (k.fx 3 cP) (l_agg Tryd.isAgg29 Tryd.sizeOf29 (bK.new_ hn) rfl), rfl⟩) <| .o1 (cg rfl rfl rfl (fun _ _ k => k.eq1 2 24 rfl) rfl (fun _ w hn k => ⟨#[vv (cleanV u) aJ aD aM aE], args1 (k.eq1 3 25 rfl), fun _ => by kernel_rfl, none_c (cleanV u) _ _ _ _ _ (bL.new_ hn) (bM.new_ hn)⟩) fun _ => rfl) <| .t (fun _ w hn k => ⟨_, v_pickF rfl (k.eq1 2 24 rfl) (k.eq1 4 26 rfl), rfl⟩) <| .a (fun k => k.eq1 5 27 rfl) .nil
 refine aftI be cC cD fun lg lh bg cT cU aO bO => ?_
 have cF := bO.fx 2 cB
 have eh := bO.fx 3 cP
 have ei := bO.ge 6 21 rfl
 have bP := bC.new_ aO
 have cV := bK.new_ aO
 have bQ := bD.new_ aO
 have bR := bE.new_ aO
 have cW := bL.new_ aO
 have cX := bM.new_ aO
 refine st_nil (cQ _ _ ?_)
 rcases bc ((decide ((cleanV u).k = 0) || decide ((cleanV u).k = 1))) with ac | ac
 have fi := hB ei ac
 refine wp_cond_true fi ?_
 refine wp_seq_k fun li fj => ?_
 refine wp_g0 (.replicate 8 true) [] 91
   [ve (vv (cleanV v) aC ak aq al), vF, vF, vU, vU, vF, vF, ve (iv 0)] bg (.eq (.eq (.eq (.eq (.eq (.eq (.eq (.eq (.nil))))))))) ?_ ?_
 exact .t (fun _ w hn k => ⟨_, v_load rfl (k.fx 2 cF) (l_agg Tryd.isAgg29 Tryd.sizeOf29 (bP.new_ hn) rfl), rfl⟩) <| .o1 (ck rfl rfl rfl (fun _ w hn k => ⟨#[vv (cleanV v) aC ak aq al], args1 (k.eq1 0 28 rfl), fun _ => by kernel_rfl, none_c (cleanV v) _ _ _ _ _ (bQ.new_ hn) (bR.new_ hn)⟩) fun _ => congrArg Value.bool aa) <| .m (fun k => k.eq1 1 29 rfl) <| .s (fun k => k.eq1 2 30 rfl) <| .s (fun k => k.eq1 2 30 rfl) <| .t (fun _ w hn k => ⟨_, v_pickF rfl (k.eq1 2 30 rfl) rfl, rfl⟩) <| .a (fun k => k.eq1 5 33 rfl) <| .t (fun _ w hn k => ⟨_, v_assign rfl rfl, rfl⟩) .nil
 refine aftI bg cT cU fun lj lk kj fk fl kk cY => ?_
 have iW := cY.ge 6 4 rfl
 have iX := cY.ge 7 5 rfl
 refine st_nil (fj _ _ ?_)
 refine wp_ret (ret_k fk (v := .tuple #[.bool false, iv 0]) (res_tt rfl iW iX _) ?_)
 refine ⟨?_, fl⟩
 show Ending.returned (.tuple #[.bool false, iv 0]) = Ending.returned (.tuple #[.bool ((looseV v u).1), iv ((looseV v u).2)])
 first | rfl | (simp only [looseV, loose1, loose2, loose3, noneV, ad, aa, ac, bsm] <;> rfl) | (exfalso; omega)
 have fm := hB ei ac
 refine wp_cond_false fm ?_
 refine wp_skip ?_
 refine iL _ _ ?_
 refine wp_seq_k fun ll fn => ?_
 refine wp_g0 [true, true, true, true, false, false] [(4, false), (5, false)] 91
   [ve (vv (cleanV v) aC ak aq al),
    (VP (countedV (cleanV v))), ve (vv (cleanV u) aJ aD aM aE),
    (VP (countedV (cleanV u))), vt, vt] bg (.eq (.cons (fun v W W' hn ⟨j3, j4, aJ, j5, he, h0, h1⟩ => ⟨j3, j4, aJ, j5, he, h0.new_ hn, h1.new_ hn⟩) (.eq (.cons (fun v W W' hn ⟨j6, j7, j8, j9, he, h0, h1⟩ => ⟨j6, j7, j8, j9, he, h0.new_ hn, h1.new_ hn⟩) (.tt (.tt (.nil))))))) ?_ ?_
 refine .t (fun _ w hn k => ⟨_, v_load rfl (k.fx 2 cF) (l_agg Tryd.isAgg29 Tryd.sizeOf29 (bP.new_ hn) rfl), rfl⟩) ?_
 refine .o1 (tkC rfl (noG rfl) rfl fun _ w hn k => (by
       refine ⟨#[vv (cleanV v) aC ak aq al], _, args1 (k.eq1 0 34 rfl), fun w => by kernel_rfl, counted_c (cleanV v) _ _ _ _ _ (bQ.new_ hn) (bR.new_ hn), ?_⟩
       rintro e w' ⟨ka, kb, aq, kc, rfl, hmo0, hmo1, hm⟩
       exact ⟨_, rfl, hm, ⟨ka, kb, aq, kc, rfl, hmo0, hmo1⟩⟩)) ?_
 refine .t (fun _ w hn k => ⟨_, v_load rfl (k.fx 3 eh) (l_agg Tryd.isAgg29 Tryd.sizeOf29 (cV.new_ hn) rfl), rfl⟩) ?_
 refine .o1 (tkC rfl (noG rfl) rfl fun _ w hn k => (by
       refine ⟨#[vv (cleanV u) aJ aD aM aE], _, args1 (k.eq1 2 36 rfl), fun w => by kernel_rfl, counted_c (cleanV u) _ _ _ _ _ (cW.new_ hn) (cX.new_ hn), ?_⟩
       rintro e w' ⟨kd, ke, kf, kg, rfl, hmo0, hmo1, hm⟩
       exact ⟨_, rfl, hm, ⟨kd, ke, kf, kg, rfl, hmo0, hmo1⟩⟩)) ?_
 exact .off <| .off .nil
 refine aftI bg cT cU fun ej lm bh cZ fo aP bi => ?_
 have bF := bi.fx 2 cF
 have bG := bi.fx 3 eh
 obtain ⟨am, ae, ar, ag, cG, fp, fq⟩ : (VP (countedV (cleanV v))) _ _ := bi.got 1 35 rfl (by kernel_rfl)
 have cG : ej.eval (.tmp 35) = vv (countedV (cleanV v)) am ae ar ag := cG
 obtain ⟨an, af, au, ah, cH, fr, fs⟩ : (VP (countedV (cleanV u))) _ _ := bi.got 3 37 rfl (by kernel_rfl)
 have cH : ej.eval (.tmp 37) = vv (countedV (cleanV u)) an af au ah := cH
 have av := bP.new_ aP
 have ft := cV.new_ aP
 have fu := bQ.new_ aP
 have fv := bR.new_ aP
 have fw := cW.new_ aP
 have fy := cX.new_ aP
 obtain ⟨iY, ek, el, aw, fz⟩ := s_many (P := Tryd.prog) (t := 29) (i := 0) [iv ((countedV (cleanV v)).k), iv ((countedV (cleanV v)).nk), iv ((countedV (cleanV v)).nn), .bool ((countedV (cleanV v)).neg), sv am ((countedV (cleanV v)).mag) ae, sv ar ((countedV (cleanV v)).s) ag, iv ((countedV (cleanV v)).ref)] Tryd.sizeOf29 rfl rfl rfl av lb
 have fA : Blk iY q9 29 [iv ((countedV (cleanV v)).k), iv ((countedV (cleanV v)).nk), iv ((countedV (cleanV v)).nn), .bool ((countedV (cleanV v)).neg), sv am ((countedV (cleanV v)).mag) ae, sv ar ((countedV (cleanV v)).s) ag, iv ((countedV (cleanV v)).ref)] := el
 refine st_act rfl rfl fun ln fB => a_store' rfl bF cG ek (fB _ _ trivial ?_)
 have fC := fu.far av aw (by first | rfl | decide | simp [notK])
 have fD := fv.far av aw (by first | rfl | decide | simp [notK])
 have fE := fw.far av aw (by first | rfl | decide | simp [notK])
 have fF := fy.far av aw (by first | rfl | decide | simp [notK])
 have fG := fp.far av aw (by first | rfl | decide | simp [notK])
 have fH := fq.far av aw (by first | rfl | decide | simp [notK])
 have fI := fr.far av aw (by first | rfl | decide | simp [notK])
 have fJ := fs.far av aw (by first | rfl | decide | simp [notK])
 have ax := fz _ _ _ (fun h => hne16 h.symm) ft
 have fK := fo.trans aw (fun _ h b => by subst b; omega)
 obtain ⟨iZ, em, en, ay, fL⟩ := s_many (P := Tryd.prog) (t := 29) (i := 0) [iv ((countedV (cleanV u)).k), iv ((countedV (cleanV u)).nk), iv ((countedV (cleanV u)).nn), .bool ((countedV (cleanV u)).neg), sv an ((countedV (cleanV u)).mag) af, sv au ((countedV (cleanV u)).s) ah, iv ((countedV (cleanV u)).ref)] Tryd.sizeOf29 rfl rfl rfl ax lb
 have bj : Blk iZ aB 29 [iv ((countedV (cleanV u)).k), iv ((countedV (cleanV u)).nk), iv ((countedV (cleanV u)).nn), .bool ((countedV (cleanV u)).neg), sv an ((countedV (cleanV u)).mag) af, sv au ((countedV (cleanV u)).s) ah, iv ((countedV (cleanV u)).ref)] := en
 refine st_act rfl rfl fun lo fM => a_store' rfl bG cH em (fM _ _ trivial ?_)
 have kl := fC.far ax ay (by first | rfl | decide | simp [notK])
 have km := fD.far ax ay (by first | rfl | decide | simp [notK])
 have kn := fE.far ax ay (by first | rfl | decide | simp [notK])
 have ko := fF.far ax ay (by first | rfl | decide | simp [notK])
 have c0 := fG.far ax ay (by first | rfl | decide | simp [notK])
 have c1 := fH.far ax ay (by first | rfl | decide | simp [notK])
 have c3 := fI.far ax ay (by first | rfl | decide | simp [notK])
 have c5 := fJ.far ax ay (by first | rfl | decide | simp [notK])
 have bk := fL _ _ _ (hne16) fA
 have c7 := fK.trans ay (fun _ h b => by subst b; omega)
 refine st_nil (fn _ _ (wp_seq_k fun lp c9 => ?_))
 refine wp_seq_k fun lq da => ?_
 rcases bc (decide (((countedV (cleanV v)).k) ≤ ((countedV (cleanV u)).k))) with ab | ab
 have eo := oT ab
 refine wp_g0 [true, true, true, true, true] [] 91
   [ve (pv q9), ve (iv ((countedV (cleanV v)).k)), ve (pv aB), ve (iv ((countedV (cleanV u)).k)), vF] bh (.eq (.eq (.eq (.eq (.eq (.nil)))))) ?_ ?_
 exact .f (fun k => k.fx 2 bF) <| .t (fun _ w hn k => ⟨_, v_load rfl (k.eq1 0 38 rfl) (l_one Tryd.isAgg3 ((bk.new_ hn).cell 0)), rfl⟩) <| .f (fun k => k.fx 3 bG) <| .t (fun _ w hn k => ⟨_, v_load rfl (k.eq1 2 40 rfl) (l_one Tryd.isAgg3 ((bj.new_ hn).cell 0)), rfl⟩) <| .t (fun _ w hn k => ⟨_, v_bin rfl (k.eq1 1 39 rfl) (k.eq1 3 41 rfl) (fun _ => rfl) (r_gtrK ab), rfl⟩) .nil
 refine aftI bh cZ c7 fun lr ls db fN fO aQ bS => ?_
 have ep := bS.fx 2 bF
 have er := bS.fx 3 bG
 have i0 := bS.ge 4 42 rfl
 have dc := bk.new_ aQ
 have dd := bj.new_ aQ
 have fP := c0.new_ aQ
 have fQ := c1.new_ aQ
 have fR := c3.new_ aQ
 have fS := c5.new_ aQ
 refine st_nil (da _ _ ?_)
 refine wp_cond_false i0 ?_
 refine wp_skip ?_
 refine c9 _ _ ?_
 refine wp_seq_k fun lu de => ?_
 refine wp_block ?_
 refine wp_seq_k fun lv fT => ?_
 refine wp_g0 [true, true, true, true, true, true] [] 91
   [ve (pv q9), ve (iv ((countedV (cleanV v)).k)), ve (pv aB), ve (iv ((countedV (cleanV u)).k)), ve (.bool (decide (((countedV (cleanV v)).k) = ((countedV (cleanV u)).k)))), ve (.bool (decide (((countedV (cleanV v)).k) = ((countedV (cleanV u)).k))))] db (.eq (.eq (.eq (.eq (.eq (.eq (.nil))))))) ?_ ?_
 exact .f (fun k => k.fx 2 ep) <| .t (fun _ w hn k => ⟨_, v_load rfl (k.eq1 0 46 rfl) (l_one Tryd.isAgg3 ((dc.new_ hn).cell 0)), rfl⟩) <| .f (fun k => k.fx 3 er) <| .t (fun _ w hn k => ⟨_, v_load rfl (k.eq1 2 48 rfl) (l_one Tryd.isAgg3 ((dd.new_ hn).cell 0)), rfl⟩) <| .t (fun _ w hn k => ⟨_, v_bin rfl (k.eq1 1 47 rfl) (k.eq1 3 49 rfl) (fun _ => rfl) (r_eql rfl), rfl⟩) <| .a (fun k => k.eq1 4 50 rfl) .nil
 refine aftI db fN fO fun lw lx aR bT bU aS bV => ?_
 have bH := bV.fx 2 ep
 have bW := bV.fx 3 er
 have es := bV.ge 5 45 rfl
 have a7 := dc.new_ aS
 have bl := dd.new_ aS
 have bX := fP.new_ aS
 have bY := fQ.new_ aS
 have bZ := fR.new_ aS
 have b0 := fS.new_ aS
 refine st_nil (fT _ _ ?_)
 rcases bc (decide (((countedV (cleanV v)).k) = ((countedV (cleanV u)).k))) with ao | ao
 have et := oT ao
 have fU := hB es ao
 refine wp_cond_true fU ?_
 refine wp_seq_k fun ly fV => ?_
 refine wp_g0 [true, true, true, true, true] [] 91
   [ve (vv (countedV (cleanV v)) am ae ar ag), ve (vv (countedV (cleanV u)) an af au ah), ve (.bool (strictV (countedV (cleanV v)) (countedV (cleanV u)))), ve (.bool (strictV (countedV (cleanV v)) (countedV (cleanV u)))), ve (iv 0)] aR (.eq (.eq (.eq (.eq (.eq (.nil)))))) ?_ ?_
 exact .t (fun _ w hn k => ⟨_, v_load rfl (k.fx 2 bH) (l_agg Tryd.isAgg29 Tryd.sizeOf29 (a7.new_ hn) rfl), rfl⟩) <| .t (fun _ w hn k => ⟨_, v_load rfl (k.fx 3 bW) (l_agg Tryd.isAgg29 Tryd.sizeOf29 (bl.new_ hn) rfl), rfl⟩) <| .o1 (ck rfl rfl rfl (fun _ w hn k => ⟨#[vv (countedV (cleanV v)) am ae ar ag, vv (countedV (cleanV u)) an af au ah], args2 (k.eq1 0 51 rfl) (k.eq1 1 52 rfl), fun _ => by kernel_rfl, cstrict_c (countedV (cleanV v)) _ _ _ _ (countedV (cleanV u)) _ _ _ _ _ (bX.new_ hn) (bY.new_ hn) (bZ.new_ hn) (b0.new_ hn)⟩) fun _ => rfl) <| .a (fun k => k.eq1 2 53 rfl) <| .t (fun _ w hn k => ⟨_, v_assign rfl rfl, rfl⟩) .nil
 refine aftI aR bT bU fun lz lA kp fW fX kq df => ?_
 have i1 := df.ge 3 4 rfl
 have i2 := df.ge 4 5 rfl
 refine st_nil (fV _ _ ?_)
 refine wp_ret (ret_k fW (v := .tuple #[.bool (strictV (countedV (cleanV v)) (countedV (cleanV u))), iv 0]) (res_tt rfl i1 i2 _) ?_)
 refine ⟨?_, fX⟩
 show Ending.returned (.tuple #[.bool (strictV (countedV (cleanV v)) (countedV (cleanV u))), iv 0]) = Ending.returned (.tuple #[.bool ((looseV v u).1), iv ((looseV v u).2)])
 first | rfl | (simp only [looseV, loose1, loose2, loose3, noneV, ad, aa, ac, ab, ao, bsm] <;> rfl) | (exfalso; omega)
 have et := oF ao
 have fY := hB es ao
 refine wp_cond_false fY ?_
 refine wp_seq_k fun lB dg => ?_
 rcases bc (decide (((countedV (cleanV v)).k) = 3)) with ai | ai
 have eu := oT ai
 refine wp_g0 (.replicate 9 true) [] 91
   [ve (pv q9), ve (iv ((countedV (cleanV v)).k)), vT, vT, ve (pv aB), ve (iv ((countedV (cleanV u)).k)), ve (.bool (decide (((countedV (cleanV u)).k) = 4))), ve (.bool (decide (((countedV (cleanV u)).k) = 4))), ve (.bool (decide (((countedV (cleanV u)).k) = 4)))] aR (.eq (.eq (.eq (.eq (.eq (.eq (.eq (.eq (.eq (.nil)))))))))) ?_ ?_
 exact .f (fun k => k.fx 2 bH) <| .t (fun _ w hn k => ⟨_, v_load rfl (k.eq1 0 55 rfl) (l_one Tryd.isAgg3 ((a7.new_ hn).cell 0)), rfl⟩) <| .t (fun _ w hn k => ⟨_, v_bin rfl (k.eq1 1 56 rfl) rfl (fun _ => rfl) (r_eql ai), rfl⟩) <| .m (fun k => k.eq1 2 57 rfl) <| .gf (fun k => k.eq1 3 58 rfl) (fun k => k.fx 3 bW) <| .g (fun k => k.eq1 3 58 rfl) (fun _ w hn k => ⟨_, v_load rfl (k.eq1 4 59 rfl) (l_one Tryd.isAgg3 ((bl.new_ hn).cell 0)), rfl⟩) <| .g (fun k => k.eq1 3 58 rfl) (fun _ w hn k => ⟨_, v_bin rfl (k.eq1 5 60 rfl) rfl (fun _ => rfl) (r_eql rfl), rfl⟩) <| .t (fun _ w hn k => ⟨_, v_pickT rfl (k.eq1 3 58 rfl) (k.eq1 6 61 rfl), rfl⟩) <| .a (fun k => k.eq1 7 62 rfl) .nil
 refine aftI aR bT bU fun lC lD bm dh di aT b1 => ?_
 have cI := b1.fx 2 bH
 have cJ := b1.fx 3 bW
 have ev := b1.ge 8 54 rfl
 have b2 := a7.new_ aT
 have b3 := bl.new_ aT
 have fZ := bX.new_ aT
 have f0 := bY.new_ aT
 have dj := bZ.new_ aT
 have f1 := b0.new_ aT
 refine st_nil (dg _ _ ?_)
 rcases bc (decide (((countedV (cleanV u)).k) = 4)) with az | az
 have ew := oT az
 have f2 := hB ev az
 refine wp_cond_true f2 ?_
 refine wp_seq_k fun lE f3 => ?_
 refine wp_g0 [true, true, true, true, true, true, true] [] 91
   [ve (.pointer (some ⟨aB, 3, none⟩)), ve (.agg #[.bool ((countedV (cleanV u)).neg), sv an ((countedV (cleanV u)).mag) af]), ve (.pointer (some ⟨q9, 1, none⟩)), ve (nv (Nm.mk ((countedV (cleanV v)).nk) ((countedV (cleanV v)).nn))), ve (.bool (alikeB ((countedV (cleanV u)).neg) ((countedV (cleanV u)).mag) (Nm.mk ((countedV (cleanV v)).nk) ((countedV (cleanV v)).nn)))), ve (.bool (alikeB ((countedV (cleanV u)).neg) ((countedV (cleanV u)).mag) (Nm.mk ((countedV (cleanV v)).nk) ((countedV (cleanV v)).nn)))), ve (iv 0)] bm (.eq (.eq (.eq (.eq (.eq (.eq (.eq (.nil)))))))) ?_ ?_
 exact .f (fun k => k.fx 3 cJ) <| .t (fun _ w hn k => ⟨_, v_load rfl (k.eq1 0 63 rfl) (l_part Tryd.isAgg26 Tryd.sizeOf26 (b3.new_ hn) lb), rfl⟩) <| .f (fun k => k.fx 2 cI) <| .t (fun _ w hn k => ⟨_, v_load rfl (k.eq1 2 65 rfl) (l_part Tryd.isAgg23 Tryd.sizeOf23 (b2.new_ hn) lb), rfl⟩) <| .o1 (ck rfl rfl rfl (fun _ w hn k => ⟨#[.agg #[.bool ((countedV (cleanV u)).neg), sv an ((countedV (cleanV u)).mag) af], nv (Nm.mk ((countedV (cleanV v)).nk) ((countedV (cleanV v)).nn))], args2 (k.eq1 1 64 rfl) (k.eq1 3 66 rfl), fun _ => by kernel_rfl, alike_c ((countedV (cleanV u)).neg) _ ((countedV (cleanV u)).mag) _ (Nm.mk ((countedV (cleanV v)).nk) ((countedV (cleanV v)).nn)) _ (dj.new_ hn) hvu.clean.counted.limbs (by first | omega | (simp only [List.length_nil, List.length_take, List.length_drop]; omega) | (simp only [List.length_cons, List.length_nil]; omega)) (by omega) (by omega)⟩) fun _ => rfl) <| .a (fun k => k.eq1 4 67 rfl) <| .t (fun _ w hn k => ⟨_, v_assign rfl rfl, rfl⟩) .nil
 refine aftI bm dh di fun lF lG kr f4 f5 ks dk => ?_
 have i3 := dk.ge 5 4 rfl
 have i4 := dk.ge 6 5 rfl
 refine st_nil (f3 _ _ ?_)
 refine wp_ret (ret_k f4 (v := .tuple #[.bool (alikeB ((countedV (cleanV u)).neg) ((countedV (cleanV u)).mag) (Nm.mk ((countedV (cleanV v)).nk) ((countedV (cleanV v)).nn))), iv 0]) (res_tt rfl i3 i4 _) ?_)
 refine ⟨?_, f5⟩
 show Ending.returned (.tuple #[.bool (alikeB ((countedV (cleanV u)).neg) ((countedV (cleanV u)).mag) (Nm.mk ((countedV (cleanV v)).nk) ((countedV (cleanV v)).nn))), iv 0]) = Ending.returned (.tuple #[.bool ((looseV v u).1), iv ((looseV v u).2)])
 first | rfl | (simp only [looseV, loose1, loose2, loose3, noneV, ad, aa, ac, ab, ao, ai, az, bsm] <;> rfl) | (exfalso; omega)
 have ew := oF az
 have f6 := hB ev az
 refine wp_cond_false f6 ?_
 refine wp_seq_k fun lH f7 => ?_
 refine wp_g0 (.replicate 9 true) [] 91
   [ve (pv q9), ve (iv ((countedV (cleanV v)).k)), vT, vT, ve (pv aB), ve (iv ((countedV (cleanV u)).k)), ve (.bool (decide (((countedV (cleanV u)).k) = 5))), ve (.bool (decide (((countedV (cleanV u)).k) = 5))), ve (.bool (decide (((countedV (cleanV u)).k) = 5)))] bm (.eq (.eq (.eq (.eq (.eq (.eq (.eq (.eq (.eq (.nil)))))))))) ?_ ?_
 exact .f (fun k => k.fx 2 cI) <| .t (fun _ w hn k => ⟨_, v_load rfl (k.eq1 0 69 rfl) (l_one Tryd.isAgg3 ((b2.new_ hn).cell 0)), rfl⟩) <| .t (fun _ w hn k => ⟨_, v_bin rfl (k.eq1 1 70 rfl) rfl (fun _ => rfl) (r_eql ai), rfl⟩) <| .m (fun k => k.eq1 2 71 rfl) <| .gf (fun k => k.eq1 3 72 rfl) (fun k => k.fx 3 cJ) <| .g (fun k => k.eq1 3 72 rfl) (fun _ w hn k => ⟨_, v_load rfl (k.eq1 4 73 rfl) (l_one Tryd.isAgg3 ((b3.new_ hn).cell 0)), rfl⟩) <| .g (fun k => k.eq1 3 72 rfl) (fun _ w hn k => ⟨_, v_bin rfl (k.eq1 5 74 rfl) rfl (fun _ => rfl) (r_eql rfl), rfl⟩) <| .t (fun _ w hn k => ⟨_, v_pickT rfl (k.eq1 3 72 rfl) (k.eq1 6 75 rfl), rfl⟩) <| .a (fun k => k.eq1 7 76 rfl) .nil
 refine aftI bm dh di fun lI i5 bn dl b4 aU b5 => ?_
 have i6 := b5.fx 2 cI
 have i7 := b5.fx 3 cJ
 have ex := b5.ge 8 68 rfl
 have dm := b2.new_ aU
 have f8 := b3.new_ aU
 have f9 := fZ.new_ aU
 have ga := f0.new_ aU
 have gb := dj.new_ aU
 have gc := f1.new_ aU
 refine st_nil (f7 _ _ ?_)
 rcases bc (decide (((countedV (cleanV u)).k) = 5)) with aF | aF
 have ey := oT aF
 have gd := hB ex aF
 refine wp_cond_true gd ?_
 refine wp_seq_k fun lJ gg => ?_
 refine wp_g [true, true, true, true, true, true, false, false] [4] [(6, false), (7, true)] 91
   [ve (vv (countedV (cleanV u)) an af au ah), ve (.tuple #[nv ((numberV (countedV (cleanV u))).1), iv ((numberV (countedV (cleanV u))).2)]), ve (.tuple #[nv ((numberV (countedV (cleanV u))).1), iv ((numberV (countedV (cleanV u))).2)]), ve (nv ((numberV (countedV (cleanV u))).1)), ve (iv ((numberV (countedV (cleanV u))).2)), IsNew i5 23 [iv 0, iv 0], vt, vt]
   [5] (newsCons (fun v w h => IsNew.old h) newsNil) bn (.eq (.eq (.eq (.eq (.eq (.nw (.tt (.tt (.nil))))))))) ?_ ?_ ?_
 refine .t (fun _ w hn k => ⟨_, v_load rfl (k.fx 3 i7) (l_agg Tryd.isAgg29 Tryd.sizeOf29 (f8.new_ hn) rfl), rfl⟩) <| .o1 (ck rfl rfl rfl (fun _ w hn k => ⟨#[vv (countedV (cleanV u)) an af au ah], args1 (k.eq1 0 78 rfl), fun _ => by kernel_rfl, cnumber_c (countedV (cleanV u)) _ _ _ _ _ (gb.new_ hn) (gc.new_ hn) hvu.clean.counted⟩) fun _ => rfl) <| .m (fun k => k.eq1 1 79 rfl) <| .t (fun _ w hn k => ⟨_, v_extract rfl (k.eq1 2 77 rfl) rfl, rfl⟩) ?_
 refine .o3 ?_
 exact .o2 (step_allocN (cs := [iv 0, iv 0]) (t := 23) rfl (noG rfl) (fun _ w hn k => rfl) (fun q _ hq hb => ⟨q, rfl, hq, hb⟩)) <| .off <| .off .nil
 intro i h
 simp only [List.contains_eq_mem, List.mem_cons, List.not_mem_nil, or_false, decide_eq_true_eq] at h
 subst h
 exact eager_take rfl rfl fun _ w hn k => ⟨iv ((numberV (countedV (cleanV u))).2), fun w => v_extract rfl (k.eq1 2 77 rfl) rfl, rfl⟩
 refine aftI bn dl b4 fun ez lK dn gh gi b6 bo => ?_
 have i8 := bo.fx 2 i6
 have eA := bo.ge 3 80 rfl
 have eB := bo.ge 4 81 rfl
 obtain ⟨i9, eC, dp, b7⟩ : IsNew _ _ _ _ _ := bo.got 5 6 rfl (by kernel_rfl)
 have gj := dm.new_ b6
 have hne339 : q9 ≠ i9 := by have h1 := dm.lt; have h2 := dp; omega
 have kt := Nat.le_trans b4.size dp
 have gk := f9.new_ b6
 have gl := ga.new_ b6
 obtain ⟨lL, -, eD, gm, b8, gn⟩ := s_two (v0 := iv ((numberV (countedV (cleanV u))).1.k)) (v1 := iv ((numberV (countedV (cleanV u))).1.n)) Tryd.sizeOf23 rfl rfl rfl b7
 refine st_act rfl rfl fun lM go => a_store' rfl eC eA eD (go _ _ trivial ?_)
 have ku := gk.far b7 b8 (by first | rfl | decide | simp [notK])
 have kv := gl.far b7 b8 (by first | rfl | decide | simp [notK])
 have gp := gn _ _ _ (hne339) gj
 have dq := gi.trans b8 (fun _ h b => by subst b; omega)
 refine st_take rfl rfl (y_assign (v := iv ((numberV (countedV (cleanV u))).2)) rfl eB) rfl ?_
 obtain ⟨ja, aG⟩ : ∃ a', a' = ez.put (some 7) (iv ((numberV (countedV (cleanV u))).2)) := ⟨_, rfl⟩
 have bp := pz aG dn
 have dr := pd aG gh
 have jb := pn aG i8 (by decide)
 have lN := pn aG eA (by decide)
 have lO := pn aG eB (by decide)
 have jc := pn aG eC (by decide)
 have b9 : ja.eval (.tmp 7) = iv ((numberV (countedV (cleanV u))).2) := by rw [aG]; exact put_same _ _ _ (by rw [dn]; decide)
 show stepsTo _ _ _ _ _ (ez.put (some 7) (iv ((numberV (countedV (cleanV u))).2))) _
 rw [← aG]
 refine st_nil (gg _ _ (wp_seq_k fun lP ds => ?_))
 rcases bc (decide (((numberV (countedV (cleanV u))).2) = 0)) with aK | aK
 have eE := oT aK
 refine wp_g0 (.replicate 11 true) [] 91
   [ve (iv ((numberV (countedV (cleanV u))).2)), vT, vT, ve (.pointer (some ⟨q9, 1, none⟩)), ve (nv (Nm.mk ((countedV (cleanV v)).nk) ((countedV (cleanV v)).nn))), ve (nv ((numberV (countedV (cleanV u))).1)), ve (.bool (equalM (Nm.mk ((countedV (cleanV v)).nk) ((countedV (cleanV v)).nn)) ((numberV (countedV (cleanV u))).1))), ve (.bool (equalM (Nm.mk ((countedV (cleanV v)).nk) ((countedV (cleanV v)).nn)) ((numberV (countedV (cleanV u))).1))), ve (iv ((numberV (countedV (cleanV u))).2)), ve (.bool (equalM (Nm.mk ((countedV (cleanV v)).nk) ((countedV (cleanV v)).nn)) ((numberV (countedV (cleanV u))).1))), ve (iv ((numberV (countedV (cleanV u))).2))] bp (.eq (.eq (.eq (.eq (.eq (.eq (.eq (.eq (.eq (.eq (.eq (.nil)))))))))))) ?_ ?_
 exact .m (fun k => k.fx 7 b9) <| .t (fun _ w hn k => ⟨_, v_bin rfl (k.eq1 0 82 rfl) rfl (fun _ => rfl) (r_eql aK), rfl⟩) <| .m (fun k => k.eq1 1 83 rfl) <| .gf (fun k => k.eq1 2 84 rfl) (fun k => k.fx 2 jb) <| .g (fun k => k.eq1 2 84 rfl) (fun _ w hn k => ⟨_, v_load rfl (k.eq1 3 85 rfl) (l_part Tryd.isAgg23 Tryd.sizeOf23 (gp.new_ hn) lb), rfl⟩) <| .g (fun k => k.eq1 2 84 rfl) (fun _ w hn k => ⟨_, v_load rfl (k.fx 6 jc) (l_two Tryd.isAgg23 Tryd.sizeOf23 (gm.new_ hn)), rfl⟩) <| .o1 (cg rfl rfl rfl (fun _ _ k => k.eq1 2 84 rfl) rfl (fun _ w hn k => ⟨#[nv (Nm.mk ((countedV (cleanV v)).nk) ((countedV (cleanV v)).nn)), nv ((numberV (countedV (cleanV u))).1)], args2 (k.eq1 4 86 rfl) (k.eq1 5 87 rfl), fun _ => by kernel_rfl, equal_c (Nm.mk ((countedV (cleanV v)).nk) ((countedV (cleanV v)).nn)) ((numberV (countedV (cleanV u))).1) _ ⟩) fun _ => rfl) <| .t (fun _ w hn k => ⟨_, v_pickT rfl (k.eq1 2 84 rfl) (k.eq1 6 88 rfl), rfl⟩) <| .m (fun k => k.fx 7 b9) <| .a (fun k => k.eq1 7 89 rfl) <| .a (fun k => k.eq1 8 90 rfl) .nil
 refine aftI bp dr dq fun lQ lR kw gq gr kx dt => ?_
 have jd := dt.ge 9 4 rfl
 have je := dt.ge 10 5 rfl
 refine st_nil (ds _ _ ?_)
 refine wp_ret (ret_k gq (v := .tuple #[.bool (equalM (Nm.mk ((countedV (cleanV v)).nk) ((countedV (cleanV v)).nn)) ((numberV (countedV (cleanV u))).1)), iv ((numberV (countedV (cleanV u))).2)]) (res_tt rfl jd je _) ?_)
 refine ⟨?_, gr⟩
 show Ending.returned (.tuple #[.bool (equalM (Nm.mk ((countedV (cleanV v)).nk) ((countedV (cleanV v)).nn)) ((numberV (countedV (cleanV u))).1)), iv ((numberV (countedV (cleanV u))).2)]) = Ending.returned (.tuple #[.bool ((looseV v u).1), iv ((looseV v u).2)])
 first | rfl | (simp only [looseV, loose1, loose2, loose3, noneV, ad, aa, ac, ab, ao, ai, az, aF, aK, bsm] <;> rfl) | (exfalso; omega)
 have eE := oF aK
 refine wp_g0 (.replicate 11 true) [] 91
   [ve (iv ((numberV (countedV (cleanV u))).2)), vF, vF, vU, vU, vU, vU, vF, ve (iv ((numberV (countedV (cleanV u))).2)), vF, ve (iv ((numberV (countedV (cleanV u))).2))] bp (.eq (.eq (.eq (.eq (.eq (.eq (.eq (.eq (.eq (.eq (.eq (.nil)))))))))))) ?_ ?_
 exact .m (fun k => k.fx 7 b9) <| .t (fun _ w hn k => ⟨_, v_bin rfl (k.eq1 0 82 rfl) rfl (fun _ => rfl) (r_eql aK), rfl⟩) <| .m (fun k => k.eq1 1 83 rfl) <| .s (fun k => k.eq1 2 84 rfl) <| .s (fun k => k.eq1 2 84 rfl) <| .s (fun k => k.eq1 2 84 rfl) <| .s (fun k => k.eq1 2 84 rfl) <| .t (fun _ w hn k => ⟨_, v_pickF rfl (k.eq1 2 84 rfl) rfl, rfl⟩) <| .m (fun k => k.fx 7 b9) <| .a (fun k => k.eq1 7 89 rfl) <| .a (fun k => k.eq1 8 90 rfl) .nil
 refine aftI bp dr dq fun lS lT ky gs gt kz dw => ?_
 have jf := dw.ge 9 4 rfl
 have jg := dw.ge 10 5 rfl
 refine st_nil (ds _ _ ?_)
 refine wp_ret (ret_k gs (v := .tuple #[.bool false, iv ((numberV (countedV (cleanV u))).2)]) (res_tt rfl jf jg _) ?_)
 refine ⟨?_, gt⟩
 show Ending.returned (.tuple #[.bool false, iv ((numberV (countedV (cleanV u))).2)]) = Ending.returned (.tuple #[.bool ((looseV v u).1), iv ((looseV v u).2)])
 first | rfl | (simp only [looseV, loose1, loose2, loose3, noneV, ad, aa, ac, ab, ao, ai, az, aF, aK, bsm] <;> rfl) | (exfalso; omega)
 have ey := oF aF
 have gu := hB ex aF
 refine wp_cond_false gu ?_
 refine wp_skip ?_
 refine de _ _ ?_
 refine wp_seq_k fun lU gv => ?_
 refine wp_g0 [true, true] [] 91
   [vF, ve (iv 3)] bn (.eq (.eq (.nil))) ?_ ?_
 exact .t (fun _ w hn k => ⟨_, v_assign rfl rfl, rfl⟩) <| .t (fun _ w hn k => ⟨_, v_assign rfl rfl, rfl⟩) .nil
 refine aftI bn dl b4 fun lV lW kA gw gx kB dx => ?_
 have jh := dx.ge 0 4 rfl
 have ji := dx.ge 1 5 rfl
 refine st_nil (gv _ _ ?_)
 refine wp_ret (ret_k gw (v := .tuple #[.bool false, iv 3]) (res_tt rfl jh ji _) ?_)
 refine ⟨?_, gx⟩
 show Ending.returned (.tuple #[.bool false, iv 3]) = Ending.returned (.tuple #[.bool ((looseV v u).1), iv ((looseV v u).2)])
 first | rfl | (simp only [looseV, loose1, loose2, loose3, noneV, ad, aa, ac, ab, ao, ai, az, aF, bsm] <;> rfl) | (exfalso; omega)
 have eu := oF ai
 refine wp_g0 (.replicate 9 true) [] 91
   [ve (pv q9), ve (iv ((countedV (cleanV v)).k)), vF, vF, vU, vU, vU, vF, vF] aR (.eq (.eq (.eq (.eq (.eq (.eq (.eq (.eq (.eq (.nil)))))))))) ?_ ?_
 exact .f (fun k => k.fx 2 bH) <| .t (fun _ w hn k => ⟨_, v_load rfl (k.eq1 0 55 rfl) (l_one Tryd.isAgg3 ((a7.new_ hn).cell 0)), rfl⟩) <| .t (fun _ w hn k => ⟨_, v_bin rfl (k.eq1 1 56 rfl) rfl (fun _ => rfl) (r_eql ai), rfl⟩) <| .m (fun k => k.eq1 2 57 rfl) <| .s (fun k => k.eq1 3 58 rfl) <| .s (fun k => k.eq1 3 58 rfl) <| .s (fun k => k.eq1 3 58 rfl) <| .t (fun _ w hn k => ⟨_, v_pickF rfl (k.eq1 3 58 rfl) rfl, rfl⟩) <| .a (fun k => k.eq1 7 62 rfl) .nil
 refine aftI aR bT bU fun lX lY dy gy gz aV ca => ?_
 have eF := ca.fx 2 bH
 have jj := ca.fx 3 bW
 have jk := ca.ge 8 54 rfl
 have dz := a7.new_ aV
 have gA := bl.new_ aV
 have gB := bX.new_ aV
 have gC := bY.new_ aV
 have gD := bZ.new_ aV
 have gE := b0.new_ aV
 refine st_nil (dg _ _ ?_)
 refine wp_cond_false jk ?_
 refine wp_seq_k fun lZ gF => ?_
 refine wp_g0 (.replicate 9 true) [] 91
   [ve (pv q9), ve (iv ((countedV (cleanV v)).k)), vF, vF, vU, vU, vU, vF, vF] dy (.eq (.eq (.eq (.eq (.eq (.eq (.eq (.eq (.eq (.nil)))))))))) ?_ ?_
 exact .f (fun k => k.fx 2 eF) <| .t (fun _ w hn k => ⟨_, v_load rfl (k.eq1 0 69 rfl) (l_one Tryd.isAgg3 ((dz.new_ hn).cell 0)), rfl⟩) <| .t (fun _ w hn k => ⟨_, v_bin rfl (k.eq1 1 70 rfl) rfl (fun _ => rfl) (r_eql ai), rfl⟩) <| .m (fun k => k.eq1 2 71 rfl) <| .s (fun k => k.eq1 3 72 rfl) <| .s (fun k => k.eq1 3 72 rfl) <| .s (fun k => k.eq1 3 72 rfl) <| .t (fun _ w hn k => ⟨_, v_pickF rfl (k.eq1 3 72 rfl) rfl, rfl⟩) <| .a (fun k => k.eq1 7 76 rfl) .nil
 refine aftI dy gy gz fun l0 l1 dA gG gH aW cb => ?_
 have l2 := cb.fx 2 eF
 have l3 := cb.fx 3 jj
 have jl := cb.ge 8 68 rfl
 have kC := dz.new_ aW
 have kD := gA.new_ aW
 have kE := gB.new_ aW
 have kF := gC.new_ aW
 have kG := gD.new_ aW
 have kH := gE.new_ aW
 refine st_nil (gF _ _ ?_)
 refine wp_cond_false jl ?_
 refine wp_skip ?_
 refine de _ _ ?_
 refine wp_seq_k fun l4 gI => ?_
 refine wp_g0 [true, true] [] 91
   [vF, ve (iv 3)] dA (.eq (.eq (.nil))) ?_ ?_
 exact .t (fun _ w hn k => ⟨_, v_assign rfl rfl, rfl⟩) <| .t (fun _ w hn k => ⟨_, v_assign rfl rfl, rfl⟩) .nil
 refine aftI dA gG gH fun l5 l6 kI gJ gK kJ dB => ?_
 have jm := dB.ge 0 4 rfl
 have jn := dB.ge 1 5 rfl
 refine st_nil (gI _ _ ?_)
 refine wp_ret (ret_k gJ (v := .tuple #[.bool false, iv 3]) (res_tt rfl jm jn _) ?_)
 refine ⟨?_, gK⟩
 show Ending.returned (.tuple #[.bool false, iv 3]) = Ending.returned (.tuple #[.bool ((looseV v u).1), iv ((looseV v u).2)])
 first | rfl | (simp only [looseV, loose1, loose2, loose3, noneV, ad, aa, ac, ab, ao, ai, bsm] <;> rfl) | (exfalso; omega)
 have eo := oF ab
 refine wp_g0 [true, true, true, true, true] [] 91
   [ve (pv q9), ve (iv ((countedV (cleanV v)).k)), ve (pv aB), ve (iv ((countedV (cleanV u)).k)), vT] bh (.eq (.eq (.eq (.eq (.eq (.nil)))))) ?_ ?_
 exact .f (fun k => k.fx 2 bF) <| .t (fun _ w hn k => ⟨_, v_load rfl (k.eq1 0 38 rfl) (l_one Tryd.isAgg3 ((bk.new_ hn).cell 0)), rfl⟩) <| .f (fun k => k.fx 3 bG) <| .t (fun _ w hn k => ⟨_, v_load rfl (k.eq1 2 40 rfl) (l_one Tryd.isAgg3 ((bj.new_ hn).cell 0)), rfl⟩) <| .t (fun _ w hn k => ⟨_, v_bin rfl (k.eq1 1 39 rfl) (k.eq1 3 41 rfl) (fun _ => rfl) (r_gtrK ab), rfl⟩) .nil
 refine aftI bh cZ c7 fun l7 l8 dC gL gM aX cc => ?_
 have eG := cc.fx 2 bF
 have eH := cc.fx 3 bG
 have jo := cc.ge 4 42 rfl
 have dD := bk.new_ aX
 have dE := bj.new_ aX
 have gN := c0.new_ aX
 have gO := c1.new_ aX
 have gP := c3.new_ aX
 have gQ := c5.new_ aX
 refine st_nil (da _ _ ?_)
 refine wp_cond_true jo ?_
 refine wp_g0 [true, true, false, false] [(2, false), (3, false)] 91
   [ve (vv (countedV (cleanV u)) an af au ah), ve (vv (countedV (cleanV v)) am ae ar ag), vt, vt] dC (.eq (.eq (.tt (.tt (.nil))))) ?_ ?_
 exact .t (fun _ w hn k => ⟨_, v_load rfl (k.fx 3 eH) (l_agg Tryd.isAgg29 Tryd.sizeOf29 (dE.new_ hn) rfl), rfl⟩) <| .t (fun _ w hn k => ⟨_, v_load rfl (k.fx 2 eG) (l_agg Tryd.isAgg29 Tryd.sizeOf29 (dD.new_ hn) rfl), rfl⟩) <| .off <| .off .nil
 refine aftI dC gL gM fun l9 ma dF gR gS aY bq => ?_
 have cK := bq.fx 2 eG
 have cL := bq.fx 3 eH
 have jp := bq.ge 0 43 rfl
 have jq := bq.ge 1 44 rfl
 have a8 := dD.new_ aY
 have gT := dE.new_ aY
 have gU := gN.new_ aY
 have gV := gO.new_ aY
 have gW := gP.new_ aY
 have gX := gQ.new_ aY
 obtain ⟨jr, eI, eJ, a9, gY⟩ := s_many (P := Tryd.prog) (t := 29) (i := 0) [iv ((countedV (cleanV u)).k), iv ((countedV (cleanV u)).nk), iv ((countedV (cleanV u)).nn), .bool ((countedV (cleanV u)).neg), sv an ((countedV (cleanV u)).mag) af, sv au ((countedV (cleanV u)).s) ah, iv ((countedV (cleanV u)).ref)] Tryd.sizeOf29 rfl rfl rfl a8 lb
 have gZ : Blk jr q9 29 [iv ((countedV (cleanV u)).k), iv ((countedV (cleanV u)).nk), iv ((countedV (cleanV u)).nn), .bool ((countedV (cleanV u)).neg), sv an ((countedV (cleanV u)).mag) af, sv au ((countedV (cleanV u)).s) ah, iv ((countedV (cleanV u)).ref)] := eJ
 refine st_act rfl rfl fun mb g0 => a_store' rfl cK jp eI (g0 _ _ trivial ?_)
 have g1 := gU.far a8 a9 (by first | rfl | decide | simp [notK])
 have g2 := gV.far a8 a9 (by first | rfl | decide | simp [notK])
 have g3 := gW.far a8 a9 (by first | rfl | decide | simp [notK])
 have g4 := gX.far a8 a9 (by first | rfl | decide | simp [notK])
 have ba := gY _ _ _ (fun h => hne16 h.symm) gT
 have g5 := gS.trans a9 (fun _ h b => by subst b; omega)
 obtain ⟨js, eK, eL, bb, g6⟩ := s_many (P := Tryd.prog) (t := 29) (i := 0) [iv ((countedV (cleanV v)).k), iv ((countedV (cleanV v)).nk), iv ((countedV (cleanV v)).nn), .bool ((countedV (cleanV v)).neg), sv am ((countedV (cleanV v)).mag) ae, sv ar ((countedV (cleanV v)).s) ag, iv ((countedV (cleanV v)).ref)] Tryd.sizeOf29 rfl rfl rfl ba lb
 have dG : Blk js aB 29 [iv ((countedV (cleanV v)).k), iv ((countedV (cleanV v)).nk), iv ((countedV (cleanV v)).nn), .bool ((countedV (cleanV v)).neg), sv am ((countedV (cleanV v)).mag) ae, sv ar ((countedV (cleanV v)).s) ag, iv ((countedV (cleanV v)).ref)] := eL
 refine st_act rfl rfl fun mc g7 => a_store' rfl cL jq eK (g7 _ _ trivial ?_)
 have g8 := g1.far ba bb (by first | rfl | decide | simp [notK])
 have g9 := g2.far ba bb (by first | rfl | decide | simp [notK])
 have ha := g3.far ba bb (by first | rfl | decide | simp [notK])
 have hc := g4.far ba bb (by first | rfl | decide | simp [notK])
 have dH := g6 _ _ _ (hne16) gZ
 have hd := g5.trans bb (fun _ h b => by subst b; omega)
 refine st_nil (c9 _ _ (wp_seq_k fun md dI => ?_))
 refine wp_block ?_
 refine wp_seq_k fun me hf => ?_
 refine wp_g0 [true, true, true, true, true, true] [] 91
   [ve (pv q9), ve (iv ((countedV (cleanV u)).k)), ve (pv aB), ve (iv ((countedV (cleanV v)).k)), ve (.bool (decide (((countedV (cleanV u)).k) = ((countedV (cleanV v)).k)))), ve (.bool (decide (((countedV (cleanV u)).k) = ((countedV (cleanV v)).k))))] dF (.eq (.eq (.eq (.eq (.eq (.eq (.nil))))))) ?_ ?_
 exact .f (fun k => k.fx 2 cK) <| .t (fun _ w hn k => ⟨_, v_load rfl (k.eq1 0 46 rfl) (l_one Tryd.isAgg3 ((dH.new_ hn).cell 0)), rfl⟩) <| .f (fun k => k.fx 3 cL) <| .t (fun _ w hn k => ⟨_, v_load rfl (k.eq1 2 48 rfl) (l_one Tryd.isAgg3 ((dG.new_ hn).cell 0)), rfl⟩) <| .t (fun _ w hn k => ⟨_, v_bin rfl (k.eq1 1 47 rfl) (k.eq1 3 49 rfl) (fun _ => rfl) (r_eql rfl), rfl⟩) <| .a (fun k => k.eq1 4 50 rfl) .nil
 refine aftI dF gR hd fun mf mg aZ cd ce a1 cf => ?_
 have bI := cf.fx 2 cK
 have ch := cf.fx 3 cL
 have eM := cf.ge 5 45 rfl
 have bd := dH.new_ a1
 have br := dG.new_ a1
 have ci := g8.new_ a1
 have cj := g9.new_ a1
 have cl := ha.new_ a1
 have cm := hc.new_ a1
 refine st_nil (hf _ _ ?_)
 rcases bc (decide (((countedV (cleanV u)).k) = ((countedV (cleanV v)).k))) with ap | ap
 have eN := oT ap
 have hg := hB eM ap
 refine wp_cond_true hg ?_
 refine wp_seq_k fun mh hh => ?_
 refine wp_g0 [true, true, true, true, true] [] 91
   [ve (vv (countedV (cleanV u)) an af au ah), ve (vv (countedV (cleanV v)) am ae ar ag), ve (.bool (strictV (countedV (cleanV u)) (countedV (cleanV v)))), ve (.bool (strictV (countedV (cleanV u)) (countedV (cleanV v)))), ve (iv 0)] aZ (.eq (.eq (.eq (.eq (.eq (.nil)))))) ?_ ?_
 exact .t (fun _ w hn k => ⟨_, v_load rfl (k.fx 2 bI) (l_agg Tryd.isAgg29 Tryd.sizeOf29 (bd.new_ hn) rfl), rfl⟩) <| .t (fun _ w hn k => ⟨_, v_load rfl (k.fx 3 ch) (l_agg Tryd.isAgg29 Tryd.sizeOf29 (br.new_ hn) rfl), rfl⟩) <| .o1 (ck rfl rfl rfl (fun _ w hn k => ⟨#[vv (countedV (cleanV u)) an af au ah, vv (countedV (cleanV v)) am ae ar ag], args2 (k.eq1 0 51 rfl) (k.eq1 1 52 rfl), fun _ => by kernel_rfl, cstrict_c (countedV (cleanV u)) _ _ _ _ (countedV (cleanV v)) _ _ _ _ _ (cl.new_ hn) (cm.new_ hn) (ci.new_ hn) (cj.new_ hn)⟩) fun _ => rfl) <| .a (fun k => k.eq1 2 53 rfl) <| .t (fun _ w hn k => ⟨_, v_assign rfl rfl, rfl⟩) .nil
 refine aftI aZ cd ce fun mi mj kK hi hj kL dJ => ?_
 have jt := dJ.ge 3 4 rfl
 have ju := dJ.ge 4 5 rfl
 refine st_nil (hh _ _ ?_)
 refine wp_ret (ret_k hi (v := .tuple #[.bool (strictV (countedV (cleanV u)) (countedV (cleanV v))), iv 0]) (res_tt rfl jt ju _) ?_)
 refine ⟨?_, hj⟩
 show Ending.returned (.tuple #[.bool (strictV (countedV (cleanV u)) (countedV (cleanV v))), iv 0]) = Ending.returned (.tuple #[.bool ((looseV v u).1), iv ((looseV v u).2)])
 first | rfl | (simp only [looseV, loose1, loose2, loose3, noneV, ad, aa, ac, ab, ap, bsm] <;> rfl) | (exfalso; omega)
 have eN := oF ap
 have hl := hB eM ap
 refine wp_cond_false hl ?_
 refine wp_seq_k fun ml dK => ?_
 rcases bc (decide (((countedV (cleanV u)).k) = 3)) with aj | aj
 have eO := oT aj
 refine wp_g0 (.replicate 9 true) [] 91
   [ve (pv q9), ve (iv ((countedV (cleanV u)).k)), vT, vT, ve (pv aB), ve (iv ((countedV (cleanV v)).k)), ve (.bool (decide (((countedV (cleanV v)).k) = 4))), ve (.bool (decide (((countedV (cleanV v)).k) = 4))), ve (.bool (decide (((countedV (cleanV v)).k) = 4)))] aZ (.eq (.eq (.eq (.eq (.eq (.eq (.eq (.eq (.eq (.nil)))))))))) ?_ ?_
 exact .f (fun k => k.fx 2 bI) <| .t (fun _ w hn k => ⟨_, v_load rfl (k.eq1 0 55 rfl) (l_one Tryd.isAgg3 ((bd.new_ hn).cell 0)), rfl⟩) <| .t (fun _ w hn k => ⟨_, v_bin rfl (k.eq1 1 56 rfl) rfl (fun _ => rfl) (r_eql aj), rfl⟩) <| .m (fun k => k.eq1 2 57 rfl) <| .gf (fun k => k.eq1 3 58 rfl) (fun k => k.fx 3 ch) <| .g (fun k => k.eq1 3 58 rfl) (fun _ w hn k => ⟨_, v_load rfl (k.eq1 4 59 rfl) (l_one Tryd.isAgg3 ((br.new_ hn).cell 0)), rfl⟩) <| .g (fun k => k.eq1 3 58 rfl) (fun _ w hn k => ⟨_, v_bin rfl (k.eq1 5 60 rfl) rfl (fun _ => rfl) (r_eql rfl), rfl⟩) <| .t (fun _ w hn k => ⟨_, v_pickT rfl (k.eq1 3 58 rfl) (k.eq1 6 61 rfl), rfl⟩) <| .a (fun k => k.eq1 7 62 rfl) .nil
 refine aftI aZ cd ce fun mm mn bs dL dM a3 cn => ?_
 have cM := cn.fx 2 bI
 have cN := cn.fx 3 ch
 have eP := cn.ge 8 54 rfl
 have co := bd.new_ a3
 have cp := br.new_ a3
 have dN := ci.new_ a3
 have ho := cj.new_ a3
 have hr := cl.new_ a3
 have hs := cm.new_ a3
 refine st_nil (dK _ _ ?_)
 rcases bc (decide (((countedV (cleanV v)).k) = 4)) with aA | aA
 have eQ := oT aA
 have ht := hB eP aA
 refine wp_cond_true ht ?_
 refine wp_seq_k fun mo hu => ?_
 refine wp_g0 [true, true, true, true, true, true, true] [] 91
   [ve (.pointer (some ⟨aB, 3, none⟩)), ve (.agg #[.bool ((countedV (cleanV v)).neg), sv am ((countedV (cleanV v)).mag) ae]), ve (.pointer (some ⟨q9, 1, none⟩)), ve (nv (Nm.mk ((countedV (cleanV u)).nk) ((countedV (cleanV u)).nn))), ve (.bool (alikeB ((countedV (cleanV v)).neg) ((countedV (cleanV v)).mag) (Nm.mk ((countedV (cleanV u)).nk) ((countedV (cleanV u)).nn)))), ve (.bool (alikeB ((countedV (cleanV v)).neg) ((countedV (cleanV v)).mag) (Nm.mk ((countedV (cleanV u)).nk) ((countedV (cleanV u)).nn)))), ve (iv 0)] bs (.eq (.eq (.eq (.eq (.eq (.eq (.eq (.nil)))))))) ?_ ?_
 exact .f (fun k => k.fx 3 cN) <| .t (fun _ w hn k => ⟨_, v_load rfl (k.eq1 0 63 rfl) (l_part Tryd.isAgg26 Tryd.sizeOf26 (cp.new_ hn) lb), rfl⟩) <| .f (fun k => k.fx 2 cM) <| .t (fun _ w hn k => ⟨_, v_load rfl (k.eq1 2 65 rfl) (l_part Tryd.isAgg23 Tryd.sizeOf23 (co.new_ hn) lb), rfl⟩) <| .o1 (ck rfl rfl rfl (fun _ w hn k => ⟨#[.agg #[.bool ((countedV (cleanV v)).neg), sv am ((countedV (cleanV v)).mag) ae], nv (Nm.mk ((countedV (cleanV u)).nk) ((countedV (cleanV u)).nn))], args2 (k.eq1 1 64 rfl) (k.eq1 3 66 rfl), fun _ => by kernel_rfl, alike_c ((countedV (cleanV v)).neg) _ ((countedV (cleanV v)).mag) _ (Nm.mk ((countedV (cleanV u)).nk) ((countedV (cleanV u)).nn)) _ (dN.new_ hn) hvv.clean.counted.limbs (by first | omega | (simp only [List.length_nil, List.length_take, List.length_drop]; omega) | (simp only [List.length_cons, List.length_nil]; omega)) (by omega) (by omega)⟩) fun _ => rfl) <| .a (fun k => k.eq1 4 67 rfl) <| .t (fun _ w hn k => ⟨_, v_assign rfl rfl, rfl⟩) .nil
 refine aftI bs dL dM fun mp mq kM hv hw kN dO => ?_
 have jv := dO.ge 5 4 rfl
 have jw := dO.ge 6 5 rfl
 refine st_nil (hu _ _ ?_)
 refine wp_ret (ret_k hv (v := .tuple #[.bool (alikeB ((countedV (cleanV v)).neg) ((countedV (cleanV v)).mag) (Nm.mk ((countedV (cleanV u)).nk) ((countedV (cleanV u)).nn))), iv 0]) (res_tt rfl jv jw _) ?_)
 refine ⟨?_, hw⟩
 show Ending.returned (.tuple #[.bool (alikeB ((countedV (cleanV v)).neg) ((countedV (cleanV v)).mag) (Nm.mk ((countedV (cleanV u)).nk) ((countedV (cleanV u)).nn))), iv 0]) = Ending.returned (.tuple #[.bool ((looseV v u).1), iv ((looseV v u).2)])
 first | rfl | (simp only [looseV, loose1, loose2, loose3, noneV, ad, aa, ac, ab, ap, aj, aA, bsm] <;> rfl) | (exfalso; omega)
 have eQ := oF aA
 have hx := hB eP aA
 refine wp_cond_false hx ?_
 refine wp_seq_k fun mr hy => ?_
 refine wp_g0 (.replicate 9 true) [] 91
   [ve (pv q9), ve (iv ((countedV (cleanV u)).k)), vT, vT, ve (pv aB), ve (iv ((countedV (cleanV v)).k)), ve (.bool (decide (((countedV (cleanV v)).k) = 5))), ve (.bool (decide (((countedV (cleanV v)).k) = 5))), ve (.bool (decide (((countedV (cleanV v)).k) = 5)))] bs (.eq (.eq (.eq (.eq (.eq (.eq (.eq (.eq (.eq (.nil)))))))))) ?_ ?_
 exact .f (fun k => k.fx 2 cM) <| .t (fun _ w hn k => ⟨_, v_load rfl (k.eq1 0 69 rfl) (l_one Tryd.isAgg3 ((co.new_ hn).cell 0)), rfl⟩) <| .t (fun _ w hn k => ⟨_, v_bin rfl (k.eq1 1 70 rfl) rfl (fun _ => rfl) (r_eql aj), rfl⟩) <| .m (fun k => k.eq1 2 71 rfl) <| .gf (fun k => k.eq1 3 72 rfl) (fun k => k.fx 3 cN) <| .g (fun k => k.eq1 3 72 rfl) (fun _ w hn k => ⟨_, v_load rfl (k.eq1 4 73 rfl) (l_one Tryd.isAgg3 ((cp.new_ hn).cell 0)), rfl⟩) <| .g (fun k => k.eq1 3 72 rfl) (fun _ w hn k => ⟨_, v_bin rfl (k.eq1 5 74 rfl) rfl (fun _ => rfl) (r_eql rfl), rfl⟩) <| .t (fun _ w hn k => ⟨_, v_pickT rfl (k.eq1 3 72 rfl) (k.eq1 6 75 rfl), rfl⟩) <| .a (fun k => k.eq1 7 76 rfl) .nil
 refine aftI bs dL dM fun ms jx bt dP cq a4 cr => ?_
 have jy := cr.fx 2 cM
 have jz := cr.fx 3 cN
 have eR := cr.ge 8 68 rfl
 have dQ := co.new_ a4
 have hz := cp.new_ a4
 have hA := dN.new_ a4
 have hC := ho.new_ a4
 have hD := hr.new_ a4
 have hE := hs.new_ a4
 refine st_nil (hy _ _ ?_)
 rcases bc (decide (((countedV (cleanV v)).k) = 5)) with aH | aH
 have eS := oT aH
 have hF := hB eR aH
 refine wp_cond_true hF ?_
 refine wp_seq_k fun mt hG => ?_
 refine wp_g [true, true, true, true, true, true, false, false] [4] [(6, false), (7, true)] 91
   [ve (vv (countedV (cleanV v)) am ae ar ag), ve (.tuple #[nv ((numberV (countedV (cleanV v))).1), iv ((numberV (countedV (cleanV v))).2)]), ve (.tuple #[nv ((numberV (countedV (cleanV v))).1), iv ((numberV (countedV (cleanV v))).2)]), ve (nv ((numberV (countedV (cleanV v))).1)), ve (iv ((numberV (countedV (cleanV v))).2)), IsNew jx 23 [iv 0, iv 0], vt, vt]
   [5] (newsCons (fun v w h => IsNew.old h) newsNil) bt (.eq (.eq (.eq (.eq (.eq (.nw (.tt (.tt (.nil))))))))) ?_ ?_ ?_
 refine .t (fun _ w hn k => ⟨_, v_load rfl (k.fx 3 jz) (l_agg Tryd.isAgg29 Tryd.sizeOf29 (hz.new_ hn) rfl), rfl⟩) <| .o1 (ck rfl rfl rfl (fun _ w hn k => ⟨#[vv (countedV (cleanV v)) am ae ar ag], args1 (k.eq1 0 78 rfl), fun _ => by kernel_rfl, cnumber_c (countedV (cleanV v)) _ _ _ _ _ (hA.new_ hn) (hC.new_ hn) hvv.clean.counted⟩) fun _ => rfl) <| .m (fun k => k.eq1 1 79 rfl) <| .t (fun _ w hn k => ⟨_, v_extract rfl (k.eq1 2 77 rfl) rfl, rfl⟩) ?_
 refine .o3 ?_
 exact .o2 (step_allocN (cs := [iv 0, iv 0]) (t := 23) rfl (noG rfl) (fun _ w hn k => rfl) (fun q _ hq hb => ⟨q, rfl, hq, hb⟩)) <| .off <| .off .nil
 intro i h
 simp only [List.contains_eq_mem, List.mem_cons, List.not_mem_nil, or_false, decide_eq_true_eq] at h
 subst h
 exact eager_take rfl rfl fun _ w hn k => ⟨iv ((numberV (countedV (cleanV v))).2), fun w => v_extract rfl (k.eq1 2 77 rfl) rfl, rfl⟩
 refine aftI bt dP cq fun eT mu dR hH hI ct bu => ?_
 have jA := bu.fx 2 jy
 have eU := bu.ge 3 80 rfl
 have eV := bu.ge 4 81 rfl
 obtain ⟨jB, eW, dS, cw⟩ : IsNew _ _ _ _ _ := bu.got 5 6 rfl (by kernel_rfl)
 have hJ := dQ.new_ ct
 have hne593 : q9 ≠ jB := by have h1 := dQ.lt; have h2 := dS; omega
 have kO := Nat.le_trans cq.size dS
 have hK := hD.new_ ct
 have hL := hE.new_ ct
 obtain ⟨mv, -, eX, hM, cx, hN⟩ := s_two (v0 := iv ((numberV (countedV (cleanV v))).1.k)) (v1 := iv ((numberV (countedV (cleanV v))).1.n)) Tryd.sizeOf23 rfl rfl rfl cw
 refine st_act rfl rfl fun mw hO => a_store' rfl eW eU eX (hO _ _ trivial ?_)
 have kP := hK.far cw cx (by first | rfl | decide | simp [notK])
 have kQ := hL.far cw cx (by first | rfl | decide | simp [notK])
 have hP := hN _ _ _ (hne593) hJ
 have dT := hI.trans cx (fun _ h b => by subst b; omega)
 refine st_take rfl rfl (y_assign (v := iv ((numberV (countedV (cleanV v))).2)) rfl eV) rfl ?_
 obtain ⟨jC, aI⟩ : ∃ a', a' = eT.put (some 7) (iv ((numberV (countedV (cleanV v))).2)) := ⟨_, rfl⟩
 have bv := pz aI dR
 have dU := pd aI hH
 have jD := pn aI jA (by decide)
 have mx := pn aI eU (by decide)
 have my := pn aI eV (by decide)
 have jE := pn aI eW (by decide)
 have cy : jC.eval (.tmp 7) = iv ((numberV (countedV (cleanV v))).2) := by rw [aI]; exact put_same _ _ _ (by rw [dR]; decide)
 show stepsTo _ _ _ _ _ (eT.put (some 7) (iv ((numberV (countedV (cleanV v))).2))) _
 rw [← aI]
 refine st_nil (hG _ _ (wp_seq_k fun mz dV => ?_))
 rcases bc (decide (((numberV (countedV (cleanV v))).2) = 0)) with aL | aL
 have eY := oT aL
 refine wp_g0 (.replicate 11 true) [] 91
   [ve (iv ((numberV (countedV (cleanV v))).2)), vT, vT, ve (.pointer (some ⟨q9, 1, none⟩)), ve (nv (Nm.mk ((countedV (cleanV u)).nk) ((countedV (cleanV u)).nn))), ve (nv ((numberV (countedV (cleanV v))).1)), ve (.bool (equalM (Nm.mk ((countedV (cleanV u)).nk) ((countedV (cleanV u)).nn)) ((numberV (countedV (cleanV v))).1))), ve (.bool (equalM (Nm.mk ((countedV (cleanV u)).nk) ((countedV (cleanV u)).nn)) ((numberV (countedV (cleanV v))).1))), ve (iv ((numberV (countedV (cleanV v))).2)), ve (.bool (equalM (Nm.mk ((countedV (cleanV u)).nk) ((countedV (cleanV u)).nn)) ((numberV (countedV (cleanV v))).1))), ve (iv ((numberV (countedV (cleanV v))).2))] bv (.eq (.eq (.eq (.eq (.eq (.eq (.eq (.eq (.eq (.eq (.eq (.nil)))))))))))) ?_ ?_
 exact .m (fun k => k.fx 7 cy) <| .t (fun _ w hn k => ⟨_, v_bin rfl (k.eq1 0 82 rfl) rfl (fun _ => rfl) (r_eql aL), rfl⟩) <| .m (fun k => k.eq1 1 83 rfl) <| .gf (fun k => k.eq1 2 84 rfl) (fun k => k.fx 2 jD) <| .g (fun k => k.eq1 2 84 rfl) (fun _ w hn k => ⟨_, v_load rfl (k.eq1 3 85 rfl) (l_part Tryd.isAgg23 Tryd.sizeOf23 (hP.new_ hn) lb), rfl⟩) <| .g (fun k => k.eq1 2 84 rfl) (fun _ w hn k => ⟨_, v_load rfl (k.fx 6 jE) (l_two Tryd.isAgg23 Tryd.sizeOf23 (hM.new_ hn)), rfl⟩) <| .o1 (cg rfl rfl rfl (fun _ _ k => k.eq1 2 84 rfl) rfl (fun _ w hn k => ⟨#[nv (Nm.mk ((countedV (cleanV u)).nk) ((countedV (cleanV u)).nn)), nv ((numberV (countedV (cleanV v))).1)], args2 (k.eq1 4 86 rfl) (k.eq1 5 87 rfl), fun _ => by kernel_rfl, equal_c (Nm.mk ((countedV (cleanV u)).nk) ((countedV (cleanV u)).nn)) ((numberV (countedV (cleanV v))).1) _ ⟩) fun _ => rfl) <| .t (fun _ w hn k => ⟨_, v_pickT rfl (k.eq1 2 84 rfl) (k.eq1 6 88 rfl), rfl⟩) <| .m (fun k => k.fx 7 cy) <| .a (fun k => k.eq1 7 89 rfl) <| .a (fun k => k.eq1 8 90 rfl) .nil
 refine aftI bv dU dT fun mA mB kR hQ hR kS dW => ?_
 have jF := dW.ge 9 4 rfl
 have jG := dW.ge 10 5 rfl
 refine st_nil (dV _ _ ?_)
 refine wp_ret (ret_k hQ (v := .tuple #[.bool (equalM (Nm.mk ((countedV (cleanV u)).nk) ((countedV (cleanV u)).nn)) ((numberV (countedV (cleanV v))).1)), iv ((numberV (countedV (cleanV v))).2)]) (res_tt rfl jF jG _) ?_)
 refine ⟨?_, hR⟩
 show Ending.returned (.tuple #[.bool (equalM (Nm.mk ((countedV (cleanV u)).nk) ((countedV (cleanV u)).nn)) ((numberV (countedV (cleanV v))).1)), iv ((numberV (countedV (cleanV v))).2)]) = Ending.returned (.tuple #[.bool ((looseV v u).1), iv ((looseV v u).2)])
 first | rfl | (simp only [looseV, loose1, loose2, loose3, noneV, ad, aa, ac, ab, ap, aj, aA, aH, aL, bsm] <;> rfl) | (exfalso; omega)
 have eY := oF aL
 refine wp_g0 (.replicate 11 true) [] 91
   [ve (iv ((numberV (countedV (cleanV v))).2)), vF, vF, vU, vU, vU, vU, vF, ve (iv ((numberV (countedV (cleanV v))).2)), vF, ve (iv ((numberV (countedV (cleanV v))).2))] bv (.eq (.eq (.eq (.eq (.eq (.eq (.eq (.eq (.eq (.eq (.eq (.nil)))))))))))) ?_ ?_
 exact .m (fun k => k.fx 7 cy) <| .t (fun _ w hn k => ⟨_, v_bin rfl (k.eq1 0 82 rfl) rfl (fun _ => rfl) (r_eql aL), rfl⟩) <| .m (fun k => k.eq1 1 83 rfl) <| .s (fun k => k.eq1 2 84 rfl) <| .s (fun k => k.eq1 2 84 rfl) <| .s (fun k => k.eq1 2 84 rfl) <| .s (fun k => k.eq1 2 84 rfl) <| .t (fun _ w hn k => ⟨_, v_pickF rfl (k.eq1 2 84 rfl) rfl, rfl⟩) <| .m (fun k => k.fx 7 cy) <| .a (fun k => k.eq1 7 89 rfl) <| .a (fun k => k.eq1 8 90 rfl) .nil
 refine aftI bv dU dT fun mC mD kT hS hT kU dX => ?_
 have jH := dX.ge 9 4 rfl
 have jI := dX.ge 10 5 rfl
 refine st_nil (dV _ _ ?_)
 refine wp_ret (ret_k hS (v := .tuple #[.bool false, iv ((numberV (countedV (cleanV v))).2)]) (res_tt rfl jH jI _) ?_)
 refine ⟨?_, hT⟩
 show Ending.returned (.tuple #[.bool false, iv ((numberV (countedV (cleanV v))).2)]) = Ending.returned (.tuple #[.bool ((looseV v u).1), iv ((looseV v u).2)])
 first | rfl | (simp only [looseV, loose1, loose2, loose3, noneV, ad, aa, ac, ab, ap, aj, aA, aH, aL, bsm] <;> rfl) | (exfalso; omega)
 have eS := oF aH
 have hU := hB eR aH
 refine wp_cond_false hU ?_
 refine wp_skip ?_
 refine dI _ _ ?_
 refine wp_seq_k fun mE hV => ?_
 refine wp_g0 [true, true] [] 91
   [vF, ve (iv 3)] bt (.eq (.eq (.nil))) ?_ ?_
 exact .t (fun _ w hn k => ⟨_, v_assign rfl rfl, rfl⟩) <| .t (fun _ w hn k => ⟨_, v_assign rfl rfl, rfl⟩) .nil
 refine aftI bt dP cq fun mF mG kV hW hX kW dY => ?_
 have jJ := dY.ge 0 4 rfl
 have jK := dY.ge 1 5 rfl
 refine st_nil (hV _ _ ?_)
 refine wp_ret (ret_k hW (v := .tuple #[.bool false, iv 3]) (res_tt rfl jJ jK _) ?_)
 refine ⟨?_, hX⟩
 show Ending.returned (.tuple #[.bool false, iv 3]) = Ending.returned (.tuple #[.bool ((looseV v u).1), iv ((looseV v u).2)])
 first | rfl | (simp only [looseV, loose1, loose2, loose3, noneV, ad, aa, ac, ab, ap, aj, aA, aH, bsm] <;> rfl) | (exfalso; omega)
 have eO := oF aj
 refine wp_g0 (.replicate 9 true) [] 91
   [ve (pv q9), ve (iv ((countedV (cleanV u)).k)), vF, vF, vU, vU, vU, vF, vF] aZ (.eq (.eq (.eq (.eq (.eq (.eq (.eq (.eq (.eq (.nil)))))))))) ?_ ?_
 exact .f (fun k => k.fx 2 bI) <| .t (fun _ w hn k => ⟨_, v_load rfl (k.eq1 0 55 rfl) (l_one Tryd.isAgg3 ((bd.new_ hn).cell 0)), rfl⟩) <| .t (fun _ w hn k => ⟨_, v_bin rfl (k.eq1 1 56 rfl) rfl (fun _ => rfl) (r_eql aj), rfl⟩) <| .m (fun k => k.eq1 2 57 rfl) <| .s (fun k => k.eq1 3 58 rfl) <| .s (fun k => k.eq1 3 58 rfl) <| .s (fun k => k.eq1 3 58 rfl) <| .t (fun _ w hn k => ⟨_, v_pickF rfl (k.eq1 3 58 rfl) rfl, rfl⟩) <| .a (fun k => k.eq1 7 62 rfl) .nil
 refine aftI aZ cd ce fun mH mI dZ hY hZ a5 cz => ?_
 have eZ := cz.fx 2 bI
 have jL := cz.fx 3 ch
 have jM := cz.ge 8 54 rfl
 have d0 := bd.new_ a5
 have h3 := br.new_ a5
 have h4 := ci.new_ a5
 have h5 := cj.new_ a5
 have h6 := cl.new_ a5
 have h7 := cm.new_ a5
 refine st_nil (dK _ _ ?_)
 refine wp_cond_false jM ?_
 refine wp_seq_k fun mJ h9 => ?_
 refine wp_g0 (.replicate 9 true) [] 91
   [ve (pv q9), ve (iv ((countedV (cleanV u)).k)), vF, vF, vU, vU, vU, vF, vF] dZ (.eq (.eq (.eq (.eq (.eq (.eq (.eq (.eq (.eq (.nil)))))))))) ?_ ?_
 exact .f (fun k => k.fx 2 eZ) <| .t (fun _ w hn k => ⟨_, v_load rfl (k.eq1 0 69 rfl) (l_one Tryd.isAgg3 ((d0.new_ hn).cell 0)), rfl⟩) <| .t (fun _ w hn k => ⟨_, v_bin rfl (k.eq1 1 70 rfl) rfl (fun _ => rfl) (r_eql aj), rfl⟩) <| .m (fun k => k.eq1 2 71 rfl) <| .s (fun k => k.eq1 3 72 rfl) <| .s (fun k => k.eq1 3 72 rfl) <| .s (fun k => k.eq1 3 72 rfl) <| .t (fun _ w hn k => ⟨_, v_pickF rfl (k.eq1 3 72 rfl) rfl, rfl⟩) <| .a (fun k => k.eq1 7 76 rfl) .nil
 refine aftI dZ hY hZ fun mK mL d1 ia ib a6 cA => ?_
 have mM := cA.fx 2 eZ
 have mN := cA.fx 3 jL
 have jN := cA.ge 8 68 rfl
 have kX := d0.new_ a6
 have kY := h3.new_ a6
 have kZ := h4.new_ a6
 have k0 := h5.new_ a6
 have k1 := h6.new_ a6
 have k2 := h7.new_ a6
 refine st_nil (h9 _ _ ?_)
 refine wp_cond_false jN ?_
 refine wp_skip ?_
 refine dI _ _ ?_
 refine wp_seq_k fun mO ic => ?_
 refine wp_g0 [true, true] [] 91
   [vF, ve (iv 3)] d1 (.eq (.eq (.nil))) ?_ ?_
 exact .t (fun _ w hn k => ⟨_, v_assign rfl rfl, rfl⟩) <| .t (fun _ w hn k => ⟨_, v_assign rfl rfl, rfl⟩) .nil
 refine aftI d1 ia ib fun mP mQ k3 id ie k4 d2 => ?_
 have jO := d2.ge 0 4 rfl
 have jP := d2.ge 1 5 rfl
 refine st_nil (ic _ _ ?_)
 refine wp_ret (ret_k id (v := .tuple #[.bool false, iv 3]) (res_tt rfl jO jP _) ?_)
 refine ⟨?_, ie⟩
 show Ending.returned (.tuple #[.bool false, iv 3]) = Ending.returned (.tuple #[.bool ((looseV v u).1), iv ((looseV v u).2)])
 first | rfl | (simp only [looseV, loose1, loose2, loose3, noneV, ad, aa, ac, ab, ap, aj, bsm] <;> rfl) | (exfalso; omega)
theorem cblank_c (x : Nat) (w : World) (hx : x < 65536) : Calls Tryd.prog 83 #[.int .u16 (x : Int)] w (IsRet (.bool (blankN x)) w) := by
 refine enter_abs Tryd.func83 rfl fun a0 af az hp => ?_
 have af : a0.tmps.size = 17 := af
 have aA : New w w := Upd.refl _ _
 have hp0 : a0.eval (.tmp 0) = .int .u16 (x : Int) := hp 0 _ rfl
 refine wp_seq_k fun K1 aB => ?_
 refine wp_g0 [true] [] 17
   [vF] af (.eq (.nil)) ?_ ?_
 exact .t (fun _ w hn k => ⟨_, v_assign rfl rfl, rfl⟩) .nil
 refine aftI af az aA fun a2 w3 ad ag ah aP aC => ?_
 have h8 := aC.fx 0 hp0
 refine st_nil (aB _ _ (wp_seq_k fun aQ ae => ?_))
 rcases bc (decide ((x : Int) = 32)) with aa | aa
 have ai := oT aa
 refine wp_g0 (.replicate 15 true) [] 17
   [ve (.int .u16 (x : Int)), vT, vT, vU, vU, vT, vT, vU, vU, vT, vT, vU, vU, vT, vT] ad (.eq (.eq (.eq (.eq (.eq (.eq (.eq (.eq (.eq (.eq (.eq (.eq (.eq (.eq (.eq (.nil)))))))))))))))) ?_ ?_
 exact .m (fun k => k.fx 0 h8) <| .t (fun _ w hn k => ⟨_, v_bin rfl (k.eq1 0 3 rfl) rfl (fun _ => rfl) (r_eql aa), rfl⟩) <| .m (fun k => k.eq1 1 4 rfl) <| .s (fun k => k.eq1 2 5 rfl) <| .s (fun k => k.eq1 2 5 rfl) <| .t (fun _ w hn k => ⟨_, v_pickT rfl (k.eq1 2 5 rfl) rfl, rfl⟩) <| .m (fun k => k.eq1 5 8 rfl) <| .s (fun k => k.eq1 6 9 rfl) <| .s (fun k => k.eq1 6 9 rfl) <| .t (fun _ w hn k => ⟨_, v_pickT rfl (k.eq1 6 9 rfl) rfl, rfl⟩) <| .m (fun k => k.eq1 9 12 rfl) <| .s (fun k => k.eq1 10 13 rfl) <| .s (fun k => k.eq1 10 13 rfl) <| .t (fun _ w hn k => ⟨_, v_pickT rfl (k.eq1 10 13 rfl) rfl, rfl⟩) <| .a (fun k => k.eq1 13 16 rfl) .nil
 refine aftI ad ag ah fun aR aS aH al am aI an => ?_
 have aD := an.ge 14 2 rfl
 refine st_nil (ae _ _ ?_)
 refine wp_ret (ret_k al (v := .bool true) (res_t rfl aD _) ?_)
 refine ⟨?_, am⟩
 show Ending.returned (.bool true) = Ending.returned (.bool (blankN x))
 first | rfl | (simp only [blankN, aa, bsm] <;> rfl) | (exfalso; omega)
 have ai := oF aa
 rcases bc (decide ((x : Int) = 9)) with ab | ab
 have aj := oT ab
 refine wp_g0 (.replicate 15 true) [] 17
   [ve (.int .u16 (x : Int)), vF, vF, ve (.int .u16 (x : Int)), vT, vT, vT, vU, vU, vT, vT, vU, vU, vT, vT] ad (.eq (.eq (.eq (.eq (.eq (.eq (.eq (.eq (.eq (.eq (.eq (.eq (.eq (.eq (.eq (.nil)))))))))))))))) ?_ ?_
 exact .m (fun k => k.fx 0 h8) <| .t (fun _ w hn k => ⟨_, v_bin rfl (k.eq1 0 3 rfl) rfl (fun _ => rfl) (r_eql aa), rfl⟩) <| .m (fun k => k.eq1 1 4 rfl) <| .gm (fun k => k.eq1 2 5 rfl) (fun k => k.fx 0 h8) <| .g (fun k => k.eq1 2 5 rfl) (fun _ w hn k => ⟨_, v_bin rfl (k.eq1 3 6 rfl) rfl (fun _ => rfl) (r_eql ab), rfl⟩) <| .t (fun _ w hn k => ⟨_, v_pickF rfl (k.eq1 2 5 rfl) (k.eq1 4 7 rfl), rfl⟩) <| .m (fun k => k.eq1 5 8 rfl) <| .s (fun k => k.eq1 6 9 rfl) <| .s (fun k => k.eq1 6 9 rfl) <| .t (fun _ w hn k => ⟨_, v_pickT rfl (k.eq1 6 9 rfl) rfl, rfl⟩) <| .m (fun k => k.eq1 9 12 rfl) <| .s (fun k => k.eq1 10 13 rfl) <| .s (fun k => k.eq1 10 13 rfl) <| .t (fun _ w hn k => ⟨_, v_pickT rfl (k.eq1 10 13 rfl) rfl, rfl⟩) <| .a (fun k => k.eq1 13 16 rfl) .nil
 refine aftI ad ag ah fun aT aU aJ ao ap aK aq => ?_
 have aE := aq.ge 14 2 rfl
 refine st_nil (ae _ _ ?_)
 refine wp_ret (ret_k ao (v := .bool true) (res_t rfl aE _) ?_)
 refine ⟨?_, ap⟩
 show Ending.returned (.bool true) = Ending.returned (.bool (blankN x))
 first | rfl | (simp only [blankN, aa, ab, bsm] <;> rfl) | (exfalso; omega)
 have aj := oF ab
 rcases bc (decide ((x : Int) = 10)) with ac | ac
 have ak := oT ac
 refine wp_g0 (.replicate 15 true) [] 17
   [ve (.int .u16 (x : Int)), vF, vF, ve (.int .u16 (x : Int)), vF, vF, vF, ve (.int .u16 (x : Int)), vT, vT, vT, vU, vU, vT, vT] ad (.eq (.eq (.eq (.eq (.eq (.eq (.eq (.eq (.eq (.eq (.eq (.eq (.eq (.eq (.eq (.nil)))))))))))))))) ?_ ?_
 exact .m (fun k => k.fx 0 h8) <| .t (fun _ w hn k => ⟨_, v_bin rfl (k.eq1 0 3 rfl) rfl (fun _ => rfl) (r_eql aa), rfl⟩) <| .m (fun k => k.eq1 1 4 rfl) <| .gm (fun k => k.eq1 2 5 rfl) (fun k => k.fx 0 h8) <| .g (fun k => k.eq1 2 5 rfl) (fun _ w hn k => ⟨_, v_bin rfl (k.eq1 3 6 rfl) rfl (fun _ => rfl) (r_eql ab), rfl⟩) <| .t (fun _ w hn k => ⟨_, v_pickF rfl (k.eq1 2 5 rfl) (k.eq1 4 7 rfl), rfl⟩) <| .m (fun k => k.eq1 5 8 rfl) <| .gm (fun k => k.eq1 6 9 rfl) (fun k => k.fx 0 h8) <| .g (fun k => k.eq1 6 9 rfl) (fun _ w hn k => ⟨_, v_bin rfl (k.eq1 7 10 rfl) rfl (fun _ => rfl) (r_eql ac), rfl⟩) <| .t (fun _ w hn k => ⟨_, v_pickF rfl (k.eq1 6 9 rfl) (k.eq1 8 11 rfl), rfl⟩) <| .m (fun k => k.eq1 9 12 rfl) <| .s (fun k => k.eq1 10 13 rfl) <| .s (fun k => k.eq1 10 13 rfl) <| .t (fun _ w hn k => ⟨_, v_pickT rfl (k.eq1 10 13 rfl) rfl, rfl⟩) <| .a (fun k => k.eq1 13 16 rfl) .nil
 refine aftI ad ag ah fun aV aW aL ar au aM av => ?_
 have aF := av.ge 14 2 rfl
 refine st_nil (ae _ _ ?_)
 refine wp_ret (ret_k ar (v := .bool true) (res_t rfl aF _) ?_)
 refine ⟨?_, au⟩
 show Ending.returned (.bool true) = Ending.returned (.bool (blankN x))
 first | rfl | (simp only [blankN, aa, ab, ac, bsm] <;> rfl) | (exfalso; omega)
 have ak := oF ac
 refine wp_g0 (.replicate 15 true) [] 17
   [ve (.int .u16 (x : Int)), vF, vF, ve (.int .u16 (x : Int)), vF, vF, vF, ve (.int .u16 (x : Int)), vF, vF, vF, ve (.int .u16 (x : Int)), ve (.bool (decide ((x : Int) = 13))), ve (.bool (decide ((x : Int) = 13))), ve (.bool (decide ((x : Int) = 13)))] ad (.eq (.eq (.eq (.eq (.eq (.eq (.eq (.eq (.eq (.eq (.eq (.eq (.eq (.eq (.eq (.nil)))))))))))))))) ?_ ?_
 exact .m (fun k => k.fx 0 h8) <| .t (fun _ w hn k => ⟨_, v_bin rfl (k.eq1 0 3 rfl) rfl (fun _ => rfl) (r_eql aa), rfl⟩) <| .m (fun k => k.eq1 1 4 rfl) <| .gm (fun k => k.eq1 2 5 rfl) (fun k => k.fx 0 h8) <| .g (fun k => k.eq1 2 5 rfl) (fun _ w hn k => ⟨_, v_bin rfl (k.eq1 3 6 rfl) rfl (fun _ => rfl) (r_eql ab), rfl⟩) <| .t (fun _ w hn k => ⟨_, v_pickF rfl (k.eq1 2 5 rfl) (k.eq1 4 7 rfl), rfl⟩) <| .m (fun k => k.eq1 5 8 rfl) <| .gm (fun k => k.eq1 6 9 rfl) (fun k => k.fx 0 h8) <| .g (fun k => k.eq1 6 9 rfl) (fun _ w hn k => ⟨_, v_bin rfl (k.eq1 7 10 rfl) rfl (fun _ => rfl) (r_eql ac), rfl⟩) <| .t (fun _ w hn k => ⟨_, v_pickF rfl (k.eq1 6 9 rfl) (k.eq1 8 11 rfl), rfl⟩) <| .m (fun k => k.eq1 9 12 rfl) <| .gm (fun k => k.eq1 10 13 rfl) (fun k => k.fx 0 h8) <| .g (fun k => k.eq1 10 13 rfl) (fun _ w hn k => ⟨_, v_bin rfl (k.eq1 11 14 rfl) rfl (fun _ => rfl) (r_eql rfl), rfl⟩) <| .t (fun _ w hn k => ⟨_, v_pickF rfl (k.eq1 10 13 rfl) (k.eq1 12 15 rfl), rfl⟩) <| .a (fun k => k.eq1 13 16 rfl) .nil
 refine aftI ad ag ah fun aX aY aN aw ax aO ay => ?_
 have aG := ay.ge 14 2 rfl
 refine st_nil (ae _ _ ?_)
 refine wp_ret (ret_k aw (v := .bool (decide ((x : Int) = 13))) (res_t rfl aG _) ?_)
 refine ⟨?_, ax⟩
 show Ending.returned (.bool (decide ((x : Int) = 13))) = Ending.returned (.bool (blankN x))
 first | rfl | (simp only [blankN, aa, ab, ac, bsm] <;> rfl) | (exfalso; omega)
theorem cdigit_c (x : Nat) (w : World) (hx : x < 65536) : Calls Tryd.prog 84 #[.int .u16 (x : Int)] w (IsRet (.bool (dgtN x)) w) := by
 refine enter_abs Tryd.func84 rfl fun a0 ab an hp => ?_
 have ab : a0.tmps.size = 9 := ab
 have ao : New w w := Upd.refl _ _
 have hp0 : a0.eval (.tmp 0) = .int .u16 (x : Int) := hp 0 _ rfl
 refine wp_seq_k fun K1 ap => ?_
 refine wp_g0 [true] [] 9
   [vF] ab (.eq (.nil)) ?_ ?_
 exact .t (fun _ w hn k => ⟨_, v_assign rfl rfl, rfl⟩) .nil
 refine aftI ab an ao fun a2 w3 ac af ag az aq => ?_
 have h8 := aq.fx 0 hp0
 refine st_nil (ap _ _ (wp_seq_k fun aA ad => ?_))
 rcases bc (decide ((x : Int) < 48)) with aa | aa
 have ae := oT aa
 refine wp_g0 [true, true, true, true, true, true, true] [] 9
   [ve (.int .u16 (x : Int)), vF, vF, vU, vU, vF, vF] ac (.eq (.eq (.eq (.eq (.eq (.eq (.eq (.nil)))))))) ?_ ?_
 exact .m (fun k => k.fx 0 h8) <| .t (fun _ w hn k => ⟨_, v_bin rfl (k.eq1 0 3 rfl) rfl (fun _ => rfl) (r_geqK aa), rfl⟩) <| .m (fun k => k.eq1 1 4 rfl) <| .s (fun k => k.eq1 2 5 rfl) <| .s (fun k => k.eq1 2 5 rfl) <| .t (fun _ w hn k => ⟨_, v_pickF rfl (k.eq1 2 5 rfl) rfl, rfl⟩) <| .a (fun k => k.eq1 5 8 rfl) .nil
 refine aftI ac af ag fun aB aC av ah ai aw aj => ?_
 have ar := aj.ge 6 2 rfl
 refine st_nil (ad _ _ ?_)
 refine wp_ret (ret_k ah (v := .bool false) (res_t rfl ar _) ?_)
 refine ⟨?_, ai⟩
 show Ending.returned (.bool false) = Ending.returned (.bool (dgtN x))
 first | rfl | (simp only [dgtN, aa, bsm] <;> rfl) | (exfalso; omega)
 have ae := oF aa
 refine wp_g0 [true, true, true, true, true, true, true] [] 9
   [ve (.int .u16 (x : Int)), vT, vT, ve (.int .u16 (x : Int)), ve (.bool (decide ((x : Int) ≤ 57))), ve (.bool (decide ((x : Int) ≤ 57))), ve (.bool (decide ((x : Int) ≤ 57)))] ac (.eq (.eq (.eq (.eq (.eq (.eq (.eq (.nil)))))))) ?_ ?_
 exact .m (fun k => k.fx 0 h8) <| .t (fun _ w hn k => ⟨_, v_bin rfl (k.eq1 0 3 rfl) rfl (fun _ => rfl) (r_geqK aa), rfl⟩) <| .m (fun k => k.eq1 1 4 rfl) <| .gm (fun k => k.eq1 2 5 rfl) (fun k => k.fx 0 h8) <| .g (fun k => k.eq1 2 5 rfl) (fun _ w hn k => ⟨_, v_bin rfl (k.eq1 3 6 rfl) rfl (fun _ => rfl) (r_leqK rfl), rfl⟩) <| .t (fun _ w hn k => ⟨_, v_pickT rfl (k.eq1 2 5 rfl) (k.eq1 4 7 rfl), rfl⟩) <| .a (fun k => k.eq1 5 8 rfl) .nil
 refine aftI ac af ag fun aD aE ax ak al ay am => ?_
 have au := am.ge 6 2 rfl
 refine st_nil (ad _ _ ?_)
 refine wp_ret (ret_k ak (v := .bool (decide ((x : Int) ≤ 57))) (res_t rfl au _) ?_)
 refine ⟨?_, al⟩
 show Ending.returned (.bool (decide ((x : Int) ≤ 57))) = Ending.returned (.bool (dgtN x))
 first | rfl | (simp only [dgtN, aa, bsm] <;> rfl) | (exfalso; omega)
def ctrim_c_P (Au : Option Addr) (u : List Nat) (cu : Nat) (w : World) (en : Ending) (w' : World) : Prop := ∃ (Ar0 : Option Addr) (cr0 : Nat), en = .returned (sv Ar0 (trimN u) cr0) ∧ SRow w' .u16 Ar0 (trimN u) cr0 ∧ New w w'
theorem ctrim_c (Au : Option Addr) (u : List Nat) (cu : Nat) (w : World) (hru : SRow w .u16 Au u cu) (hu : U16s u) : Calls Tryd.prog 69 #[sv Au u cu] w (ctrim_c_P Au u cu w) := by
 refine enter_abs Tryd.func69 rfl fun a0 aA bX hp => ?_
 have aA : a0.tmps.size = 32 := aA
 have bY : New w w := Upd.refl _ _
 have hp0 : a0.eval (.tmp 0) = sv Au u cu := hp 0 _ rfl
 have hmx := hru.max
 refine wp_seq_k fun K1 bZ => ?_
 refine wp_g0 [true] [] 32
   [ve (sv none ([]) 0)] aA (.eq (.nil)) ?_ ?_
 exact .t (fun _ w hn k => ⟨_, v_assign rfl rfl, rfl⟩) .nil
 refine aftI aA bX bY fun a2 w3 b0 b2 bk cE b4 => ?_
 have h8 := b4.fx 0 hp0
 refine st_nil (bZ _ _ ?_)
 refine wp_seq_j (fun (aa : Act) (ww : World) => ∃ (A3 : Option Addr), ∃ (c3 : Nat), aa.tmps.size = 32 ∧ aa.defers = [] ∧ New w ww ∧ aa.eval (.tmp 0) = sv A3 (u.dropWhile blankN) c3 ∧ SRow ww .u16 A3 (u.dropWhile blankN) c3) ?_ ?_
 rintro cF cG ⟨A3, c3, bn, bo, bp, b6, bq⟩
 refine wp_seq_k fun cH aK => ?_
 refine wp_block ?_
 refine wp_loopX (fun (mm : Nat) (aa : Act) (ww : World) => ∃ (cu2 : List Nat) (A2 : Option Addr) (c2 : Nat), mm = cu2.length ∧ aa.tmps.size = 32 ∧ aa.defers = [] ∧ New w ww ∧ aa.eval (.tmp 0) = sv A2 cu2 c2 ∧ SRow ww .u16 A2 cu2 c2 ∧ (rtrimN cu2 = trimN u) ∧ (U16s cu2)) (fun mm => mm) ⟨_, ⟨(u.dropWhile blankN), A3, c3, rfl, bn, bo, bp, b6, bq, rfl, (hu.dw _)⟩⟩ ?_
 rintro mm cI cJ ⟨cu2, A2, c2, hmm, ao, aL, aM, am, aj, hc2, hcu2⟩
 refine wp_seq_k fun cK br => ?_
 refine wp_seq_k fun cL aN => ?_
 have hix2 : ((cu2.length : Int) - 1).toNat = cu2.length - 1 := by omega
 rcases bc (decide ((cu2.length : Int) ≤ 0)) with ak | ak
 have a5 := oT ak
 have hb := hcu2.at16 ((cu2.length : Int) - 1).toNat
 have bl := aj.max
 refine wp_g0 (.replicate 12 true) [] 32
   [ve (sv A2 cu2 c2), ve (iv (cu2.length : Int)), vF, vF, vU, vU, vU, vU, vU, vU, vU, vF] ao (.eq (.eq (.eq (.eq (.eq (.eq (.eq (.eq (.eq (.eq (.eq (.eq (.nil))))))))))))) ?_ ?_
 exact .m (fun k => k.fx 0 am) <| .t (fun _ w hn k => ⟨_, v_lenR rfl elU (k.eq1 0 14 rfl), rfl⟩) <| .t (fun _ w hn k => ⟨_, v_bin rfl (k.eq1 1 15 rfl) rfl (fun _ => rfl) (r_gtrK ak), rfl⟩) <| .m (fun k => k.eq1 2 16 rfl) <| .s (fun k => k.eq1 3 17 rfl) <| .s (fun k => k.eq1 3 17 rfl) <| .s (fun k => k.eq1 3 17 rfl) <| .s (fun k => k.eq1 3 17 rfl) <| .s (fun k => k.eq1 3 17 rfl) <| .s (fun k => k.eq1 3 17 rfl) <| .s (fun k => k.eq1 3 17 rfl) <| .t (fun _ w hn k => ⟨_, v_pickF rfl (k.eq1 3 17 rfl) rfl, rfl⟩) .nil
 refine aftI ao aL aM fun cM cN aO bs bt bu aP => ?_
 have b7 := aP.fx 0 am
 have b8 := aP.ge 11 25 rfl
 have bv := aj.new_ bu
 refine st_nil (aN _ _ ?_)
 refine wp_cond_false b8 ?_
 refine wp_exit ?_
 refine aK _ _ ?_
 refine wp_seq_k fun cO bw => ?_
 refine wp_g0 [true, true] [] 32
   [ve (sv A2 cu2 c2), ve (sv A2 cu2 c2)] aO (.eq (.eq (.nil))) ?_ ?_
 exact .m (fun k => k.fx 0 b7) <| .a (fun k => k.eq1 0 31 rfl) .nil
 refine aftI aO bs bt fun cP cQ ct bx bz bA bB => ?_
 have b9 := bB.ge 1 2 rfl
 have bC := bv.new_ bA
 refine st_nil (bw _ _ ?_)
 refine wp_ret (ret_k bx (v := sv A2 cu2 c2) (res_t rfl b9 _) ?_)
 have hsp : cu2 = trimN u := (rt_end (l := cu2) (Or.inl (by omega))).symm.trans hc2
 exact ⟨A2, c2, congrArg (fun l => Ending.returned (sv A2 l c2)) hsp, Eq.mp (congrArg (fun l => SRow _ _ A2 l c2) hsp) bC, bz⟩
 have a5 := oF ak
 have hb := hcu2.at16 ((cu2.length : Int) - 1).toNat
 have bl := aj.max
 refine wp_g0 (.replicate 12 true) [] 32
   [ve (sv A2 cu2 c2), ve (iv (cu2.length : Int)), vT, vT, ve (sv A2 cu2 c2), ve (sv A2 cu2 c2), ve (iv (cu2.length : Int)), ve (iv ((cu2.length : Int) - 1)),
    (EP (.int .u16 ((cu2.getD (((cu2.length : Int) - 1 : Int).toNat) 0 : Nat) : Int))), ve (.int .u16 ((cu2.getD (((cu2.length : Int) - 1 : Int).toNat) 0 : Nat) : Int)), ve (.bool (blankN (cu2.getD (((cu2.length : Int) - 1 : Int).toNat) 0))), ve (.bool (blankN (cu2.getD (((cu2.length : Int) - 1 : Int).toNat) 0)))] ao (.eq (.eq (.eq (.eq (.eq (.eq (.eq (.eq (.cons (fun _ _ _ n ⟨_, _, e, h⟩ => ⟨_, _, e, h.new_ n⟩) (.eq (.eq (.eq (.nil))))))))))))) ?_ ?_
 refine .m (fun k => k.fx 0 am) <| .t (fun _ w hn k => ⟨_, v_lenR rfl elU (k.eq1 0 14 rfl), rfl⟩) <| .t (fun _ w hn k => ⟨_, v_bin rfl (k.eq1 1 15 rfl) rfl (fun _ => rfl) (r_gtrK ak), rfl⟩) <| .m (fun k => k.eq1 2 16 rfl) <| .gm (fun k => k.eq1 3 17 rfl) (fun k => k.fx 0 am) <| .gm (fun k => k.eq1 3 17 rfl) (fun k => k.fx 0 am) <| .g (fun k => k.eq1 3 17 rfl) (fun _ w hn k => ⟨_, v_lenR rfl elU (k.eq1 5 19 rfl), rfl⟩) <| .g (fun k => k.eq1 3 17 rfl) (fun _ w hn k => ⟨_, v_bin rfl (k.eq1 6 20 rfl) rfl (fun _ => rfl) (r_sub rfl (by omega)), rfl⟩) ?_
 refine .o1 (tg rfl rfl rfl (fun _ _ k => k.eq1 3 17 rfl) fun _ w hn k => (by
       exact x_eaddr (k := .u16) rfl elU (k.eq1 4 18 rfl) (k.eq1 7 21 rfl) (aj.new_ hn) (by omega) fun b1 o2 hme => ⟨b1, o2, rfl, hme⟩)) ?_
 refine .o1 (tg rfl rfl rfl (fun _ _ k => k.eq1 3 17 rfl) fun _ w hn k => (by
       obtain ⟨b5, o6, e7, ca⟩ : (EP (.int .u16 ((cu2.getD (((cu2.length : Int) - 1 : Int).toNat) 0 : Nat) : Int))) _ _ := k.dep 8 22 (by kernel_rfl) (by kernel_rfl)
       exact ⟨_, v_load rfl e7 (l_one Tryd.isAgg64 ca.1), rfl⟩)) ?_
 exact .o1 (cg rfl rfl rfl (fun _ _ k => k.eq1 3 17 rfl) rfl (fun _ w hn k => ⟨#[.int .u16 ((cu2.getD (((cu2.length : Int) - 1 : Int).toNat) 0 : Nat) : Int)], args1 (k.eq1 9 23 rfl), fun _ => by kernel_rfl, cblank_c (cu2.getD (((cu2.length : Int) - 1 : Int).toNat) 0) _ (by omega)⟩) fun _ => rfl) <| .t (fun _ w hn k => ⟨_, v_pickT rfl (k.eq1 3 17 rfl) (k.eq1 10 24 rfl), rfl⟩) .nil
 refine aftI ao aL aM fun cR cS ap aQ aR bD aS => ?_
 have aB := aS.fx 0 am
 have bm := aS.ge 11 25 rfl
 have aq := aj.new_ bD
 refine st_nil (aN _ _ ?_)
 rcases bc (blankN (cu2.getD (((cu2.length : Int) - 1 : Int).toNat) 0)) with ac | ac
 have bE := hB bm ac
 refine wp_cond_true bE ?_
 refine wp_skip ?_
 refine br _ _ ?_
 refine wp_block ?_
 have bl := aq.max
 refine wp_g0 [true, true, true, true, true, false] [(5, true)] 32
   [ve (sv A2 cu2 c2), ve (sv A2 cu2 c2), ve (iv (cu2.length : Int)), ve (iv ((cu2.length : Int) - 1)),
    (RP .u16 (cu2.take (((cu2.length : Int) - 1 : Int).toNat))), vt] ap (.eq (.eq (.eq (.eq (.cons (fun _ _ _ n ⟨_, _, e, h⟩ => ⟨_, _, e, h.new_ n⟩) (.tt (.nil))))))) ?_ ?_
 refine .m (fun k => k.fx 0 aB) <| .m (fun k => k.fx 0 aB) <| .t (fun _ w hn k => ⟨_, v_lenR rfl elU (k.eq1 1 27 rfl), rfl⟩) <| .t (fun _ w hn k => ⟨_, v_bin rfl (k.eq1 2 28 rfl) rfl (fun _ => rfl) (r_sub rfl (by omega)), rfl⟩) ?_
 refine .o1 (tk rfl rfl fun _ w hn k => (by
       exact x_cutH (k := .u16) rfl elU (k.eq1 0 26 rfl) (k.eq1 3 29 rfl) (aq.new_ hn) (by omega) fun A9 cd hmr => ⟨A9, cd, rfl, hmr⟩)) ?_
 exact .off .nil
 refine aftI ap aQ aR fun aT cT aU bF bG bH aV => ?_
 have cU := aV.fx 0 aB
 obtain ⟨an, ag, aC, bI⟩ : (RP .u16 (cu2.take (((cu2.length : Int) - 1 : Int).toNat))) _ _ := aV.got 4 30 rfl (by kernel_rfl)
 have aC : aT.eval (.tmp 30) = sv an (cu2.take (((cu2.length : Int) - 1 : Int).toNat)) ag := aC
 have cv := aq.new_ bH
 refine st_take rfl rfl (y_assign (v := sv an (cu2.take (((cu2.length : Int) - 1 : Int).toNat)) ag) rfl aC) rfl ?_
 obtain ⟨ce, al⟩ : ∃ a', a' = aT.put (some 0) (sv an (cu2.take (((cu2.length : Int) - 1 : Int).toNat)) ag) := ⟨_, rfl⟩
 have bJ := pz al aU
 have bK := pd al bF
 have cV := pn al aC (by decide)
 have cf : ce.eval (.tmp 0) = sv an (cu2.take (((cu2.length : Int) - 1 : Int).toNat)) ag := by rw [al]; exact put_same _ _ _ (by rw [aU]; decide)
 show stepsTo _ _ _ _ _ (aT.put (some 0) (sv an (cu2.take (((cu2.length : Int) - 1 : Int).toNat)) ag)) _
 rw [← al]
 refine st_nil ?_
 refine blk_n ?_
 refine then_n ?_
 exact ⟨_, ⟨(cu2.take (((cu2.length : Int) - 1 : Int).toNat)), an, ag, rfl, bJ, bK, bG, cf, bI, (by rw [hix2]; rw [hix2] at ac; exact (rt_step (by omega) ac).trans hc2), (hcu2.take _)⟩, (by rw [List.length_take]; omega)⟩
 have bL := hB bm ac
 refine wp_cond_false bL ?_
 refine wp_exit ?_
 refine aK _ _ ?_
 refine wp_seq_k fun cW bM => ?_
 refine wp_g0 [true, true] [] 32
   [ve (sv A2 cu2 c2), ve (sv A2 cu2 c2)] ap (.eq (.eq (.nil))) ?_ ?_
 exact .m (fun k => k.fx 0 aB) <| .a (fun k => k.eq1 0 31 rfl) .nil
 refine aftI ap aQ aR fun cX cY cw bN bO bP bQ => ?_
 have ch := bQ.ge 1 2 rfl
 have bR := aq.new_ bP
 refine st_nil (bM _ _ ?_)
 refine wp_ret (ret_k bN (v := sv A2 cu2 c2) (res_t rfl ch _) ?_)
 rw [hix2] at ac
 have hsp : cu2 = trimN u := (rt_end (l := cu2) (Or.inr ⟨by omega, ac⟩)).symm.trans hc2
 exact ⟨A2, c2, congrArg (fun l => Ending.returned (sv A2 l c2)) hsp, Eq.mp (congrArg (fun l => SRow _ _ A2 l c2) hsp) bR, bO⟩
 intro cZ aW
 refine wp_block ?_
 refine wp_loopX (fun (mm : Nat) (aa : Act) (ww : World) => ∃ (cur : List Nat) (A1 : Option Addr) (c1 : Nat), mm = cur.length ∧ aa.tmps.size = 32 ∧ aa.defers = [] ∧ New w ww ∧ aa.eval (.tmp 0) = sv A1 cur c1 ∧ SRow ww .u16 A1 cur c1 ∧ (cur.dropWhile blankN = u.dropWhile blankN) ∧ (U16s cur)) (fun mm => mm) ⟨_, ⟨u, Au, cu, rfl, b0, b2, bk, h8, (hru.new_ bk), rfl, hu⟩⟩ ?_
 rintro mm c0 c4 ⟨cur, A1, c1, hmm, ar, aX, aY, ax, ay, hcd, hcu⟩
 refine wp_seq_k fun c5 bS => ?_
 refine wp_seq_k fun c6 aZ => ?_
 rcases bc (decide ((cur.length : Int) ≤ 0)) with ad | ad
 have a1 := oT ad
 have hb := hcu.at16 0
 refine wp_g0 (.replicate 9 true) [] 32
   [ve (sv A1 cur c1), ve (iv (cur.length : Int)), vF, vF, vU, vU, vU, vU, vF] ar (.eq (.eq (.eq (.eq (.eq (.eq (.eq (.eq (.eq (.nil)))))))))) ?_ ?_
 exact .m (fun k => k.fx 0 ax) <| .t (fun _ w hn k => ⟨_, v_lenR rfl elU (k.eq1 0 3 rfl), rfl⟩) <| .t (fun _ w hn k => ⟨_, v_bin rfl (k.eq1 1 4 rfl) rfl (fun _ => rfl) (r_gtrK ad), rfl⟩) <| .m (fun k => k.eq1 2 5 rfl) <| .s (fun k => k.eq1 3 6 rfl) <| .s (fun k => k.eq1 3 6 rfl) <| .s (fun k => k.eq1 3 6 rfl) <| .s (fun k => k.eq1 3 6 rfl) <| .t (fun _ w hn k => ⟨_, v_pickF rfl (k.eq1 3 6 rfl) rfl, rfl⟩) .nil
 refine aftI ar aX aY fun cx cy a6 a7 a8 a9 aD => ?_
 have a3 := aD.fx 0 ax
 have bT := aD.ge 8 11 rfl
 have aE := ay.new_ a9
 refine st_nil (aZ _ _ ?_)
 refine wp_cond_false bT ?_
 refine wp_exit ?_
 have hdw := dw_end (l := cur) (Or.inl (by omega))
 have he111 : cur = (u.dropWhile blankN) := hdw.symm.trans hcd
 rw [he111] at a3
 rw [he111] at aE
 exact aW _ _ ⟨A1, c1, a6, a7, a8, a3, aE⟩
 have a1 := oF ad
 have hb := hcu.at16 0
 refine wp_g0 (.replicate 9 true) [] 32
   [ve (sv A1 cur c1), ve (iv (cur.length : Int)), vT, vT, ve (sv A1 cur c1),
    (EP (.int .u16 ((cur.getD 0 0 : Nat) : Int))), ve (.int .u16 ((cur.getD 0 0 : Nat) : Int)), ve (.bool (blankN (cur.getD 0 0))), ve (.bool (blankN (cur.getD 0 0)))] ar (.eq (.eq (.eq (.eq (.eq (.cons (fun _ _ _ n ⟨_, _, e, h⟩ => ⟨_, _, e, h.new_ n⟩) (.eq (.eq (.eq (.nil)))))))))) ?_ ?_
 refine .m (fun k => k.fx 0 ax) <| .t (fun _ w hn k => ⟨_, v_lenR rfl elU (k.eq1 0 3 rfl), rfl⟩) <| .t (fun _ w hn k => ⟨_, v_bin rfl (k.eq1 1 4 rfl) rfl (fun _ => rfl) (r_gtrK ad), rfl⟩) <| .m (fun k => k.eq1 2 5 rfl) <| .gm (fun k => k.eq1 3 6 rfl) (fun k => k.fx 0 ax) ?_
 refine .o1 (tg rfl rfl rfl (fun _ _ k => k.eq1 3 6 rfl) fun _ w hn k => (by
       exact x_eaddr (k := .u16) rfl elU (k.eq1 4 7 rfl) rfl (ay.new_ hn) (by omega) fun cl cm hme => ⟨cl, cm, rfl, hme⟩)) ?_
 refine .o1 (tg rfl rfl rfl (fun _ _ k => k.eq1 3 6 rfl) fun _ w hn k => (by
       obtain ⟨c7, c8, cn, bU⟩ : (EP (.int .u16 ((cur.getD 0 0 : Nat) : Int))) _ _ := k.dep 5 8 (by kernel_rfl) (by kernel_rfl)
       exact ⟨_, v_load rfl cn (l_one Tryd.isAgg64 bU.1), rfl⟩)) ?_
 exact .o1 (cg rfl rfl rfl (fun _ _ k => k.eq1 3 6 rfl) rfl (fun _ w hn k => ⟨#[.int .u16 ((cur.getD 0 0 : Nat) : Int)], args1 (k.eq1 6 9 rfl), fun _ => by kernel_rfl, cblank_c (cur.getD 0 0) _ (by omega)⟩) fun _ => rfl) <| .t (fun _ w hn k => ⟨_, v_pickT rfl (k.eq1 3 6 rfl) (k.eq1 7 10 rfl), rfl⟩) .nil
 refine aftI ar aX aY fun cz cA au aF aG ba aH => ?_
 have av := aH.fx 0 ax
 have a4 := aH.ge 8 11 rfl
 have ai := ay.new_ ba
 refine st_nil (aZ _ _ ?_)
 rcases bc (blankN (cur.getD 0 0)) with ae | ae
 have bb := hB a4 ae
 refine wp_cond_true bb ?_
 refine wp_skip ?_
 refine bS _ _ ?_
 refine wp_block ?_
 refine wp_g0 [true, true, false] [(2, true)] 32
   [ve (sv A1 cur c1),
    (RP .u16 (cur.drop 1)), vt] au (.eq (.cons (fun _ _ _ n ⟨_, _, e, h⟩ => ⟨_, _, e, h.new_ n⟩) (.tt (.nil)))) ?_ ?_
 refine .m (fun k => k.fx 0 av) ?_
 refine .o1 (tk rfl rfl fun _ w hn k => (by
       exact x_cutL (k := .u16) rfl elU (k.eq1 0 12 rfl) rfl (ai.new_ hn) (by omega) fun cq cr hmr => ⟨cq, cr, rfl, hmr⟩)) ?_
 exact .off .nil
 refine aftI au aF aG fun az cB aI bd be bf aJ => ?_
 have cC := aJ.fx 0 av
 obtain ⟨ah, ab, aw, bg⟩ : (RP .u16 (cur.drop 1)) _ _ := aJ.got 1 13 rfl (by kernel_rfl)
 have aw : az.eval (.tmp 13) = sv ah (cur.drop 1) ab := aw
 have cs := ai.new_ bf
 refine st_take rfl rfl (y_assign (v := sv ah (cur.drop 1) ab) rfl aw) rfl ?_
 obtain ⟨bV, af⟩ : ∃ a', a' = az.put (some 0) (sv ah (cur.drop 1) ab) := ⟨_, rfl⟩
 have bh := pz af aI
 have bi := pd af bd
 have cD := pn af aw (by decide)
 have bW : bV.eval (.tmp 0) = sv ah (cur.drop 1) ab := by rw [af]; exact put_same _ _ _ (by rw [aI]; decide)
 show stepsTo _ _ _ _ _ (az.put (some 0) (sv ah (cur.drop 1) ab)) _
 rw [← af]
 refine st_nil ?_
 refine blk_n ?_
 refine then_n ?_
 exact ⟨_, ⟨(cur.drop 1), ah, ab, rfl, bh, bi, be, bW, bg, ((dw_step (by omega) ae).trans hcd), (hcu.drop 1)⟩, (by rw [List.length_drop]; omega)⟩
 have bj := hB a4 ae
 refine wp_cond_false bj ?_
 refine wp_exit ?_
 have hdw := dw_end (l := cur) (Or.inr ae)
 have he144 : cur = (u.dropWhile blankN) := hdw.symm.trans hcd
 rw [he144] at av
 rw [he144] at ai
 exact aW _ _ ⟨A1, c1, au, aF, aG, av, ai⟩
theorem cdigits_c (Au : Option Addr) (u : List Nat) (cu : Nat) (w : World) (hru : SRow w .u16 Au u cu) (hu : U16s u) : Calls Tryd.prog 70 #[sv Au u cu] w (IsRet (.bool (digitsT u)) w) := by
 refine enter_abs Tryd.func70 rfl fun a0 ap bt hp => ?_
 have ap : a0.tmps.size = 18 := ap
 have bu : New w w := Upd.refl _ _
 have hp0 : a0.eval (.tmp 0) = sv Au u cu := hp 0 _ rfl
 have hmx := hru.max
 refine wp_seq_k fun K1 bv => ?_
 refine wp_g0 [true] [] 18
   [vF] ap (.eq (.nil)) ?_ ?_
 exact .t (fun _ w hn k => ⟨_, v_assign rfl rfl, rfl⟩) .nil
 refine aftI ap bt bu fun a2 w3 aQ bw bx cn bz => ?_
 have h8 := bz.fx 0 hp0
 refine st_nil (bv _ _ (wp_seq_k fun co a6 => ?_))
 refine wp_seq_k fun cp a7 => ?_
 refine wp_g0 [true, true, true] [] 18
   [ve (sv Au u cu), ve (iv (u.length : Int)), ve (iv 0)] aQ (.eq (.eq (.eq (.nil)))) ?_ ?_
 exact .m (fun k => k.fx 0 h8) <| .t (fun _ w hn k => ⟨_, v_lenR rfl elU (k.eq1 0 5 rfl), rfl⟩) <| .t (fun _ w hn k => ⟨_, v_move rfl rfl, rfl⟩) .nil
 refine aftI aQ bw bx fun cq cr a8 a9 ba b0 al => ?_
 have bA := al.fx 0 h8
 have bB := al.ge 0 5 rfl
 have bC := al.ge 1 6 rfl
 have bD := al.ge 2 7 rfl
 refine st_nil (a7 _ _ ?_)
 refine wp_block ?_
 refine wp_loopX (fun (mm : Nat) (aa : Act) (ww : World) => ∃ (i : Nat), mm = u.length - i ∧ aa.tmps.size = 18 ∧ aa.defers = [] ∧ New w ww ∧ aa.eval (.tmp 7) = iv (i : Int) ∧ aa.eval (.tmp 0) = sv Au u cu ∧ aa.eval (.tmp 5) = sv Au u cu ∧ aa.eval (.tmp 6) = iv (u.length : Int) ∧ (i ≤ u.length) ∧ (∀ j, j < i → (fun y : Nat => !dgtN y) (u.getD j 0) = false)) (fun mm => mm) ⟨_, ⟨0, rfl, a8, a9, ba, bD, bA, bB, bC, (Nat.zero_le _), (fun j h => absurd h (Nat.not_lt_zero _))⟩⟩ ?_
 rintro mm cs ct ⟨i, hmm, au, bb, bd, aR, bE, bF, aS, hi, hno⟩
 refine wp_seq_k fun cv be => ?_
 refine wp_g0 [true] [] 18
   [ve (.bool (decide ((i : Int) < (u.length : Int))))] au (.eq (.nil)) ?_ ?_
 exact .t (fun _ w hn k => ⟨_, v_bin rfl (k.fx 7 aR) (k.fx 6 aS) (fun _ => rfl) (r_lssK rfl), rfl⟩) .nil
 refine aftI au bb bd fun cw cx ae ao am b2 af => ?_
 have aT := af.fx 7 aR
 have av := af.fx 0 bE
 have aU := af.fx 5 bF
 have bG := af.fx 6 aS
 have aV := af.ge 0 8 rfl
 refine st_nil (be _ _ (wp_seq_k fun cy bf => ?_))
 rcases bc (decide ((i : Int) < (u.length : Int))) with ag | ag
 have aC := oT ag
 have bg := hB aV ag
 refine wp_cond_true bg ?_
 refine wp_skip ?_
 refine bf _ _ ?_
 refine wp_seq_k fun cz bh => ?_
 refine wp_block ?_
 refine wp_seq_k fun cA bi => ?_
 have hb := hu.at16 i
 refine wp_g0 [true, true, true] [] 18
   [(EP (.int .u16 ((u.getD i 0 : Nat) : Int))), ve (.int .u16 ((u.getD i 0 : Nat) : Int)), ve (.int .u16 ((u.getD i 0 : Nat) : Int))] ae (.cons (fun _ _ _ n ⟨_, _, e, h⟩ => ⟨_, _, e, h.new_ n⟩) (.eq (.eq (.nil)))) ?_ ?_
 refine .o1 (tk rfl rfl fun _ w hn k => (by
       exact x_eaddr (k := .u16) rfl elU (k.fx 5 aU) (k.fx 7 aT) (hru.new_ (am.transNew hn)) (by omega) fun b1 o2 hme => ⟨b1, o2, rfl, hme⟩)) ?_
 refine .o1 (tk rfl rfl fun _ w hn k => (by
       obtain ⟨b5, o6, e7, bH⟩ : (EP (.int .u16 ((u.getD i 0 : Nat) : Int))) _ _ := k.dep 0 9 (by kernel_rfl) (by kernel_rfl)
       exact ⟨_, v_load rfl e7 (l_one Tryd.isAgg64 bH.1), rfl⟩)) ?_
 exact .a (fun k => k.eq1 1 10 rfl) .nil
 refine aftI ae ao am fun cB cC an aw ax b4 ah => ?_
 have aW := ah.fx 7 aT
 have aX := ah.fx 0 av
 have aY := ah.fx 5 aU
 have aZ := ah.fx 6 bG
 have a1 := ah.ge 2 4 rfl
 refine st_nil (bi _ _ (wp_seq_k fun cD ay => ?_))
 rcases bc (dgtN (u.getD i 0)) with ai | ai
 have hb := hu.at16 i
 refine wp_g0 [true, true, true] [] 18
   [ve (.int .u16 ((u.getD i 0 : Nat) : Int)), vT, vF] an (.eq (.eq (.eq (.nil)))) ?_ ?_
 exact .m (fun k => k.fx 4 a1) <| .o1 (ck rfl rfl rfl (fun _ w hn k => ⟨#[.int .u16 ((u.getD i 0 : Nat) : Int)], args1 (k.eq1 0 11 rfl), fun _ => by kernel_rfl, cdigit_c (u.getD i 0) _ (by omega)⟩) fun _ => congrArg Value.bool ai) <| .t (fun _ w hn k => ⟨_, v_not rfl (k.eq1 1 12 rfl), rfl⟩) .nil
 refine aftI an aw ax fun cE cF az bj bk b6 aj => ?_
 have a3 := aj.fx 7 aW
 have bI := aj.fx 0 aX
 have bJ := aj.fx 5 aY
 have bK := aj.fx 6 aZ
 have bL := aj.ge 2 13 rfl
 refine st_nil (ay _ _ ?_)
 refine wp_cond_false bL ?_
 refine wp_skip ?_
 refine bh _ _ ?_
 refine wp_g0 [true, false] [(1, true)] 18
   [ve (iv ((i + 1 : Nat) : Int)), vt] az (.eq (.tt (.nil))) ?_ ?_
 exact .t (fun _ w hn k => ⟨_, v_bin rfl (k.fx 7 a3) rfl (fun _ => rfl) (n_add (by omega) (IntWalk.i64_in _ (by omega))), rfl⟩) <| .off .nil
 refine aftI az bj bk fun a4 cG aA bl bm b7 ak => ?_
 have cH := ak.fx 7 a3
 have bM := ak.fx 0 bI
 have bN := ak.fx 5 bJ
 have bO := ak.fx 6 bK
 have a5 := ak.ge 0 14 rfl
 refine st_take rfl rfl (y_move (v := iv ((i + 1 : Nat) : Int)) rfl a5) rfl ?_
 obtain ⟨bP, ac⟩ : ∃ a', a' = a4.put (some 7) (iv ((i + 1 : Nat) : Int)) := ⟨_, rfl⟩
 have bn := pz ac aA
 have bo := pd ac bl
 have bQ := pn ac bM (by decide)
 have bR := pn ac bN (by decide)
 have bS := pn ac bO (by decide)
 have cI := pn ac a5 (by decide)
 have bT : bP.eval (.tmp 7) = iv ((i + 1 : Nat) : Int) := by rw [ac]; exact put_same _ _ _ (by rw [aA]; decide)
 show stepsTo _ _ _ _ _ (a4.put (some 7) (iv ((i + 1 : Nat) : Int))) _
 rw [← ac]
 refine st_nil ?_
 refine then_n ?_
 exact ⟨_, ⟨i + 1, rfl, bn, bo, bm, (bT.trans (congrArg (Value.int .i64) (by omega))), bQ, bR, bS, (by omega), (up_false (p := (fun y : Nat => !dgtN y)) hno (by show (!dgtN (u.getD i 0)) = false; rw [ai]; rfl))⟩, (by omega)⟩
 have hb := hu.at16 i
 refine wp_g0 [true, true, true] [] 18
   [ve (.int .u16 ((u.getD i 0 : Nat) : Int)), vF, vT] an (.eq (.eq (.eq (.nil)))) ?_ ?_
 exact .m (fun k => k.fx 4 a1) <| .o1 (ck rfl rfl rfl (fun _ w hn k => ⟨#[.int .u16 ((u.getD i 0 : Nat) : Int)], args1 (k.eq1 0 11 rfl), fun _ => by kernel_rfl, cdigit_c (u.getD i 0) _ (by omega)⟩) fun _ => congrArg Value.bool ai) <| .t (fun _ w hn k => ⟨_, v_not rfl (k.eq1 1 12 rfl), rfl⟩) .nil
 refine aftI an aw ax fun cJ cK aq aD aE b8 ad => ?_
 have b9 := ad.fx 7 aW
 have ca := ad.fx 0 aX
 have cb := ad.fx 5 aY
 have cc := ad.fx 6 aZ
 have bp := ad.ge 2 13 rfl
 refine st_nil (ay _ _ ?_)
 refine wp_cond_true bp ?_
 refine wp_seq_k fun cd aF => ?_
 refine wp_g0 [true] [] 18
   [vF] aq (.eq (.nil)) ?_ ?_
 exact .t (fun _ w hn k => ⟨_, v_assign rfl rfl, rfl⟩) .nil
 refine aftI aq aD aE fun ce cf bU aG aH bV aI => ?_
 have bq := aI.ge 0 2 rfl
 refine st_nil (aF _ _ ?_)
 refine wp_ret (ret_k aG (v := .bool false) (res_t rfl bq _) ?_)
 exact ⟨by rw [show digitsT u = false from by unfold digitsT; rw [any_true (p := (fun y : Nat => !dgtN y)) (i := i) (by omega) (by show (!dgtN (u.getD i 0)) = true; rw [ai]; rfl)]; simp], aH⟩
 have aC := oF ag
 have aJ := hB aV ag
 refine wp_cond_false aJ ?_
 refine wp_exit ?_
 refine a6 _ _ ?_
 refine wp_seq_k fun ch ar => ?_
 rcases bc (decide ((u.length : Int) ≤ 0)) with ab | ab
 have aB := oT ab
 refine wp_g0 [true, true, true, true] [] 18
   [ve (sv Au u cu), ve (iv (u.length : Int)), vF, vF] ae (.eq (.eq (.eq (.eq (.nil))))) ?_ ?_
 exact .m (fun k => k.fx 0 av) <| .t (fun _ w hn k => ⟨_, v_lenR rfl elU (k.eq1 0 15 rfl), rfl⟩) <| .t (fun _ w hn k => ⟨_, v_bin rfl (k.eq1 1 16 rfl) rfl (fun _ => rfl) (r_gtrK ab), rfl⟩) <| .a (fun k => k.eq1 2 17 rfl) .nil
 refine aftI ae ao am fun ci cj bW aK aL bX aM => ?_
 have br := aM.ge 3 2 rfl
 refine st_nil (ar _ _ ?_)
 refine wp_ret (ret_k aK (v := .bool false) (res_t rfl br _) ?_)
 exact ⟨by rw [show digitsT u = false from by unfold digitsT; rw [any_false (p := (fun y : Nat => !dgtN y)) (fun j hj => hno j (by omega))]; simp only [ab]; rfl], aL⟩
 have aB := oF ab
 refine wp_g0 [true, true, true, true] [] 18
   [ve (sv Au u cu), ve (iv (u.length : Int)), vT, vT] ae (.eq (.eq (.eq (.eq (.nil))))) ?_ ?_
 exact .m (fun k => k.fx 0 av) <| .t (fun _ w hn k => ⟨_, v_lenR rfl elU (k.eq1 0 15 rfl), rfl⟩) <| .t (fun _ w hn k => ⟨_, v_bin rfl (k.eq1 1 16 rfl) rfl (fun _ => rfl) (r_gtrK ab), rfl⟩) <| .a (fun k => k.eq1 2 17 rfl) .nil
 refine aftI ae ao am fun cl cm bY aN aO bZ aP => ?_
 have bs := aP.ge 3 2 rfl
 refine st_nil (ar _ _ ?_)
 refine wp_ret (ret_k aN (v := .bool true) (res_t rfl bs _) ?_)
 exact ⟨by rw [show digitsT u = true from by unfold digitsT; rw [any_false (p := (fun y : Nat => !dgtN y)) (fun j hj => hno j (by omega))]; simp only [ab]; rfl], aO⟩
def cown_c_P (a : Bool) (Aa : Option Addr) (ma : List Nat) (ca : Nat) (w : World) (en : Ending) (w' : World) : Prop := ∃ (Ar0 : Option Addr) (cr0 : Nat), en = .returned (.agg #[.bool a, sv Ar0 ma cr0]) ∧ SRow w' .u32 Ar0 ma cr0 ∧ New w w'
theorem cown_c (a : Bool) (Aa : Option Addr) (ma : List Nat) (ca : Nat) (w : World) (hra : SRow w .u32 Aa ma ca) (hs : ma.length ≤ 1000000) : Calls Tryd.prog 42 #[.agg #[.bool a, sv Aa ma ca]] w (cown_c_P a Aa ma ca w) := by
 refine enter_abs Tryd.func42 rfl fun a0 ad aF hp => ?_
 have ad : a0.tmps.size = 9 := ad
 have af : New w w := Upd.refl _ _
 have hp0 : a0.eval (.tmp 0) = .agg #[.bool a, sv Aa ma ca] := hp 0 _ rfl
 refine wp_seq_k fun K1 aG => ?_
 refine wp_g [true, true] [] [] 9
   [IsNew w 26 [.bool a, sv Aa ma ca], IsNew w 26 [.bool false, sv none ([]) 0]]
   [0, 1] (newsCons (fun v w h => IsNew.old h) (newsCons (fun v w h => IsNew.old h) newsNil)) ad (.nw (.nw (.nil))) ?_ (fun i h => by cases h) ?_
 exact .o2 (step_allocN (cs := [.bool a, sv Aa ma ca]) (t := 26) rfl (noG rfl) (fun _ w hn k => v_box rfl (k.fx 0 hp0) (fun w => rfl)) (fun q _ hq hb => ⟨q, rfl, hq, hb⟩)) <| .o2 (step_allocN (cs := [.bool false, sv none ([]) 0]) (t := 26) rfl (noG rfl) (fun _ w hn k => rfl) (fun q _ hq hb => ⟨q, rfl, hq, hb⟩)) .nil
 refine aftI ad aF af fun a2 w3 an aH ac aP ag => ?_
 obtain ⟨q9, h8, aq, ah⟩ : IsNew _ _ _ _ _ := ag.got 0 1 rfl (by kernel_rfl)
 obtain ⟨aI, ao, ar, au⟩ : IsNew _ _ _ _ _ := ag.got 1 2 rfl (by kernel_rfl)
 have hne16 : q9 ≠ aI := ag.ne 0 1 1 2 h8 ao
 have aL := Nat.le_trans af.size aq
 have aM := Nat.le_trans af.size ar
 refine st_nil (aG _ _ (wp_seq_k fun aQ av => ?_))
 refine wp_g0 [true, true, true, true, true, true, false] [(6, false)] 9
   [ve (pv q9), ve (.bool a), ve (.pointer (some ⟨q9, 1, none⟩)), ve (sv Aa ma ca),
    (OP w3.heap.size 53 .u32 ma), (fun (v_ : Value) (W : World) => ∃ (A9 : Option Addr) (aa : Nat), v_ = .agg #[.bool a, sv A9 ma aa] ∧ SOwn W w3.heap.size 53 .u32 A9 ma aa), vt] an (.eq (.eq (.eq (.eq (.cons (fun _ _ _ n ⟨_, _, e, h⟩ => ⟨_, _, e, h.new_ n⟩) (.cons (fun v W W' hn ⟨A9, aa, he, h0⟩ => ⟨A9, aa, he, h0.new_ hn⟩) (.tt (.nil)))))))) ?_ ?_
 refine .f (fun k => k.fx 1 h8) <| .t (fun _ w hn k => ⟨_, v_load rfl (k.eq1 0 3 rfl) (l_one Tryd.isAgg4 ((ah.new_ hn).cell 0)), rfl⟩) <| .f (fun k => k.fx 1 h8) <| .t (fun _ w hn k => ⟨_, v_load rfl (k.eq1 2 5 rfl) (l_one Tryd.isAgg24 ((ah.new_ hn).cell 1)), rfl⟩) ?_
 refine .o1 (tkC rfl (noG rfl) rfl fun _ w hn k => (by
       refine ⟨#[sv Aa ma ca], _, args1 (k.eq1 3 6 rfl), fun w => by kernel_rfl, clone32_c _ ma _ _ (hra.new_ (ac.transNew hn)) (by first | omega | (simp only [List.length_nil, List.length_take, List.length_drop]; omega) | (simp only [List.length_cons, List.length_nil]; omega)), ?_⟩
       rintro e w' ⟨A1, c2, rfl, hmo0, hm⟩
       exact ⟨_, rfl, hm, ⟨A1, c2, rfl, (hmo0.more hn.size)⟩⟩)) ?_
 refine .o1 (tk rfl rfl fun _ w hn k => (by
       obtain ⟨A5, c6, e7, aJ⟩ : (OP w3.heap.size 53 .u32 ma) _ _ := k.dep 4 7 (by kernel_rfl) (by kernel_rfl)
       exact ⟨_, v_build (ps := [(0, .bool a), (1, sv A5 ma c6)]) rfl (parts2 (k.eq1 1 4 rfl) e7) (by kernel_rfl), ⟨A5, c6, rfl, aJ⟩⟩)) ?_
 exact .off .nil
 refine aftI an aH ac fun aK aR aN aw ax ay ai => ?_
 have ap := ai.fx 2 ao
 obtain ⟨ae, ab, aj, az⟩ : (fun (v_ : Value) (W : World) => ∃ (A9 : Option Addr) (aa : Nat), v_ = .agg #[.bool a, sv A9 ma aa] ∧ SOwn W w3.heap.size 53 .u32 A9 ma aa) _ _ := ai.got 5 8 rfl (by kernel_rfl)
 have aj : aK.eval (.tmp 8) = .agg #[.bool a, sv ae ma ab] := aj
 have ak := au.new_ ay
 have aA := az.more ac.size
 obtain ⟨aS, -, am, aB, al, aO⟩ := s_two (v0 := .bool a) (v1 := sv ae ma ab) Tryd.sizeOf26 rfl rfl rfl ak
 refine st_act rfl rfl fun aT aC => a_store' rfl ap aj am (aC _ _ trivial ?_)
 have aD := aA.far ak al (by decide)
 have aE := ax.trans al (fun _ h b => by subst b; omega)
 refine st_nil (av _ _ ?_)
 refine wp_ret (ret_k aw (v := .agg #[.bool a, sv ae ma ab]) (res_c rfl ap (l_two Tryd.isAgg26 Tryd.sizeOf26 aB)) ?_)
 exact ⟨ae, ab, rfl, aD.row, aE⟩
def cbig_c_P (a : Bool) (Aa : Option Addr) (ma : List Nat) (ca : Nat) (w : World) (en : Ending) (w' : World) : Prop := ∃ (Ar0 : Option Addr) (cr0 : Nat), en = .returned (vv (Vl.mk 4 0 0 a ma [] 0) Ar0 cr0 none 0) ∧ SRow w' .u32 Ar0 ma cr0 ∧ New w w'
theorem cbig_c (a : Bool) (Aa : Option Addr) (ma : List Nat) (ca : Nat) (w : World) (hra : SRow w .u32 Aa ma ca) : Calls Tryd.prog 41 #[.agg #[.bool a, sv Aa ma ca]] w (cbig_c_P a Aa ma ca w) := by
 refine enter_abs Tryd.func41 rfl fun a0 aa aA hp => ?_
 have aa : a0.tmps.size = 5 := aa
 have ab : New w w := Upd.refl _ _
 have hp0 : a0.eval (.tmp 0) = .agg #[.bool a, sv Aa ma ca] := hp 0 _ rfl
 refine wp_seq_k fun K1 aB => ?_
 refine wp_g [true, true] [] [] 5
   [IsNew w 26 [.bool a, sv Aa ma ca], IsNew w 29 [iv 0, iv 0, iv 0, .bool false, sv none ([]) 0, sv none ([]) 0, iv 0]]
   [0, 1] (newsCons (fun v w h => IsNew.old h) (newsCons (fun v w h => IsNew.old h) newsNil)) aa (.nw (.nw (.nil))) ?_ (fun i h => by cases h) ?_
 exact .o2 (step_allocN (cs := [.bool a, sv Aa ma ca]) (t := 26) rfl (noG rfl) (fun _ w hn k => v_box rfl (k.fx 0 hp0) (fun w => rfl)) (fun q _ hq hb => ⟨q, rfl, hq, hb⟩)) <| .o2 (step_allocN (cs := [iv 0, iv 0, iv 0, .bool false, sv none ([]) 0, sv none ([]) 0, iv 0]) (t := 29) rfl (noG rfl) (fun _ w hn k => rfl) (fun q _ hq hb => ⟨q, rfl, hq, hb⟩)) .nil
 refine aftI aa aA ab fun a2 w3 ah aC al aJ ac => ?_
 obtain ⟨q9, h8, am, an⟩ : IsNew _ _ _ _ _ := ac.got 0 1 rfl (by kernel_rfl)
 obtain ⟨ai, aj, ao, ap⟩ : IsNew _ _ _ _ _ := ac.got 1 2 rfl (by kernel_rfl)
 have hne16 : q9 ≠ ai := ac.ne 0 1 1 2 h8 aj
 have aF := Nat.le_trans ab.size am
 have aG := Nat.le_trans ab.size ao
 refine st_nil (aB _ _ (wp_seq_k fun aK aq => ?_))
 refine wp_g0 [true, true, false] [(2, false)] 5
   [ve (.agg #[.bool a, sv Aa ma ca]), ve (vv (Vl.mk 4 0 0 a ma [] 0) Aa ca none 0), vt] ah (.eq (.eq (.tt (.nil)))) ?_ ?_
 exact .t (fun _ w hn k => ⟨_, v_load rfl (k.fx 1 h8) (l_two Tryd.isAgg26 Tryd.sizeOf26 (an.new_ hn)), rfl⟩) <| .t (fun _ w hn k => ⟨_, v_build (ps := [(0, iv 4), (2, .agg #[.bool a, sv Aa ma ca])]) rfl (parts2 rfl (k.eq1 0 3 rfl)) (by kernel_rfl), rfl⟩) <| .off .nil
 refine aftI ah aC al fun aL aM aH ar au av ad => ?_
 have ak := ad.fx 2 aj
 have aD := ad.ge 1 4 rfl
 have aw := ap.new_ av
 obtain ⟨aE, af, ag, ax, aI⟩ := s_many (P := Tryd.prog) (t := 29) (i := 0) [iv 4, iv 0, iv 0, .bool a, sv Aa ma ca, sv none ([]) 0, iv 0] Tryd.sizeOf29 rfl rfl rfl aw lb
 have ay : Blk aE ai 29 [iv 4, iv 0, iv 0, .bool a, sv Aa ma ca, sv none ([]) 0, iv 0] := ag
 refine st_act rfl rfl fun aN az => a_store' rfl ak aD af (az _ _ trivial ?_)
 have ae := au.trans ax (fun _ h b => by subst b; omega)
 refine st_nil (aq _ _ ?_)
 refine wp_ret (ret_k ar (v := vv (Vl.mk 4 0 0 a ma [] 0) Aa ca none 0) (res_c rfl ak (l_agg Tryd.isAgg29 Tryd.sizeOf29 ay rfl)) ?_)
 exact ⟨Aa, ca, rfl, (hra.new_ ae), ae⟩
def cnumeric_c_P (v : Vl) (Av : Option Addr) (cv : Nat) (Bv : Option Addr) (dv : Nat) (w : World) (en : Ending) (w' : World) : Prop := ∃ (Ar0 : Option Addr) (cr0 : Nat) (Ar1 : Option Addr) (cr1 : Nat), en = .returned (.tuple #[vv (numericV v).1 Ar0 cr0 Ar1 cr1, iv ((numericV v).2)]) ∧ SRow w' .u32 Ar0 ((numericV v).1.mag) cr0 ∧ SRow w' .u16 Ar1 ((numericV v).1.s) cr1 ∧ New w w'
theorem cnumeric_c (v : Vl) (Av : Option Addr) (cv : Nat) (Bv : Option Addr) (dv : Nat) (w : World) (hmv : SRow w .u32 Av v.mag cv) (hsv : SRow w .u16 Bv v.s dv) (hvv : VOk v) : Calls Tryd.prog 19 #[vv v Av cv Bv dv] w (cnumeric_c_P v Av cv Bv dv w) := by
 refine enter_abs Tryd.func19 rfl fun a0 aK dj hp => ?_
 have aK : a0.tmps.size = 26 := aK
 have a1 : New w w := Upd.refl _ _
 have hp0 : a0.eval (.tmp 0) = vv v Av cv Bv dv := hp 0 _ rfl
 have hm := hvv.clean.mlen
 refine wp_seq_k fun K1 dk => ?_
 refine wp_g [true, true, true] [] [] 26
   [IsNew w 29 [iv v.k, iv v.nk, iv v.nn, .bool v.neg, sv Av v.mag cv, sv Bv v.s dv, iv v.ref], IsNew w 29 [iv 0, iv 0, iv 0, .bool false, sv none ([]) 0, sv none ([]) 0, iv 0], ve (iv 0)]
   [0, 1] (newsCons (fun v w h => IsNew.old h) (newsCons (fun v w h => IsNew.old h) newsNil)) aK (.nw (.nw (.eq (.nil)))) ?_ (fun i h => by cases h) ?_
 exact .o2 (step_allocN (cs := [iv v.k, iv v.nk, iv v.nn, .bool v.neg, sv Av v.mag cv, sv Bv v.s dv, iv v.ref]) (t := 29) rfl (noG rfl) (fun _ w hn k => v_box rfl (k.fx 0 hp0) (fun w => rfl)) (fun q _ hq hb => ⟨q, rfl, hq, hb⟩)) <| .o2 (step_allocN (cs := [iv 0, iv 0, iv 0, .bool false, sv none ([]) 0, sv none ([]) 0, iv 0]) (t := 29) rfl (noG rfl) (fun _ w hn k => rfl) (fun q _ hq hb => ⟨q, rfl, hq, hb⟩)) <| .t (fun _ w hn k => ⟨_, v_assign rfl rfl, rfl⟩) .nil
 refine aftI aK dj a1 fun a2 w3 cj dl aD d9 a3 => ?_
 obtain ⟨q9, h8, cq, a4⟩ : IsNew _ _ _ _ _ := a3.got 0 1 rfl (by kernel_rfl)
 obtain ⟨aB, cl, cr, ct⟩ : IsNew _ _ _ _ _ := a3.got 1 2 rfl (by kernel_rfl)
 have hne16 : q9 ≠ aB := a3.ne 0 1 1 2 h8 cl
 have dJ := Nat.le_trans a1.size cq
 have dK := Nat.le_trans a1.size cr
 refine st_nil (dk _ _ (wp_seq_k fun ea cu => ?_))
 refine wp_g0 [true, true, false] [(2, false)] 26
   [ve (vv v Av cv Bv dv),
    (VP (cleanV v)), vt] cj (.eq (.cons (fun v W W' hn ⟨A5, c6, A7, c8, he, h0, h1⟩ => ⟨A5, c6, A7, c8, he, h0.new_ hn, h1.new_ hn⟩) (.tt (.nil)))) ?_ ?_
 refine .t (fun _ w hn k => ⟨_, v_load rfl (k.fx 1 h8) (l_agg Tryd.isAgg29 Tryd.sizeOf29 (a4.new_ hn) rfl), rfl⟩) ?_
 refine .o1 (tkC rfl (noG rfl) rfl fun _ w hn k => (by
       refine ⟨#[vv v Av cv Bv dv], _, args1 (k.eq1 0 6 rfl), fun w => by kernel_rfl, clean_c v _ _ _ _ _ (hmv.new_ (aD.transNew hn)) (hsv.new_ (aD.transNew hn)), ?_⟩
       rintro e w' ⟨A1, c2, A3, c4, rfl, hmo0, hmo1, hm⟩
       exact ⟨_, rfl, hm, ⟨A1, c2, A3, c4, rfl, hmo0, hmo1⟩⟩)) ?_
 exact .off .nil
 refine aftI cj dl aD fun dm eb a5 cw cx a6 aE => ?_
 have a7 := aE.fx 1 h8
 have dn := aE.fx 2 cl
 obtain ⟨ao, af, aC, ap, a8, cy, cz⟩ : (VP (cleanV v)) _ _ := aE.got 1 7 rfl (by kernel_rfl)
 have a8 : dm.eval (.tmp 7) = vv (cleanV v) ao af aC ap := a8
 have aF := a4.new_ a6
 have cA := ct.new_ a6
 obtain ⟨dp, bD, bE, aG, cB⟩ := s_many (P := Tryd.prog) (t := 29) (i := 0) [iv ((cleanV v).k), iv ((cleanV v).nk), iv ((cleanV v).nn), .bool ((cleanV v).neg), sv ao ((cleanV v).mag) af, sv aC ((cleanV v).s) ap, iv ((cleanV v).ref)] Tryd.sizeOf29 rfl rfl rfl aF lb
 have a9 : Blk dp q9 29 [iv ((cleanV v).k), iv ((cleanV v).nk), iv ((cleanV v).nn), .bool ((cleanV v).neg), sv ao ((cleanV v).mag) af, sv aC ((cleanV v).s) ap, iv ((cleanV v).ref)] := bE
 refine st_act rfl rfl fun ec cC => a_store' rfl a7 a8 bD (cC _ _ trivial ?_)
 have cD := cy.far aF aG (by first | rfl | decide | simp [notK])
 have cE := cz.far aF aG (by first | rfl | decide | simp [notK])
 have cF := cB _ _ _ (fun h => hne16 h.symm) cA
 have cG := cx.trans aG (fun _ h b => by subst b; omega)
 refine st_nil (cu _ _ (wp_seq_k fun ed cH => ?_))
 refine wp_seq_k fun ee cI => ?_
 refine wp_g0 [true, true, true] [] 26
   [ve (pv q9), ve (iv ((cleanV v).k)), ve (.bool (decide (((cleanV v).k) = 4)))] a5 (.eq (.eq (.eq (.nil)))) ?_ ?_
 exact .f (fun k => k.fx 1 a7) <| .t (fun _ w hn k => ⟨_, v_load rfl (k.eq1 0 8 rfl) (l_one Tryd.isAgg3 ((a9.new_ hn).cell 0)), rfl⟩) <| .t (fun _ w hn k => ⟨_, v_bin rfl (k.eq1 1 9 rfl) rfl (fun _ => rfl) (r_eql rfl), rfl⟩) .nil
 refine aftI a5 cw cG fun ef dq ax ba aH ay aI => ?_
 have cm := aI.fx 1 a7
 have cn := aI.fx 2 dn
 have co := aI.ge 2 10 rfl
 have bb := a9.new_ ay
 have aJ := cF.new_ ay
 have bd := cD.new_ ay
 have cJ := cE.new_ ay
 refine st_nil (cI _ _ ?_)
 rcases bc (decide (((cleanV v).k) = 4)) with aa | aa
 have bF := oT aa
 have cK := hB co aa
 refine wp_cond_true cK ?_
 refine wp_seq_k fun eg cL => ?_
 refine wp_g0 [true, true, true, true, false, false] [(4, false), (5, true)] 26
   [ve (.pointer (some ⟨q9, 3, none⟩)), ve (.agg #[.bool ((cleanV v).neg), sv ao ((cleanV v).mag) af]), (fun (v_ : Value) (W : World) => ∃ (aq : Option Addr) (ar : Nat), v_ = .agg #[.bool ((cleanV v).neg), sv aq ((cleanV v).mag) ar] ∧ SRow W .u32 aq ((cleanV v).mag) ar), (fun (v_ : Value) (W : World) => ∃ (au : Option Addr) (av : Nat), v_ = vv (Vl.mk 4 0 0 (cleanV v).neg (cleanV v).mag [] 0) au av none 0 ∧ SRow W .u32 au ((cleanV v).mag) av), vt, vt] ax (.eq (.eq (.cons (fun _ _ _ n ⟨_, _, e, h⟩ => ⟨_, _, e, h.new_ n⟩) (.cons (fun v W W' hn ⟨au, av, he, h0⟩ => ⟨au, av, he, h0.new_ hn⟩) (.tt (.tt (.nil))))))) ?_ ?_
 refine .f (fun k => k.fx 1 cm) <| .t (fun _ w hn k => ⟨_, v_load rfl (k.eq1 0 11 rfl) (l_part Tryd.isAgg26 Tryd.sizeOf26 (bb.new_ hn) lb), rfl⟩) ?_
 refine .o1 (tkC rfl (noG rfl) rfl fun _ w hn k => (by
       refine ⟨#[.agg #[.bool ((cleanV v).neg), sv ao ((cleanV v).mag) af]], _, args1 (k.eq1 1 12 rfl), fun w => by kernel_rfl, cown_c ((cleanV v).neg) _ ((cleanV v).mag) _ _ (bd.new_ hn) (by first | omega | (simp only [List.length_nil, List.length_take, List.length_drop]; omega) | (simp only [List.length_cons, List.length_nil]; omega)), ?_⟩
       rintro e w' ⟨dr, ds, rfl, hmo0, hm⟩
       exact ⟨_, rfl, hm, ⟨dr, ds, rfl, hmo0⟩⟩)) ?_
 refine .o1 (tkC rfl (noG rfl) rfl fun _ w hn k => (by
       obtain ⟨dt, du, dw, cM⟩ : (fun (v_ : Value) (W : World) => ∃ (aq : Option Addr) (ar : Nat), v_ = .agg #[.bool ((cleanV v).neg), sv aq ((cleanV v).mag) ar] ∧ SRow W .u32 aq ((cleanV v).mag) ar) _ _ := k.dep 2 13 (by kernel_rfl) (by kernel_rfl)
       refine ⟨#[.agg #[.bool ((cleanV v).neg), sv dt ((cleanV v).mag) du]], _, args1 dw, fun w => by kernel_rfl, cbig_c ((cleanV v).neg) _ ((cleanV v).mag) _ _ cM, ?_⟩
       rintro e w' ⟨dx, dy, rfl, hmo0, hm⟩
       exact ⟨_, rfl, hm, ⟨dx, dy, rfl, hmo0⟩⟩)) ?_
 exact .off <| .off .nil
 refine aftI ax ba aH fun be eh bf cN cO cP bg => ?_
 have cp := bg.fx 2 cn
 obtain ⟨aw, ag, aL, cQ⟩ : (fun (v_ : Value) (W : World) => ∃ (au : Option Addr) (av : Nat), v_ = vv (Vl.mk 4 0 0 (cleanV v).neg (cleanV v).mag [] 0) au av none 0 ∧ SRow W .u32 au ((cleanV v).mag) av) _ _ := bg.got 3 14 rfl (by kernel_rfl)
 have aL : be.eval (.tmp 14) = vv (Vl.mk 4 0 0 (cleanV v).neg (cleanV v).mag [] 0) aw ag none 0 := aL
 have bh := aJ.new_ cP
 obtain ⟨dz, bG, bH, bi, dL⟩ := s_many (P := Tryd.prog) (t := 29) (i := 0) [iv 4, iv 0, iv 0, .bool ((cleanV v).neg), sv aw ((cleanV v).mag) ag, sv none ([]) 0, iv 0] Tryd.sizeOf29 rfl rfl rfl bh lb
 have cR : Blk dz aB 29 [iv 4, iv 0, iv 0, .bool ((cleanV v).neg), sv aw ((cleanV v).mag) ag, sv none ([]) 0, iv 0] := bH
 refine st_act rfl rfl fun ei cS => a_store' rfl cp aL bG (cS _ _ trivial ?_)
 have cT := cQ.far bh bi (by first | rfl | decide | simp [notK])
 have cU := cO.trans bi (fun _ h b => by subst b; omega)
 refine st_take rfl rfl (y_assign (v := iv 0) rfl rfl) rfl ?_
 obtain ⟨dA, ah⟩ : ∃ a', a' = be.put (some 3) (iv 0) := ⟨_, rfl⟩
 have dM := pz ah bf
 have cV := pd ah cN
 have dB := pn ah cp (by decide)
 have ej := pn ah aL (by decide)
 have dC : dA.eval (.tmp 3) = iv 0 := by rw [ah]; exact put_same _ _ _ (by rw [bf]; decide)
 show stepsTo _ _ _ _ _ (be.put (some 3) (iv 0)) _
 rw [← ah]
 refine st_nil (cL _ _ ?_)
 refine wp_ret (ret_k cV (v := .tuple #[vv (Vl.mk 4 0 0 (cleanV v).neg (cleanV v).mag [] 0) aw ag none 0, iv 0]) (res_ct rfl dB dC (l_agg Tryd.isAgg29 Tryd.sizeOf29 cR rfl)) ?_)
 have ai : (numericV v).1.mag = ((cleanV v).mag) := by first | rfl | (simp only [numericV, Vl.z, aa, bsm] <;> rfl) | (exfalso; omega)
 have aj : (numericV v).1.s = [] := by first | rfl | (simp only [numericV, Vl.z, aa, bsm] <;> rfl) | (exfalso; omega)
 exact ⟨aw, ag, none, 0, (by show Ending.returned (.tuple #[vv (Vl.mk 4 0 0 (cleanV v).neg (cleanV v).mag [] 0) aw ag none 0, iv 0]) = Ending.returned (.tuple #[vv (numericV v).1 aw ag none 0, iv ((numericV v).2)]); (first | rfl | (simp only [numericV, Vl.z, aa, ai, aj, bsm] <;> rfl) | (exfalso; omega))), (by rw [ai]; exact cT), (by rw [aj]; exact (SRow.nil _ _)), cU⟩
 have bF := oF aa
 have cW := hB co aa
 refine wp_cond_false cW ?_
 refine wp_skip ?_
 refine cH _ _ ?_
 refine wp_seq_k fun ek cX => ?_
 refine wp_g [true, true, true, true, true, true, false, false] [4] [(6, false), (7, true)] 26
   [ve (vv (cleanV v) ao af aC ap), ve (.tuple #[nv ((numberV (cleanV v)).1), iv ((numberV (cleanV v)).2)]), ve (.tuple #[nv ((numberV (cleanV v)).1), iv ((numberV (cleanV v)).2)]), ve (nv ((numberV (cleanV v)).1)), ve (iv ((numberV (cleanV v)).2)), IsNew dq 23 [iv 0, iv 0], vt, vt]
   [5] (newsCons (fun v w h => IsNew.old h) newsNil) ax (.eq (.eq (.eq (.eq (.eq (.nw (.tt (.tt (.nil))))))))) ?_ ?_ ?_
 refine .t (fun _ w hn k => ⟨_, v_load rfl (k.fx 1 cm) (l_agg Tryd.isAgg29 Tryd.sizeOf29 (bb.new_ hn) rfl), rfl⟩) <| .o1 (ck rfl rfl rfl (fun _ w hn k => ⟨#[vv (cleanV v) ao af aC ap], args1 (k.eq1 0 16 rfl), fun _ => by kernel_rfl, cnumber_c (cleanV v) _ _ _ _ _ (bd.new_ hn) (cJ.new_ hn) hvv.clean⟩) fun _ => rfl) <| .m (fun k => k.eq1 1 17 rfl) <| .t (fun _ w hn k => ⟨_, v_extract rfl (k.eq1 2 15 rfl) rfl, rfl⟩) ?_
 refine .o3 ?_
 exact .o2 (step_allocN (cs := [iv 0, iv 0]) (t := 23) rfl (noG rfl) (fun _ w hn k => rfl) (fun q _ hq hb => ⟨q, rfl, hq, hb⟩)) <| .off <| .off .nil
 intro i h
 simp only [List.contains_eq_mem, List.mem_cons, List.not_mem_nil, or_false, decide_eq_true_eq] at h
 subst h
 exact eager_take rfl rfl fun _ w hn k => ⟨iv ((numberV (cleanV v)).2), fun w => v_extract rfl (k.eq1 2 15 rfl) rfl, rfl⟩
 refine aftI ax ba aH fun bj dN aM bI bJ bK ak => ?_
 have cY := ak.fx 2 cn
 have bk := ak.ge 3 18 rfl
 have bl := ak.ge 4 19 rfl
 obtain ⟨cZ, bm, aN, bL⟩ : IsNew _ _ _ _ _ := ak.got 5 4 rfl (by kernel_rfl)
 have bM := aJ.new_ bK
 have hne114 : aB ≠ cZ := by have h1 := aJ.lt; have h2 := aN; omega
 have dD := Nat.le_trans aH.size aN
 obtain ⟨dO, -, bn, aO, bN, bO⟩ := s_two (v0 := iv ((numberV (cleanV v)).1.k)) (v1 := iv ((numberV (cleanV v)).1.n)) Tryd.sizeOf23 rfl rfl rfl bL
 refine st_act rfl rfl fun dP bP => a_store' rfl bm bk bn (bP _ _ trivial ?_)
 have aP := bO _ _ _ (hne114) bM
 have aQ := bJ.trans bN (fun _ h b => by subst b; omega)
 refine st_take rfl rfl (y_assign (v := iv ((numberV (cleanV v)).2)) rfl bl) rfl ?_
 obtain ⟨c0, ac⟩ : ∃ a', a' = bj.put (some 5) (iv ((numberV (cleanV v)).2)) := ⟨_, rfl⟩
 have al := pz ac aM
 have aR := pd ac bI
 have bo := pn ac cY (by decide)
 have dQ := pn ac bk (by decide)
 have dR := pn ac bl (by decide)
 have bp := pn ac bm (by decide)
 have az : c0.eval (.tmp 5) = iv ((numberV (cleanV v)).2) := by rw [ac]; exact put_same _ _ _ (by rw [aM]; decide)
 show stepsTo _ _ _ _ _ (bj.put (some 5) (iv ((numberV (cleanV v)).2))) _
 rw [← ac]
 refine st_nil (cX _ _ (wp_seq_k fun dS bQ => ?_))
 refine wp_seq_k fun dT aS => ?_
 rcases bc (decide (((numberV (cleanV v)).2) = 0)) with ab | ab
 have bq := oT ab
 refine wp_g0 [true, true] [] 26
   [ve (iv ((numberV (cleanV v)).2)), vF] al (.eq (.eq (.nil))) ?_ ?_
 exact .m (fun k => k.fx 5 az) <| .t (fun _ w hn k => ⟨_, v_bin rfl (k.eq1 0 20 rfl) rfl (fun _ => rfl) (r_neq ab), rfl⟩) .nil
 refine aftI al aR aQ fun dU dV aT bR bS aU am => ?_
 have c1 := am.fx 2 bo
 have c3 := am.fx 4 bp
 have dW := am.fx 5 az
 have c5 := am.ge 1 21 rfl
 have bT := aP.new_ aU
 have bU := aO.new_ aU
 refine st_nil (aS _ _ ?_)
 refine wp_cond_false c5 ?_
 refine wp_skip ?_
 refine bQ _ _ ?_
 refine wp_seq_k fun dX bV => ?_
 refine wp_g0 [true, true, false, false] [(2, false), (3, true)] 26
   [ve (nv ((numberV (cleanV v)).1)), ve (vv (Vl.mk 3 ((numberV (cleanV v)).1).k ((numberV (cleanV v)).1).n false [] [] 0) none 0 none 0), vt, vt] aT (.eq (.eq (.tt (.tt (.nil))))) ?_ ?_
 exact .t (fun _ w hn k => ⟨_, v_load rfl (k.fx 4 c3) (l_two Tryd.isAgg23 Tryd.sizeOf23 (bU.new_ hn)), rfl⟩) <| .o1 (ck rfl rfl rfl (fun _ w hn k => ⟨#[nv ((numberV (cleanV v)).1)], args1 (k.eq1 0 24 rfl), fun _ => by kernel_rfl, cnum_c ((numberV (cleanV v)).1) _ ⟩) fun _ => rfl) <| .off <| .off .nil
 refine aftI aT bR bS fun br dY aV bW bX bY aW => ?_
 have bs := aW.fx 2 c1
 have bt := aW.ge 1 25 rfl
 have bZ := bT.new_ bY
 obtain ⟨c7, bu, bv, b0, dE⟩ := s_many (P := Tryd.prog) (t := 29) (i := 0) [iv 3, iv (((numberV (cleanV v)).1).k), iv (((numberV (cleanV v)).1).n), .bool false, sv none ([]) 0, sv none ([]) 0, iv 0] Tryd.sizeOf29 rfl rfl rfl bZ lb
 have b1 : Blk c7 aB 29 [iv 3, iv (((numberV (cleanV v)).1).k), iv (((numberV (cleanV v)).1).n), .bool false, sv none ([]) 0, sv none ([]) 0, iv 0] := bv
 refine st_act rfl rfl fun dZ b2 => a_store' rfl bs bt bu (b2 _ _ trivial ?_)
 have b3 := bX.trans b0 (fun _ h b => by subst b; omega)
 refine st_take rfl rfl (y_assign (v := iv 0) rfl rfl) rfl ?_
 obtain ⟨c9, ae⟩ : ∃ a', a' = br.put (some 3) (iv 0) := ⟨_, rfl⟩
 have dF := pz ae aV
 have b4 := pd ae bW
 have da := pn ae bs (by decide)
 have d0 := pn ae bt (by decide)
 have db : c9.eval (.tmp 3) = iv 0 := by rw [ae]; exact put_same _ _ _ (by rw [aV]; decide)
 show stepsTo _ _ _ _ _ (br.put (some 3) (iv 0)) _
 rw [← ae]
 refine st_nil (bV _ _ ?_)
 refine wp_ret (ret_k b4 (v := .tuple #[vv (Vl.mk 3 ((numberV (cleanV v)).1).k ((numberV (cleanV v)).1).n false [] [] 0) none 0 none 0, iv 0]) (res_ct rfl da db (l_agg Tryd.isAgg29 Tryd.sizeOf29 b1 rfl)) ?_)
 have ai : (numericV v).1.mag = [] := by first | rfl | (simp only [numericV, Vl.z, aa, ab, bsm] <;> rfl) | (exfalso; omega)
 have aj : (numericV v).1.s = [] := by first | rfl | (simp only [numericV, Vl.z, aa, ab, bsm] <;> rfl) | (exfalso; omega)
 exact ⟨none, 0, none, 0, (by show Ending.returned (.tuple #[vv (Vl.mk 3 ((numberV (cleanV v)).1).k ((numberV (cleanV v)).1).n false [] [] 0) none 0 none 0, iv 0]) = Ending.returned (.tuple #[vv (numericV v).1 none 0 none 0, iv ((numericV v).2)]); (first | rfl | (simp only [numericV, Vl.z, aa, ab, ai, aj, bsm] <;> rfl) | (exfalso; omega))), (by rw [ai]; exact (SRow.nil _ _)), (by rw [aj]; exact (SRow.nil _ _)), b3⟩
 have bq := oF ab
 refine wp_g0 [true, true] [] 26
   [ve (iv ((numberV (cleanV v)).2)), vT] al (.eq (.eq (.nil))) ?_ ?_
 exact .m (fun k => k.fx 5 az) <| .t (fun _ w hn k => ⟨_, v_bin rfl (k.eq1 0 20 rfl) rfl (fun _ => rfl) (r_neq ab), rfl⟩) .nil
 refine aftI al aR aQ fun d1 d2 aX b5 b6 aY an => ?_
 have dc := an.fx 2 bo
 have d3 := an.fx 4 bp
 have dd := an.fx 5 az
 have de := an.ge 1 21 rfl
 have b7 := aP.new_ aY
 have dG := aO.new_ aY
 refine st_nil (aS _ _ ?_)
 refine wp_cond_true de ?_
 refine wp_seq_k fun d4 b8 => ?_
 refine wp_g [true, true, false, false] [1] [(2, false), (3, true)] 26
   [ve (vv (Vl.mk 0 0 0 false [] [] 0) none 0 none 0), ve (iv ((numberV (cleanV v)).2)), vt, vt]
   [] newsNil aX (.eq (.eq (.tt (.tt (.nil))))) ?_ ?_ ?_
 refine .t (fun _ w hn k => ⟨_, v_build (ps := []) rfl parts0 (by kernel_rfl), rfl⟩) ?_
 refine .o3 ?_
 exact .off <| .off .nil
 intro i h
 simp only [List.contains_eq_mem, List.mem_cons, List.not_mem_nil, or_false, decide_eq_true_eq] at h
 subst h
 exact eager_take rfl rfl fun _ w hn k => ⟨iv ((numberV (cleanV v)).2), fun w => v_move rfl (k.fx 5 dd), rfl⟩
 refine aftI aX b5 b6 fun bw d5 aZ b9 ca cb aA => ?_
 have bx := aA.fx 2 dc
 have bz := aA.ge 0 22 rfl
 have bA := aA.ge 1 23 rfl
 have cc := b7.new_ cb
 obtain ⟨df, bB, bC, cd, dH⟩ := s_many (P := Tryd.prog) (t := 29) (i := 0) [iv 0, iv 0, iv 0, .bool false, sv none ([]) 0, sv none ([]) 0, iv 0] Tryd.sizeOf29 rfl rfl rfl cc lb
 have ce : Blk df aB 29 [iv 0, iv 0, iv 0, .bool false, sv none ([]) 0, sv none ([]) 0, iv 0] := bC
 refine st_act rfl rfl fun d6 cf => a_store' rfl bx bz bB (cf _ _ trivial ?_)
 have ch := ca.trans cd (fun _ h b => by subst b; omega)
 refine st_take rfl rfl (y_assign (v := iv ((numberV (cleanV v)).2)) rfl bA) rfl ?_
 obtain ⟨dg, ad⟩ : ∃ a', a' = bw.put (some 3) (iv ((numberV (cleanV v)).2)) := ⟨_, rfl⟩
 have dI := pz ad aZ
 have ci := pd ad b9
 have dh := pn ad bx (by decide)
 have d7 := pn ad bz (by decide)
 have d8 := pn ad bA (by decide)
 have di : dg.eval (.tmp 3) = iv ((numberV (cleanV v)).2) := by rw [ad]; exact put_same _ _ _ (by rw [aZ]; decide)
 show stepsTo _ _ _ _ _ (bw.put (some 3) (iv ((numberV (cleanV v)).2))) _
 rw [← ad]
 refine st_nil (b8 _ _ ?_)
 refine wp_ret (ret_k ci (v := .tuple #[vv (Vl.mk 0 0 0 false [] [] 0) none 0 none 0, iv ((numberV (cleanV v)).2)]) (res_ct rfl dh di (l_agg Tryd.isAgg29 Tryd.sizeOf29 ce rfl)) ?_)
 have ai : (numericV v).1.mag = [] := by first | rfl | (simp only [numericV, Vl.z, aa, ab, bsm] <;> rfl) | (exfalso; omega)
 have aj : (numericV v).1.s = [] := by first | rfl | (simp only [numericV, Vl.z, aa, ab, bsm] <;> rfl) | (exfalso; omega)
 exact ⟨none, 0, none, 0, (by show Ending.returned (.tuple #[vv (Vl.mk 0 0 0 false [] [] 0) none 0 none 0, iv ((numberV (cleanV v)).2)]) = Ending.returned (.tuple #[vv (numericV v).1 none 0 none 0, iv ((numericV v).2)]); (first | rfl | (simp only [numericV, Vl.z, aa, ab, ai, aj, bsm] <;> rfl) | (exfalso; omega))), (by rw [ai]; exact (SRow.nil _ _)), (by rw [aj]; exact (SRow.nil _ _)), ch⟩
theorem okS_xo (x : Nat) : okS ⟨#[120, 88, 111, 79]⟩ x = (okbN x || (decide ((x : Int) = 120) || (decide ((x : Int) = 88) || (decide ((x : Int) = 111) || (decide ((x : Int) = 79) || false))))) := rfl
end Go.Proofs.YtecgdgjlmlpcnaaDoor
