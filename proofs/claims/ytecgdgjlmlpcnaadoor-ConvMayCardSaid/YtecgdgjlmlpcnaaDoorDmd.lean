import Derived.Test.YtecgdgjlmlpcnaaDoorDmc
namespace Go.Proofs.YtecgdgjlmlpcnaaDoor
open Go.RowKit
set_option linter.unusedSimpArgs false
set_option linter.unusedVariables false
set_option maxHeartbeats 16000000
set_option maxRecDepth 100000
theorem cstrange_c (Au : Option Addr) (u : List Nat) (cu : Nat) (w : World) (hru : SRow w .u16 Au u cu) (hu : U16s u) : Calls Tryd.prog 74 #[sv Au u cu] w (IsRet (.bool (numericN ⟨#[120, 88, 111, 79]⟩ u)) w) := by
 refine enter_abs Tryd.func74 rfl fun a0 bq gy hp => ?_
 have bq : a0.tmps.size = 54 := bq
 have gz : New w w := Upd.refl _ _
 have hp0 : a0.eval (.tmp 0) = sv Au u cu := hp 0 _ rfl
 have hmx := hru.max
 refine wp_seq_k fun K1 gA => ?_
 refine wp_g0 [true] [] 54
   [vF] bq (.eq (.nil)) ?_ ?_
 exact .t (fun _ w hn k => ⟨_, v_assign rfl rfl, rfl⟩) .nil
 refine aftI bq gy gz fun a2 w3 dQ gB gC ji gD => ?_
 have h8 := gD.fx 0 hp0
 refine st_nil (gA _ _ (wp_seq_k fun jj d4 => ?_))
 refine wp_g0 [true] [] 54
   [vF] dQ (.eq (.nil)) ?_ ?_
 exact .t (fun _ w hn k => ⟨_, v_assign rfl rfl, rfl⟩) .nil
 refine aftI dQ gB gC fun jk jl bC d5 d6 hG bD => ?_
 have gE := bD.fx 0 h8
 have gF := bD.ge 0 3 rfl
 refine st_nil (d4 _ _ (wp_seq_k fun jm d7 => ?_))
 refine wp_seq_k fun jn d8 => ?_
 refine wp_g0 [true, true, true] [] 54
   [ve (sv Au u cu), ve (iv (u.length : Int)), ve (iv 0)] bC (.eq (.eq (.eq (.nil)))) ?_ ?_
 exact .m (fun k => k.fx 0 gE) <| .t (fun _ w hn k => ⟨_, v_lenR rfl elU (k.eq1 0 6 rfl), rfl⟩) <| .t (fun _ w hn k => ⟨_, v_move rfl rfl, rfl⟩) .nil
 refine aftI bC d5 d6 fun jo jp d9 ea eb hH bl => ?_
 have gG := bl.fx 3 gF
 have gH := bl.ge 0 6 rfl
 have gI := bl.ge 1 7 rfl
 have gJ := bl.ge 2 8 rfl
 refine st_nil (d8 _ _ ?_)
 refine wp_block ?_
 refine wp_loopX (fun (mm : Nat) (aa : Act) (ww : World) => ∃ (i : Nat), mm = u.length - i ∧ aa.tmps.size = 54 ∧ aa.defers = [] ∧ New w ww ∧ aa.eval (.tmp 3) = .bool ((u.take i).any dgtN) ∧ aa.eval (.tmp 8) = iv (i : Int) ∧ aa.eval (.tmp 6) = sv Au u cu ∧ aa.eval (.tmp 7) = iv (u.length : Int) ∧ (i ≤ u.length) ∧ ((u.take i).all (okS ⟨#[120, 88, 111, 79]⟩) = true)) (fun mm => mm) ⟨_, ⟨0, rfl, d9, ea, eb, (gG.trans rfl), gJ, gH, gI, (Nat.zero_le _), rfl⟩⟩ ?_
 rintro mm jq jr ⟨i, hmm, bE, ec, ed, gK, dR, gL, dS, hi, hall⟩
 refine wp_seq_k fun js ee => ?_
 refine wp_g0 [true] [] 54
   [ve (.bool (decide ((i : Int) < (u.length : Int))))] bE (.eq (.nil)) ?_ ?_
 exact .t (fun _ w hn k => ⟨_, v_bin rfl (k.fx 8 dR) (k.fx 7 dS) (fun _ => rfl) (r_lssK rfl), rfl⟩) .nil
 refine aftI bE ec ed fun jt ju bm bF bo hI bh => ?_
 have dT := bh.fx 3 gK
 have dU := bh.fx 8 dR
 have dV := bh.fx 6 gL
 have gM := bh.fx 7 dS
 have dW := bh.ge 0 9 rfl
 refine st_nil (ee _ _ (wp_seq_k fun jv ef => ?_))
 rcases bc (decide ((i : Int) < (u.length : Int))) with bi | bi
 have cc := oT bi
 have eg := hB dW bi
 refine wp_cond_true eg ?_
 refine wp_skip ?_
 refine ef _ _ ?_
 refine wp_seq_j (fun (aa : Act) (ww : World) => aa.tmps.size = 54 ∧ aa.defers = [] ∧ New w ww ∧ aa.eval (.tmp 3) = .bool ((u.take (i + 1)).any dgtN) ∧ aa.eval (.tmp 6) = sv Au u cu ∧ aa.eval (.tmp 7) = iv (u.length : Int) ∧ aa.eval (.tmp 8) = iv (i : Int) ∧ (okS ⟨#[120, 88, 111, 79]⟩ (u.getD i 0) = true)) ?_ ?_
 rintro jw jx ⟨bG, eh, ei, gN, gO, gP, dX, hok⟩
 refine wp_g0 [true, false] [(1, true)] 54
   [ve (iv ((i + 1 : Nat) : Int)), vt] bG (.eq (.tt (.nil))) ?_ ?_
 exact .t (fun _ w hn k => ⟨_, v_bin rfl (k.fx 8 dX) rfl (fun _ => rfl) (n_add (by omega) (IntWalk.i64_in _ (by omega))), rfl⟩) <| .off .nil
 refine aftI bG eh ei fun dY jy bH ej ek hJ bj => ?_
 have gQ := bj.fx 3 gN
 have gR := bj.fx 6 gO
 have gS := bj.fx 7 gP
 have jz := bj.fx 8 dX
 have dZ := bj.ge 0 52 rfl
 refine st_take rfl rfl (y_move (v := iv ((i + 1 : Nat) : Int)) rfl dZ) rfl ?_
 obtain ⟨gT, aM⟩ : ∃ a', a' = dY.put (some 8) (iv ((i + 1 : Nat) : Int)) := ⟨_, rfl⟩
 have el := pz aM bH
 have em := pd aM ej
 have gU := pn aM gQ (by decide)
 have gV := pn aM gR (by decide)
 have gW := pn aM gS (by decide)
 have jA := pn aM dZ (by decide)
 have gX : gT.eval (.tmp 8) = iv ((i + 1 : Nat) : Int) := by rw [aM]; exact put_same _ _ _ (by rw [bH]; decide)
 show stepsTo _ _ _ _ _ (dY.put (some 8) (iv ((i + 1 : Nat) : Int))) _
 rw [← aM]
 refine st_nil ?_
 refine then_n ?_
 exact ⟨_, ⟨i + 1, rfl, el, em, ek, gU, (gX.trans (congrArg (Value.int .i64) (by omega))), gV, gW, (by omega), (all_up (by omega) hall hok)⟩, (by omega)⟩
 intro jB ap
 refine wp_block ?_
 refine wp_seq_k fun jC en => ?_
 have hb := hu.at16 i
 refine wp_g0 [true, true, true] [] 54
   [(EP (.int .u16 ((u.getD i 0 : Nat) : Int))), ve (.int .u16 ((u.getD i 0 : Nat) : Int)), ve (.int .u16 ((u.getD i 0 : Nat) : Int))] bm (.cons (fun _ _ _ n ⟨_, _, e, h⟩ => ⟨_, _, e, h.new_ n⟩) (.eq (.eq (.nil)))) ?_ ?_
 refine .o1 (tk rfl rfl fun _ w hn k => (by
       exact x_eaddr (k := .u16) rfl elU (k.fx 6 dV) (k.fx 8 dU) (hru.new_ (bo.transNew hn)) (by omega) fun b1 o2 hme => ⟨b1, o2, rfl, hme⟩)) ?_
 refine .o1 (tk rfl rfl fun _ w hn k => (by
       obtain ⟨b5, o6, e7, gY⟩ : (EP (.int .u16 ((u.getD i 0 : Nat) : Int))) _ _ := k.dep 0 10 (by kernel_rfl) (by kernel_rfl)
       exact ⟨_, v_load rfl e7 (l_one Tryd.isAgg64 gY.1), rfl⟩)) ?_
 exact .a (fun k => k.eq1 1 11 rfl) .nil
 refine aftI bm bF bo fun jD jE bn bI br hK bk => ?_
 have d0 := bk.fx 3 dT
 have d1 := bk.fx 8 dU
 have d2 := bk.fx 6 dV
 have d3 := bk.fx 7 gM
 have bp := bk.ge 2 5 rfl
 refine st_nil (en _ _ ?_)
 refine wp_seq_j (fun (aa : Act) (ww : World) => aa.tmps.size = 54 ∧ aa.defers = [] ∧ New w ww ∧ aa.eval (.tmp 3) = .bool ((u.take (i + 1)).any dgtN) ∧ aa.eval (.tmp 5) = .int .u16 ((u.getD i 0 : Nat) : Int) ∧ aa.eval (.tmp 6) = sv Au u cu ∧ aa.eval (.tmp 7) = iv (u.length : Int) ∧ aa.eval (.tmp 8) = iv (i : Int)) ?_ ?_
 rintro hL hM ⟨ae, ai, aj, al, ab, am, an, ao⟩
 refine wp_seq_k fun hN ak => ?_
 rcases bc (dgtN (u.getD i 0)) with ac | ac
 have hb := hu.at16 i
 refine wp_g0 (.replicate 35 true) [] 54
   [ve (.int .u16 ((u.getD i 0 : Nat) : Int)), vT, vF, vF, vU, vU, vU, vU, vU, vU, vF, vF, vU, vU, vU, vU, vU, vU, vF, vF, vU, vU, vF, vF, vU, vU, vF, vF, vU, vU, vF, vF, vU, vU, vF] ae (.eq (.eq (.eq (.eq (.eq (.eq (.eq (.eq (.eq (.eq (.eq (.eq (.eq (.eq (.eq (.eq (.eq (.eq (.eq (.eq (.eq (.eq (.eq (.eq (.eq (.eq (.eq (.eq (.eq (.eq (.eq (.eq (.eq (.eq (.eq (.nil)))))))))))))))))))))))))))))))))))) ?_ ?_
 exact .m (fun k => k.fx 5 ab) <| .o1 (ck rfl rfl rfl (fun _ w hn k => ⟨#[.int .u16 ((u.getD i 0 : Nat) : Int)], args1 (k.eq1 0 17 rfl), fun _ => by kernel_rfl, cdigit_c (u.getD i 0) _ (by omega)⟩) fun _ => congrArg Value.bool ac) <| .t (fun _ w hn k => ⟨_, v_not rfl (k.eq1 1 18 rfl), rfl⟩) <| .m (fun k => k.eq1 2 19 rfl) <| .s (fun k => k.eq1 3 20 rfl) <| .s (fun k => k.eq1 3 20 rfl) <| .s (fun k => k.eq1 3 20 rfl) <| .o1 (su rfl rfl rfl (fun _ _ _ k => k.eq1 6 23 rfl) (fun _ => rfl)) <| .o1 (su rfl rfl rfl (fun _ _ _ k => k.eq1 6 23 rfl) (fun _ => rfl)) <| .s (fun k => k.eq1 3 20 rfl) <| .t (fun _ w hn k => ⟨_, v_pickF rfl (k.eq1 3 20 rfl) rfl, rfl⟩) <| .m (fun k => k.eq1 10 27 rfl) <| .s (fun k => k.eq1 11 28 rfl) <| .s (fun k => k.eq1 11 28 rfl) <| .s (fun k => k.eq1 11 28 rfl) <| .o1 (su rfl rfl rfl (fun _ _ _ k => k.eq1 14 31 rfl) (fun _ => rfl)) <| .o1 (su rfl rfl rfl (fun _ _ _ k => k.eq1 14 31 rfl) (fun _ => rfl)) <| .s (fun k => k.eq1 11 28 rfl) <| .t (fun _ w hn k => ⟨_, v_pickF rfl (k.eq1 11 28 rfl) rfl, rfl⟩) <| .m (fun k => k.eq1 18 35 rfl) <| .s (fun k => k.eq1 19 36 rfl) <| .s (fun k => k.eq1 19 36 rfl) <| .t (fun _ w hn k => ⟨_, v_pickF rfl (k.eq1 19 36 rfl) rfl, rfl⟩) <| .m (fun k => k.eq1 22 39 rfl) <| .s (fun k => k.eq1 23 40 rfl) <| .s (fun k => k.eq1 23 40 rfl) <| .t (fun _ w hn k => ⟨_, v_pickF rfl (k.eq1 23 40 rfl) rfl, rfl⟩) <| .m (fun k => k.eq1 26 43 rfl) <| .s (fun k => k.eq1 27 44 rfl) <| .s (fun k => k.eq1 27 44 rfl) <| .t (fun _ w hn k => ⟨_, v_pickF rfl (k.eq1 27 44 rfl) rfl, rfl⟩) <| .m (fun k => k.eq1 30 47 rfl) <| .s (fun k => k.eq1 31 48 rfl) <| .s (fun k => k.eq1 31 48 rfl) <| .t (fun _ w hn k => ⟨_, v_pickF rfl (k.eq1 31 48 rfl) rfl, rfl⟩) .nil
 refine aftI ae ai aj fun hO hP cd ce cf gZ aP => ?_
 have eo := aP.fx 3 al
 have ep := aP.fx 6 am
 have er := aP.fx 7 an
 have es := aP.fx 8 ao
 have et := aP.ge 34 51 rfl
 refine st_nil (ak _ _ ?_)
 refine wp_cond_false et ?_
 refine wp_skip ?_
 exact ap _ _ ⟨cd, ce, cf, eo, ep, er, es, (by rw [okS_xo]; unfold okbN; simp only [ac, bsm])⟩
 rcases bc (decide (((u.getD i 0 : Nat) : Int) < 97)) with ad | ad
 have bJ := oT ad
 rcases bc (decide (((u.getD i 0 : Nat) : Int) < 65)) with ag | ag
 have bK := oT ag
 rcases bc (decide (((u.getD i 0 : Nat) : Int) = 120)) with au | au
 have bL := oT au
 have hb := hu.at16 i
 refine wp_g0 (.replicate 35 true) [] 54
   [ve (.int .u16 ((u.getD i 0 : Nat) : Int)), vF, vT, vT, ve (.int .u16 ((u.getD i 0 : Nat) : Int)), vT, vT, vU, vU, vT, vT, vT, ve (.int .u16 ((u.getD i 0 : Nat) : Int)), vT, vT, vU, vU, vT, vT, vT, ve (.int .u16 ((u.getD i 0 : Nat) : Int)), vF, vF, vF, vU, vU, vF, vF, vU, vU, vF, vF, vU, vU, vF] ae (.eq (.eq (.eq (.eq (.eq (.eq (.eq (.eq (.eq (.eq (.eq (.eq (.eq (.eq (.eq (.eq (.eq (.eq (.eq (.eq (.eq (.eq (.eq (.eq (.eq (.eq (.eq (.eq (.eq (.eq (.eq (.eq (.eq (.eq (.eq (.nil)))))))))))))))))))))))))))))))))))) ?_ ?_
 exact .m (fun k => k.fx 5 ab) <| .o1 (ck rfl rfl rfl (fun _ w hn k => ⟨#[.int .u16 ((u.getD i 0 : Nat) : Int)], args1 (k.eq1 0 17 rfl), fun _ => by kernel_rfl, cdigit_c (u.getD i 0) _ (by omega)⟩) fun _ => congrArg Value.bool ac) <| .t (fun _ w hn k => ⟨_, v_not rfl (k.eq1 1 18 rfl), rfl⟩) <| .m (fun k => k.eq1 2 19 rfl) <| .gm (fun k => k.eq1 3 20 rfl) (fun k => k.fx 5 ab) <| .g (fun k => k.eq1 3 20 rfl) (fun _ w hn k => ⟨_, v_bin rfl (k.eq1 4 21 rfl) rfl (fun _ => rfl) (r_lssK ad), rfl⟩) <| .gm (fun k => k.eq1 3 20 rfl) (fun k => k.eq1 5 22 rfl) <| .s (fun k => k.eq1 6 23 rfl) <| .s (fun k => k.eq1 6 23 rfl) <| .g (fun k => k.eq1 3 20 rfl) (fun _ w hn k => ⟨_, v_pickT rfl (k.eq1 6 23 rfl) rfl, rfl⟩) <| .t (fun _ w hn k => ⟨_, v_pickT rfl (k.eq1 3 20 rfl) (k.eq1 9 26 rfl), rfl⟩) <| .m (fun k => k.eq1 10 27 rfl) <| .gm (fun k => k.eq1 11 28 rfl) (fun k => k.fx 5 ab) <| .g (fun k => k.eq1 11 28 rfl) (fun _ w hn k => ⟨_, v_bin rfl (k.eq1 12 29 rfl) rfl (fun _ => rfl) (r_lssK ag), rfl⟩) <| .gm (fun k => k.eq1 11 28 rfl) (fun k => k.eq1 13 30 rfl) <| .s (fun k => k.eq1 14 31 rfl) <| .s (fun k => k.eq1 14 31 rfl) <| .g (fun k => k.eq1 11 28 rfl) (fun _ w hn k => ⟨_, v_pickT rfl (k.eq1 14 31 rfl) rfl, rfl⟩) <| .t (fun _ w hn k => ⟨_, v_pickT rfl (k.eq1 11 28 rfl) (k.eq1 17 34 rfl), rfl⟩) <| .m (fun k => k.eq1 18 35 rfl) <| .gm (fun k => k.eq1 19 36 rfl) (fun k => k.fx 5 ab) <| .g (fun k => k.eq1 19 36 rfl) (fun _ w hn k => ⟨_, v_bin rfl (k.eq1 20 37 rfl) rfl (fun _ => rfl) (r_neq au), rfl⟩) <| .t (fun _ w hn k => ⟨_, v_pickT rfl (k.eq1 19 36 rfl) (k.eq1 21 38 rfl), rfl⟩) <| .m (fun k => k.eq1 22 39 rfl) <| .s (fun k => k.eq1 23 40 rfl) <| .s (fun k => k.eq1 23 40 rfl) <| .t (fun _ w hn k => ⟨_, v_pickF rfl (k.eq1 23 40 rfl) rfl, rfl⟩) <| .m (fun k => k.eq1 26 43 rfl) <| .s (fun k => k.eq1 27 44 rfl) <| .s (fun k => k.eq1 27 44 rfl) <| .t (fun _ w hn k => ⟨_, v_pickF rfl (k.eq1 27 44 rfl) rfl, rfl⟩) <| .m (fun k => k.eq1 30 47 rfl) <| .s (fun k => k.eq1 31 48 rfl) <| .s (fun k => k.eq1 31 48 rfl) <| .t (fun _ w hn k => ⟨_, v_pickF rfl (k.eq1 31 48 rfl) rfl, rfl⟩) .nil
 refine aftI ae ai aj fun hQ hR ch ci cj g0 aQ => ?_
 have eu := aQ.fx 3 al
 have ev := aQ.fx 6 am
 have ew := aQ.fx 7 an
 have ex := aQ.fx 8 ao
 have ey := aQ.ge 34 51 rfl
 refine st_nil (ak _ _ ?_)
 refine wp_cond_false ey ?_
 refine wp_skip ?_
 exact ap _ _ ⟨ch, ci, cj, eu, ev, ew, ex, (by rw [okS_xo]; unfold okbN; simp only [ac, ad, ag, au, bsm])⟩
 have bL := oF au
 rcases bc (decide (((u.getD i 0 : Nat) : Int) = 88)) with ay | ay
 have bM := oT ay
 have hb := hu.at16 i
 refine wp_g0 (.replicate 35 true) [] 54
   [ve (.int .u16 ((u.getD i 0 : Nat) : Int)), vF, vT, vT, ve (.int .u16 ((u.getD i 0 : Nat) : Int)), vT, vT, vU, vU, vT, vT, vT, ve (.int .u16 ((u.getD i 0 : Nat) : Int)), vT, vT, vU, vU, vT, vT, vT, ve (.int .u16 ((u.getD i 0 : Nat) : Int)), vT, vT, vT, ve (.int .u16 ((u.getD i 0 : Nat) : Int)), vF, vF, vF, vU, vU, vF, vF, vU, vU, vF] ae (.eq (.eq (.eq (.eq (.eq (.eq (.eq (.eq (.eq (.eq (.eq (.eq (.eq (.eq (.eq (.eq (.eq (.eq (.eq (.eq (.eq (.eq (.eq (.eq (.eq (.eq (.eq (.eq (.eq (.eq (.eq (.eq (.eq (.eq (.eq (.nil)))))))))))))))))))))))))))))))))))) ?_ ?_
 exact .m (fun k => k.fx 5 ab) <| .o1 (ck rfl rfl rfl (fun _ w hn k => ⟨#[.int .u16 ((u.getD i 0 : Nat) : Int)], args1 (k.eq1 0 17 rfl), fun _ => by kernel_rfl, cdigit_c (u.getD i 0) _ (by omega)⟩) fun _ => congrArg Value.bool ac) <| .t (fun _ w hn k => ⟨_, v_not rfl (k.eq1 1 18 rfl), rfl⟩) <| .m (fun k => k.eq1 2 19 rfl) <| .gm (fun k => k.eq1 3 20 rfl) (fun k => k.fx 5 ab) <| .g (fun k => k.eq1 3 20 rfl) (fun _ w hn k => ⟨_, v_bin rfl (k.eq1 4 21 rfl) rfl (fun _ => rfl) (r_lssK ad), rfl⟩) <| .gm (fun k => k.eq1 3 20 rfl) (fun k => k.eq1 5 22 rfl) <| .s (fun k => k.eq1 6 23 rfl) <| .s (fun k => k.eq1 6 23 rfl) <| .g (fun k => k.eq1 3 20 rfl) (fun _ w hn k => ⟨_, v_pickT rfl (k.eq1 6 23 rfl) rfl, rfl⟩) <| .t (fun _ w hn k => ⟨_, v_pickT rfl (k.eq1 3 20 rfl) (k.eq1 9 26 rfl), rfl⟩) <| .m (fun k => k.eq1 10 27 rfl) <| .gm (fun k => k.eq1 11 28 rfl) (fun k => k.fx 5 ab) <| .g (fun k => k.eq1 11 28 rfl) (fun _ w hn k => ⟨_, v_bin rfl (k.eq1 12 29 rfl) rfl (fun _ => rfl) (r_lssK ag), rfl⟩) <| .gm (fun k => k.eq1 11 28 rfl) (fun k => k.eq1 13 30 rfl) <| .s (fun k => k.eq1 14 31 rfl) <| .s (fun k => k.eq1 14 31 rfl) <| .g (fun k => k.eq1 11 28 rfl) (fun _ w hn k => ⟨_, v_pickT rfl (k.eq1 14 31 rfl) rfl, rfl⟩) <| .t (fun _ w hn k => ⟨_, v_pickT rfl (k.eq1 11 28 rfl) (k.eq1 17 34 rfl), rfl⟩) <| .m (fun k => k.eq1 18 35 rfl) <| .gm (fun k => k.eq1 19 36 rfl) (fun k => k.fx 5 ab) <| .g (fun k => k.eq1 19 36 rfl) (fun _ w hn k => ⟨_, v_bin rfl (k.eq1 20 37 rfl) rfl (fun _ => rfl) (r_neq au), rfl⟩) <| .t (fun _ w hn k => ⟨_, v_pickT rfl (k.eq1 19 36 rfl) (k.eq1 21 38 rfl), rfl⟩) <| .m (fun k => k.eq1 22 39 rfl) <| .gm (fun k => k.eq1 23 40 rfl) (fun k => k.fx 5 ab) <| .g (fun k => k.eq1 23 40 rfl) (fun _ w hn k => ⟨_, v_bin rfl (k.eq1 24 41 rfl) rfl (fun _ => rfl) (r_neq ay), rfl⟩) <| .t (fun _ w hn k => ⟨_, v_pickT rfl (k.eq1 23 40 rfl) (k.eq1 25 42 rfl), rfl⟩) <| .m (fun k => k.eq1 26 43 rfl) <| .s (fun k => k.eq1 27 44 rfl) <| .s (fun k => k.eq1 27 44 rfl) <| .t (fun _ w hn k => ⟨_, v_pickF rfl (k.eq1 27 44 rfl) rfl, rfl⟩) <| .m (fun k => k.eq1 30 47 rfl) <| .s (fun k => k.eq1 31 48 rfl) <| .s (fun k => k.eq1 31 48 rfl) <| .t (fun _ w hn k => ⟨_, v_pickF rfl (k.eq1 31 48 rfl) rfl, rfl⟩) .nil
 refine aftI ae ai aj fun hS hT cl cm cn g1 aR => ?_
 have ez := aR.fx 3 al
 have eA := aR.fx 6 am
 have eB := aR.fx 7 an
 have eC := aR.fx 8 ao
 have eD := aR.ge 34 51 rfl
 refine st_nil (ak _ _ ?_)
 refine wp_cond_false eD ?_
 refine wp_skip ?_
 exact ap _ _ ⟨cl, cm, cn, ez, eA, eB, eC, (by rw [okS_xo]; unfold okbN; simp only [ac, ad, ag, au, ay, bsm])⟩
 have bM := oF ay
 rcases bc (decide (((u.getD i 0 : Nat) : Int) = 111)) with aC | aC
 have bN := oT aC
 have hb := hu.at16 i
 refine wp_g0 (.replicate 35 true) [] 54
   [ve (.int .u16 ((u.getD i 0 : Nat) : Int)), vF, vT, vT, ve (.int .u16 ((u.getD i 0 : Nat) : Int)), vT, vT, vU, vU, vT, vT, vT, ve (.int .u16 ((u.getD i 0 : Nat) : Int)), vT, vT, vU, vU, vT, vT, vT, ve (.int .u16 ((u.getD i 0 : Nat) : Int)), vT, vT, vT, ve (.int .u16 ((u.getD i 0 : Nat) : Int)), vT, vT, vT, ve (.int .u16 ((u.getD i 0 : Nat) : Int)), vF, vF, vF, vU, vU, vF] ae (.eq (.eq (.eq (.eq (.eq (.eq (.eq (.eq (.eq (.eq (.eq (.eq (.eq (.eq (.eq (.eq (.eq (.eq (.eq (.eq (.eq (.eq (.eq (.eq (.eq (.eq (.eq (.eq (.eq (.eq (.eq (.eq (.eq (.eq (.eq (.nil)))))))))))))))))))))))))))))))))))) ?_ ?_
 exact .m (fun k => k.fx 5 ab) <| .o1 (ck rfl rfl rfl (fun _ w hn k => ⟨#[.int .u16 ((u.getD i 0 : Nat) : Int)], args1 (k.eq1 0 17 rfl), fun _ => by kernel_rfl, cdigit_c (u.getD i 0) _ (by omega)⟩) fun _ => congrArg Value.bool ac) <| .t (fun _ w hn k => ⟨_, v_not rfl (k.eq1 1 18 rfl), rfl⟩) <| .m (fun k => k.eq1 2 19 rfl) <| .gm (fun k => k.eq1 3 20 rfl) (fun k => k.fx 5 ab) <| .g (fun k => k.eq1 3 20 rfl) (fun _ w hn k => ⟨_, v_bin rfl (k.eq1 4 21 rfl) rfl (fun _ => rfl) (r_lssK ad), rfl⟩) <| .gm (fun k => k.eq1 3 20 rfl) (fun k => k.eq1 5 22 rfl) <| .s (fun k => k.eq1 6 23 rfl) <| .s (fun k => k.eq1 6 23 rfl) <| .g (fun k => k.eq1 3 20 rfl) (fun _ w hn k => ⟨_, v_pickT rfl (k.eq1 6 23 rfl) rfl, rfl⟩) <| .t (fun _ w hn k => ⟨_, v_pickT rfl (k.eq1 3 20 rfl) (k.eq1 9 26 rfl), rfl⟩) <| .m (fun k => k.eq1 10 27 rfl) <| .gm (fun k => k.eq1 11 28 rfl) (fun k => k.fx 5 ab) <| .g (fun k => k.eq1 11 28 rfl) (fun _ w hn k => ⟨_, v_bin rfl (k.eq1 12 29 rfl) rfl (fun _ => rfl) (r_lssK ag), rfl⟩) <| .gm (fun k => k.eq1 11 28 rfl) (fun k => k.eq1 13 30 rfl) <| .s (fun k => k.eq1 14 31 rfl) <| .s (fun k => k.eq1 14 31 rfl) <| .g (fun k => k.eq1 11 28 rfl) (fun _ w hn k => ⟨_, v_pickT rfl (k.eq1 14 31 rfl) rfl, rfl⟩) <| .t (fun _ w hn k => ⟨_, v_pickT rfl (k.eq1 11 28 rfl) (k.eq1 17 34 rfl), rfl⟩) <| .m (fun k => k.eq1 18 35 rfl) <| .gm (fun k => k.eq1 19 36 rfl) (fun k => k.fx 5 ab) <| .g (fun k => k.eq1 19 36 rfl) (fun _ w hn k => ⟨_, v_bin rfl (k.eq1 20 37 rfl) rfl (fun _ => rfl) (r_neq au), rfl⟩) <| .t (fun _ w hn k => ⟨_, v_pickT rfl (k.eq1 19 36 rfl) (k.eq1 21 38 rfl), rfl⟩) <| .m (fun k => k.eq1 22 39 rfl) <| .gm (fun k => k.eq1 23 40 rfl) (fun k => k.fx 5 ab) <| .g (fun k => k.eq1 23 40 rfl) (fun _ w hn k => ⟨_, v_bin rfl (k.eq1 24 41 rfl) rfl (fun _ => rfl) (r_neq ay), rfl⟩) <| .t (fun _ w hn k => ⟨_, v_pickT rfl (k.eq1 23 40 rfl) (k.eq1 25 42 rfl), rfl⟩) <| .m (fun k => k.eq1 26 43 rfl) <| .gm (fun k => k.eq1 27 44 rfl) (fun k => k.fx 5 ab) <| .g (fun k => k.eq1 27 44 rfl) (fun _ w hn k => ⟨_, v_bin rfl (k.eq1 28 45 rfl) rfl (fun _ => rfl) (r_neq aC), rfl⟩) <| .t (fun _ w hn k => ⟨_, v_pickT rfl (k.eq1 27 44 rfl) (k.eq1 29 46 rfl), rfl⟩) <| .m (fun k => k.eq1 30 47 rfl) <| .s (fun k => k.eq1 31 48 rfl) <| .s (fun k => k.eq1 31 48 rfl) <| .t (fun _ w hn k => ⟨_, v_pickF rfl (k.eq1 31 48 rfl) rfl, rfl⟩) .nil
 refine aftI ae ai aj fun hU hV co cp cq g2 aS => ?_
 have eE := aS.fx 3 al
 have eF := aS.fx 6 am
 have eG := aS.fx 7 an
 have eH := aS.fx 8 ao
 have eI := aS.ge 34 51 rfl
 refine st_nil (ak _ _ ?_)
 refine wp_cond_false eI ?_
 refine wp_skip ?_
 exact ap _ _ ⟨co, cp, cq, eE, eF, eG, eH, (by rw [okS_xo]; unfold okbN; simp only [ac, ad, ag, au, ay, aC, bsm])⟩
 have bN := oF aC
 rcases bc (decide (((u.getD i 0 : Nat) : Int) = 79)) with aI | aI
 have bO := oT aI
 have hb := hu.at16 i
 refine wp_g0 (.replicate 35 true) [] 54
   [ve (.int .u16 ((u.getD i 0 : Nat) : Int)), vF, vT, vT, ve (.int .u16 ((u.getD i 0 : Nat) : Int)), vT, vT, vU, vU, vT, vT, vT, ve (.int .u16 ((u.getD i 0 : Nat) : Int)), vT, vT, vU, vU, vT, vT, vT, ve (.int .u16 ((u.getD i 0 : Nat) : Int)), vT, vT, vT, ve (.int .u16 ((u.getD i 0 : Nat) : Int)), vT, vT, vT, ve (.int .u16 ((u.getD i 0 : Nat) : Int)), vT, vT, vT, ve (.int .u16 ((u.getD i 0 : Nat) : Int)), vF, vF] ae (.eq (.eq (.eq (.eq (.eq (.eq (.eq (.eq (.eq (.eq (.eq (.eq (.eq (.eq (.eq (.eq (.eq (.eq (.eq (.eq (.eq (.eq (.eq (.eq (.eq (.eq (.eq (.eq (.eq (.eq (.eq (.eq (.eq (.eq (.eq (.nil)))))))))))))))))))))))))))))))))))) ?_ ?_
 exact .m (fun k => k.fx 5 ab) <| .o1 (ck rfl rfl rfl (fun _ w hn k => ⟨#[.int .u16 ((u.getD i 0 : Nat) : Int)], args1 (k.eq1 0 17 rfl), fun _ => by kernel_rfl, cdigit_c (u.getD i 0) _ (by omega)⟩) fun _ => congrArg Value.bool ac) <| .t (fun _ w hn k => ⟨_, v_not rfl (k.eq1 1 18 rfl), rfl⟩) <| .m (fun k => k.eq1 2 19 rfl) <| .gm (fun k => k.eq1 3 20 rfl) (fun k => k.fx 5 ab) <| .g (fun k => k.eq1 3 20 rfl) (fun _ w hn k => ⟨_, v_bin rfl (k.eq1 4 21 rfl) rfl (fun _ => rfl) (r_lssK ad), rfl⟩) <| .gm (fun k => k.eq1 3 20 rfl) (fun k => k.eq1 5 22 rfl) <| .s (fun k => k.eq1 6 23 rfl) <| .s (fun k => k.eq1 6 23 rfl) <| .g (fun k => k.eq1 3 20 rfl) (fun _ w hn k => ⟨_, v_pickT rfl (k.eq1 6 23 rfl) rfl, rfl⟩) <| .t (fun _ w hn k => ⟨_, v_pickT rfl (k.eq1 3 20 rfl) (k.eq1 9 26 rfl), rfl⟩) <| .m (fun k => k.eq1 10 27 rfl) <| .gm (fun k => k.eq1 11 28 rfl) (fun k => k.fx 5 ab) <| .g (fun k => k.eq1 11 28 rfl) (fun _ w hn k => ⟨_, v_bin rfl (k.eq1 12 29 rfl) rfl (fun _ => rfl) (r_lssK ag), rfl⟩) <| .gm (fun k => k.eq1 11 28 rfl) (fun k => k.eq1 13 30 rfl) <| .s (fun k => k.eq1 14 31 rfl) <| .s (fun k => k.eq1 14 31 rfl) <| .g (fun k => k.eq1 11 28 rfl) (fun _ w hn k => ⟨_, v_pickT rfl (k.eq1 14 31 rfl) rfl, rfl⟩) <| .t (fun _ w hn k => ⟨_, v_pickT rfl (k.eq1 11 28 rfl) (k.eq1 17 34 rfl), rfl⟩) <| .m (fun k => k.eq1 18 35 rfl) <| .gm (fun k => k.eq1 19 36 rfl) (fun k => k.fx 5 ab) <| .g (fun k => k.eq1 19 36 rfl) (fun _ w hn k => ⟨_, v_bin rfl (k.eq1 20 37 rfl) rfl (fun _ => rfl) (r_neq au), rfl⟩) <| .t (fun _ w hn k => ⟨_, v_pickT rfl (k.eq1 19 36 rfl) (k.eq1 21 38 rfl), rfl⟩) <| .m (fun k => k.eq1 22 39 rfl) <| .gm (fun k => k.eq1 23 40 rfl) (fun k => k.fx 5 ab) <| .g (fun k => k.eq1 23 40 rfl) (fun _ w hn k => ⟨_, v_bin rfl (k.eq1 24 41 rfl) rfl (fun _ => rfl) (r_neq ay), rfl⟩) <| .t (fun _ w hn k => ⟨_, v_pickT rfl (k.eq1 23 40 rfl) (k.eq1 25 42 rfl), rfl⟩) <| .m (fun k => k.eq1 26 43 rfl) <| .gm (fun k => k.eq1 27 44 rfl) (fun k => k.fx 5 ab) <| .g (fun k => k.eq1 27 44 rfl) (fun _ w hn k => ⟨_, v_bin rfl (k.eq1 28 45 rfl) rfl (fun _ => rfl) (r_neq aC), rfl⟩) <| .t (fun _ w hn k => ⟨_, v_pickT rfl (k.eq1 27 44 rfl) (k.eq1 29 46 rfl), rfl⟩) <| .m (fun k => k.eq1 30 47 rfl) <| .gm (fun k => k.eq1 31 48 rfl) (fun k => k.fx 5 ab) <| .g (fun k => k.eq1 31 48 rfl) (fun _ w hn k => ⟨_, v_bin rfl (k.eq1 32 49 rfl) rfl (fun _ => rfl) (r_neq aI), rfl⟩) <| .t (fun _ w hn k => ⟨_, v_pickT rfl (k.eq1 31 48 rfl) (k.eq1 33 50 rfl), rfl⟩) .nil
 refine aftI ae ai aj fun hW hX cr cs ct g3 aT => ?_
 have eJ := aT.fx 3 al
 have eK := aT.fx 6 am
 have eL := aT.fx 7 an
 have eM := aT.fx 8 ao
 have eN := aT.ge 34 51 rfl
 refine st_nil (ak _ _ ?_)
 refine wp_cond_false eN ?_
 refine wp_skip ?_
 exact ap _ _ ⟨cr, cs, ct, eJ, eK, eL, eM, (by rw [okS_xo]; unfold okbN; simp only [ac, ad, ag, au, ay, aC, aI, bsm])⟩
 have bO := oF aI
 have hb := hu.at16 i
 refine wp_g0 (.replicate 35 true) [] 54
   [ve (.int .u16 ((u.getD i 0 : Nat) : Int)), vF, vT, vT, ve (.int .u16 ((u.getD i 0 : Nat) : Int)), vT, vT, vU, vU, vT, vT, vT, ve (.int .u16 ((u.getD i 0 : Nat) : Int)), vT, vT, vU, vU, vT, vT, vT, ve (.int .u16 ((u.getD i 0 : Nat) : Int)), vT, vT, vT, ve (.int .u16 ((u.getD i 0 : Nat) : Int)), vT, vT, vT, ve (.int .u16 ((u.getD i 0 : Nat) : Int)), vT, vT, vT, ve (.int .u16 ((u.getD i 0 : Nat) : Int)), vT, vT] ae (.eq (.eq (.eq (.eq (.eq (.eq (.eq (.eq (.eq (.eq (.eq (.eq (.eq (.eq (.eq (.eq (.eq (.eq (.eq (.eq (.eq (.eq (.eq (.eq (.eq (.eq (.eq (.eq (.eq (.eq (.eq (.eq (.eq (.eq (.eq (.nil)))))))))))))))))))))))))))))))))))) ?_ ?_
 exact .m (fun k => k.fx 5 ab) <| .o1 (ck rfl rfl rfl (fun _ w hn k => ⟨#[.int .u16 ((u.getD i 0 : Nat) : Int)], args1 (k.eq1 0 17 rfl), fun _ => by kernel_rfl, cdigit_c (u.getD i 0) _ (by omega)⟩) fun _ => congrArg Value.bool ac) <| .t (fun _ w hn k => ⟨_, v_not rfl (k.eq1 1 18 rfl), rfl⟩) <| .m (fun k => k.eq1 2 19 rfl) <| .gm (fun k => k.eq1 3 20 rfl) (fun k => k.fx 5 ab) <| .g (fun k => k.eq1 3 20 rfl) (fun _ w hn k => ⟨_, v_bin rfl (k.eq1 4 21 rfl) rfl (fun _ => rfl) (r_lssK ad), rfl⟩) <| .gm (fun k => k.eq1 3 20 rfl) (fun k => k.eq1 5 22 rfl) <| .s (fun k => k.eq1 6 23 rfl) <| .s (fun k => k.eq1 6 23 rfl) <| .g (fun k => k.eq1 3 20 rfl) (fun _ w hn k => ⟨_, v_pickT rfl (k.eq1 6 23 rfl) rfl, rfl⟩) <| .t (fun _ w hn k => ⟨_, v_pickT rfl (k.eq1 3 20 rfl) (k.eq1 9 26 rfl), rfl⟩) <| .m (fun k => k.eq1 10 27 rfl) <| .gm (fun k => k.eq1 11 28 rfl) (fun k => k.fx 5 ab) <| .g (fun k => k.eq1 11 28 rfl) (fun _ w hn k => ⟨_, v_bin rfl (k.eq1 12 29 rfl) rfl (fun _ => rfl) (r_lssK ag), rfl⟩) <| .gm (fun k => k.eq1 11 28 rfl) (fun k => k.eq1 13 30 rfl) <| .s (fun k => k.eq1 14 31 rfl) <| .s (fun k => k.eq1 14 31 rfl) <| .g (fun k => k.eq1 11 28 rfl) (fun _ w hn k => ⟨_, v_pickT rfl (k.eq1 14 31 rfl) rfl, rfl⟩) <| .t (fun _ w hn k => ⟨_, v_pickT rfl (k.eq1 11 28 rfl) (k.eq1 17 34 rfl), rfl⟩) <| .m (fun k => k.eq1 18 35 rfl) <| .gm (fun k => k.eq1 19 36 rfl) (fun k => k.fx 5 ab) <| .g (fun k => k.eq1 19 36 rfl) (fun _ w hn k => ⟨_, v_bin rfl (k.eq1 20 37 rfl) rfl (fun _ => rfl) (r_neq au), rfl⟩) <| .t (fun _ w hn k => ⟨_, v_pickT rfl (k.eq1 19 36 rfl) (k.eq1 21 38 rfl), rfl⟩) <| .m (fun k => k.eq1 22 39 rfl) <| .gm (fun k => k.eq1 23 40 rfl) (fun k => k.fx 5 ab) <| .g (fun k => k.eq1 23 40 rfl) (fun _ w hn k => ⟨_, v_bin rfl (k.eq1 24 41 rfl) rfl (fun _ => rfl) (r_neq ay), rfl⟩) <| .t (fun _ w hn k => ⟨_, v_pickT rfl (k.eq1 23 40 rfl) (k.eq1 25 42 rfl), rfl⟩) <| .m (fun k => k.eq1 26 43 rfl) <| .gm (fun k => k.eq1 27 44 rfl) (fun k => k.fx 5 ab) <| .g (fun k => k.eq1 27 44 rfl) (fun _ w hn k => ⟨_, v_bin rfl (k.eq1 28 45 rfl) rfl (fun _ => rfl) (r_neq aC), rfl⟩) <| .t (fun _ w hn k => ⟨_, v_pickT rfl (k.eq1 27 44 rfl) (k.eq1 29 46 rfl), rfl⟩) <| .m (fun k => k.eq1 30 47 rfl) <| .gm (fun k => k.eq1 31 48 rfl) (fun k => k.fx 5 ab) <| .g (fun k => k.eq1 31 48 rfl) (fun _ w hn k => ⟨_, v_bin rfl (k.eq1 32 49 rfl) rfl (fun _ => rfl) (r_neq aI), rfl⟩) <| .t (fun _ w hn k => ⟨_, v_pickT rfl (k.eq1 31 48 rfl) (k.eq1 33 50 rfl), rfl⟩) .nil
 refine aftI ae ai aj fun hY hZ bs cv cw g4 aU => ?_
 have h1 := aU.fx 3 al
 have h2 := aU.fx 6 am
 have h3 := aU.fx 7 an
 have h4 := aU.fx 8 ao
 have eO := aU.ge 34 51 rfl
 refine st_nil (ak _ _ ?_)
 refine wp_cond_true eO ?_
 refine wp_seq_k fun h5 cx => ?_
 refine wp_g0 [true] [] 54
   [vF] bs (.eq (.nil)) ?_ ?_
 exact .t (fun _ w hn k => ⟨_, v_assign rfl rfl, rfl⟩) .nil
 refine aftI bs cv cw fun h6 h7 g5 cy cz g6 cA => ?_
 have eP := cA.ge 0 2 rfl
 refine st_nil (cx _ _ ?_)
 refine wp_ret (ret_k cy (v := .bool false) (res_t rfl eP _) ?_)
 exact ⟨by rw [show numericN ⟨#[120, 88, 111, 79]⟩ u = false from by unfold numericN; rw [all_bad (i := i) (by omega) (by rw [okS_xo]; unfold okbN; simp only [ac, ad, ag, au, ay, aC, aI, bsm]), Bool.false_and]], cz⟩
 have bK := oF ag
 rcases bc (decide (((u.getD i 0 : Nat) : Int) ≤ 70)) with aq | aq
 have bP := oT aq
 have hb := hu.at16 i
 refine wp_g0 (.replicate 35 true) [] 54
   [ve (.int .u16 ((u.getD i 0 : Nat) : Int)), vF, vT, vT, ve (.int .u16 ((u.getD i 0 : Nat) : Int)), vT, vT, vU, vU, vT, vT, vT, ve (.int .u16 ((u.getD i 0 : Nat) : Int)), vF, vF, ve (.int .u16 ((u.getD i 0 : Nat) : Int)), vF, vF, vF, vF, vU, vU, vF, vF, vU, vU, vF, vF, vU, vU, vF, vF, vU, vU, vF] ae (.eq (.eq (.eq (.eq (.eq (.eq (.eq (.eq (.eq (.eq (.eq (.eq (.eq (.eq (.eq (.eq (.eq (.eq (.eq (.eq (.eq (.eq (.eq (.eq (.eq (.eq (.eq (.eq (.eq (.eq (.eq (.eq (.eq (.eq (.eq (.nil)))))))))))))))))))))))))))))))))))) ?_ ?_
 exact .m (fun k => k.fx 5 ab) <| .o1 (ck rfl rfl rfl (fun _ w hn k => ⟨#[.int .u16 ((u.getD i 0 : Nat) : Int)], args1 (k.eq1 0 17 rfl), fun _ => by kernel_rfl, cdigit_c (u.getD i 0) _ (by omega)⟩) fun _ => congrArg Value.bool ac) <| .t (fun _ w hn k => ⟨_, v_not rfl (k.eq1 1 18 rfl), rfl⟩) <| .m (fun k => k.eq1 2 19 rfl) <| .gm (fun k => k.eq1 3 20 rfl) (fun k => k.fx 5 ab) <| .g (fun k => k.eq1 3 20 rfl) (fun _ w hn k => ⟨_, v_bin rfl (k.eq1 4 21 rfl) rfl (fun _ => rfl) (r_lssK ad), rfl⟩) <| .gm (fun k => k.eq1 3 20 rfl) (fun k => k.eq1 5 22 rfl) <| .s (fun k => k.eq1 6 23 rfl) <| .s (fun k => k.eq1 6 23 rfl) <| .g (fun k => k.eq1 3 20 rfl) (fun _ w hn k => ⟨_, v_pickT rfl (k.eq1 6 23 rfl) rfl, rfl⟩) <| .t (fun _ w hn k => ⟨_, v_pickT rfl (k.eq1 3 20 rfl) (k.eq1 9 26 rfl), rfl⟩) <| .m (fun k => k.eq1 10 27 rfl) <| .gm (fun k => k.eq1 11 28 rfl) (fun k => k.fx 5 ab) <| .g (fun k => k.eq1 11 28 rfl) (fun _ w hn k => ⟨_, v_bin rfl (k.eq1 12 29 rfl) rfl (fun _ => rfl) (r_lssK ag), rfl⟩) <| .gm (fun k => k.eq1 11 28 rfl) (fun k => k.eq1 13 30 rfl) <| .gm (fun k => k.eq1 14 31 rfl) (fun k => k.fx 5 ab) <| .g (fun k => k.eq1 14 31 rfl) (fun _ w hn k => ⟨_, v_bin rfl (k.eq1 15 32 rfl) rfl (fun _ => rfl) (r_gtrK aq), rfl⟩) <| .g (fun k => k.eq1 11 28 rfl) (fun _ w hn k => ⟨_, v_pickF rfl (k.eq1 14 31 rfl) (k.eq1 16 33 rfl), rfl⟩) <| .t (fun _ w hn k => ⟨_, v_pickT rfl (k.eq1 11 28 rfl) (k.eq1 17 34 rfl), rfl⟩) <| .m (fun k => k.eq1 18 35 rfl) <| .s (fun k => k.eq1 19 36 rfl) <| .s (fun k => k.eq1 19 36 rfl) <| .t (fun _ w hn k => ⟨_, v_pickF rfl (k.eq1 19 36 rfl) rfl, rfl⟩) <| .m (fun k => k.eq1 22 39 rfl) <| .s (fun k => k.eq1 23 40 rfl) <| .s (fun k => k.eq1 23 40 rfl) <| .t (fun _ w hn k => ⟨_, v_pickF rfl (k.eq1 23 40 rfl) rfl, rfl⟩) <| .m (fun k => k.eq1 26 43 rfl) <| .s (fun k => k.eq1 27 44 rfl) <| .s (fun k => k.eq1 27 44 rfl) <| .t (fun _ w hn k => ⟨_, v_pickF rfl (k.eq1 27 44 rfl) rfl, rfl⟩) <| .m (fun k => k.eq1 30 47 rfl) <| .s (fun k => k.eq1 31 48 rfl) <| .s (fun k => k.eq1 31 48 rfl) <| .t (fun _ w hn k => ⟨_, v_pickF rfl (k.eq1 31 48 rfl) rfl, rfl⟩) .nil
 refine aftI ae ai aj fun h9 ia cB cC cD g7 aV => ?_
 have eQ := aV.fx 3 al
 have eR := aV.fx 6 am
 have eS := aV.fx 7 an
 have eT := aV.fx 8 ao
 have eU := aV.ge 34 51 rfl
 refine st_nil (ak _ _ ?_)
 refine wp_cond_false eU ?_
 refine wp_skip ?_
 exact ap _ _ ⟨cB, cC, cD, eQ, eR, eS, eT, (by rw [okS_xo]; unfold okbN; simp only [ac, ad, ag, aq, bsm])⟩
 have bP := oF aq
 rcases bc (decide (((u.getD i 0 : Nat) : Int) = 120)) with av | av
 have bQ := oT av
 have hb := hu.at16 i
 refine wp_g0 (.replicate 35 true) [] 54
   [ve (.int .u16 ((u.getD i 0 : Nat) : Int)), vF, vT, vT, ve (.int .u16 ((u.getD i 0 : Nat) : Int)), vT, vT, vU, vU, vT, vT, vT, ve (.int .u16 ((u.getD i 0 : Nat) : Int)), vF, vF, ve (.int .u16 ((u.getD i 0 : Nat) : Int)), vT, vT, vT, vT, ve (.int .u16 ((u.getD i 0 : Nat) : Int)), vF, vF, vF, vU, vU, vF, vF, vU, vU, vF, vF, vU, vU, vF] ae (.eq (.eq (.eq (.eq (.eq (.eq (.eq (.eq (.eq (.eq (.eq (.eq (.eq (.eq (.eq (.eq (.eq (.eq (.eq (.eq (.eq (.eq (.eq (.eq (.eq (.eq (.eq (.eq (.eq (.eq (.eq (.eq (.eq (.eq (.eq (.nil)))))))))))))))))))))))))))))))))))) ?_ ?_
 exact .m (fun k => k.fx 5 ab) <| .o1 (ck rfl rfl rfl (fun _ w hn k => ⟨#[.int .u16 ((u.getD i 0 : Nat) : Int)], args1 (k.eq1 0 17 rfl), fun _ => by kernel_rfl, cdigit_c (u.getD i 0) _ (by omega)⟩) fun _ => congrArg Value.bool ac) <| .t (fun _ w hn k => ⟨_, v_not rfl (k.eq1 1 18 rfl), rfl⟩) <| .m (fun k => k.eq1 2 19 rfl) <| .gm (fun k => k.eq1 3 20 rfl) (fun k => k.fx 5 ab) <| .g (fun k => k.eq1 3 20 rfl) (fun _ w hn k => ⟨_, v_bin rfl (k.eq1 4 21 rfl) rfl (fun _ => rfl) (r_lssK ad), rfl⟩) <| .gm (fun k => k.eq1 3 20 rfl) (fun k => k.eq1 5 22 rfl) <| .s (fun k => k.eq1 6 23 rfl) <| .s (fun k => k.eq1 6 23 rfl) <| .g (fun k => k.eq1 3 20 rfl) (fun _ w hn k => ⟨_, v_pickT rfl (k.eq1 6 23 rfl) rfl, rfl⟩) <| .t (fun _ w hn k => ⟨_, v_pickT rfl (k.eq1 3 20 rfl) (k.eq1 9 26 rfl), rfl⟩) <| .m (fun k => k.eq1 10 27 rfl) <| .gm (fun k => k.eq1 11 28 rfl) (fun k => k.fx 5 ab) <| .g (fun k => k.eq1 11 28 rfl) (fun _ w hn k => ⟨_, v_bin rfl (k.eq1 12 29 rfl) rfl (fun _ => rfl) (r_lssK ag), rfl⟩) <| .gm (fun k => k.eq1 11 28 rfl) (fun k => k.eq1 13 30 rfl) <| .gm (fun k => k.eq1 14 31 rfl) (fun k => k.fx 5 ab) <| .g (fun k => k.eq1 14 31 rfl) (fun _ w hn k => ⟨_, v_bin rfl (k.eq1 15 32 rfl) rfl (fun _ => rfl) (r_gtrK aq), rfl⟩) <| .g (fun k => k.eq1 11 28 rfl) (fun _ w hn k => ⟨_, v_pickF rfl (k.eq1 14 31 rfl) (k.eq1 16 33 rfl), rfl⟩) <| .t (fun _ w hn k => ⟨_, v_pickT rfl (k.eq1 11 28 rfl) (k.eq1 17 34 rfl), rfl⟩) <| .m (fun k => k.eq1 18 35 rfl) <| .gm (fun k => k.eq1 19 36 rfl) (fun k => k.fx 5 ab) <| .g (fun k => k.eq1 19 36 rfl) (fun _ w hn k => ⟨_, v_bin rfl (k.eq1 20 37 rfl) rfl (fun _ => rfl) (r_neq av), rfl⟩) <| .t (fun _ w hn k => ⟨_, v_pickT rfl (k.eq1 19 36 rfl) (k.eq1 21 38 rfl), rfl⟩) <| .m (fun k => k.eq1 22 39 rfl) <| .s (fun k => k.eq1 23 40 rfl) <| .s (fun k => k.eq1 23 40 rfl) <| .t (fun _ w hn k => ⟨_, v_pickF rfl (k.eq1 23 40 rfl) rfl, rfl⟩) <| .m (fun k => k.eq1 26 43 rfl) <| .s (fun k => k.eq1 27 44 rfl) <| .s (fun k => k.eq1 27 44 rfl) <| .t (fun _ w hn k => ⟨_, v_pickF rfl (k.eq1 27 44 rfl) rfl, rfl⟩) <| .m (fun k => k.eq1 30 47 rfl) <| .s (fun k => k.eq1 31 48 rfl) <| .s (fun k => k.eq1 31 48 rfl) <| .t (fun _ w hn k => ⟨_, v_pickF rfl (k.eq1 31 48 rfl) rfl, rfl⟩) .nil
 refine aftI ae ai aj fun ib ic cE cF cG g8 aW => ?_
 have eV := aW.fx 3 al
 have eW := aW.fx 6 am
 have eX := aW.fx 7 an
 have eY := aW.fx 8 ao
 have eZ := aW.ge 34 51 rfl
 refine st_nil (ak _ _ ?_)
 refine wp_cond_false eZ ?_
 refine wp_skip ?_
 exact ap _ _ ⟨cE, cF, cG, eV, eW, eX, eY, (by rw [okS_xo]; unfold okbN; simp only [ac, ad, ag, aq, av, bsm])⟩
 have bQ := oF av
 rcases bc (decide (((u.getD i 0 : Nat) : Int) = 88)) with az | az
 have bR := oT az
 have hb := hu.at16 i
 refine wp_g0 (.replicate 35 true) [] 54
   [ve (.int .u16 ((u.getD i 0 : Nat) : Int)), vF, vT, vT, ve (.int .u16 ((u.getD i 0 : Nat) : Int)), vT, vT, vU, vU, vT, vT, vT, ve (.int .u16 ((u.getD i 0 : Nat) : Int)), vF, vF, ve (.int .u16 ((u.getD i 0 : Nat) : Int)), vT, vT, vT, vT, ve (.int .u16 ((u.getD i 0 : Nat) : Int)), vT, vT, vT, ve (.int .u16 ((u.getD i 0 : Nat) : Int)), vF, vF, vF, vU, vU, vF, vF, vU, vU, vF] ae (.eq (.eq (.eq (.eq (.eq (.eq (.eq (.eq (.eq (.eq (.eq (.eq (.eq (.eq (.eq (.eq (.eq (.eq (.eq (.eq (.eq (.eq (.eq (.eq (.eq (.eq (.eq (.eq (.eq (.eq (.eq (.eq (.eq (.eq (.eq (.nil)))))))))))))))))))))))))))))))))))) ?_ ?_
 exact .m (fun k => k.fx 5 ab) <| .o1 (ck rfl rfl rfl (fun _ w hn k => ⟨#[.int .u16 ((u.getD i 0 : Nat) : Int)], args1 (k.eq1 0 17 rfl), fun _ => by kernel_rfl, cdigit_c (u.getD i 0) _ (by omega)⟩) fun _ => congrArg Value.bool ac) <| .t (fun _ w hn k => ⟨_, v_not rfl (k.eq1 1 18 rfl), rfl⟩) <| .m (fun k => k.eq1 2 19 rfl) <| .gm (fun k => k.eq1 3 20 rfl) (fun k => k.fx 5 ab) <| .g (fun k => k.eq1 3 20 rfl) (fun _ w hn k => ⟨_, v_bin rfl (k.eq1 4 21 rfl) rfl (fun _ => rfl) (r_lssK ad), rfl⟩) <| .gm (fun k => k.eq1 3 20 rfl) (fun k => k.eq1 5 22 rfl) <| .s (fun k => k.eq1 6 23 rfl) <| .s (fun k => k.eq1 6 23 rfl) <| .g (fun k => k.eq1 3 20 rfl) (fun _ w hn k => ⟨_, v_pickT rfl (k.eq1 6 23 rfl) rfl, rfl⟩) <| .t (fun _ w hn k => ⟨_, v_pickT rfl (k.eq1 3 20 rfl) (k.eq1 9 26 rfl), rfl⟩) <| .m (fun k => k.eq1 10 27 rfl) <| .gm (fun k => k.eq1 11 28 rfl) (fun k => k.fx 5 ab) <| .g (fun k => k.eq1 11 28 rfl) (fun _ w hn k => ⟨_, v_bin rfl (k.eq1 12 29 rfl) rfl (fun _ => rfl) (r_lssK ag), rfl⟩) <| .gm (fun k => k.eq1 11 28 rfl) (fun k => k.eq1 13 30 rfl) <| .gm (fun k => k.eq1 14 31 rfl) (fun k => k.fx 5 ab) <| .g (fun k => k.eq1 14 31 rfl) (fun _ w hn k => ⟨_, v_bin rfl (k.eq1 15 32 rfl) rfl (fun _ => rfl) (r_gtrK aq), rfl⟩) <| .g (fun k => k.eq1 11 28 rfl) (fun _ w hn k => ⟨_, v_pickF rfl (k.eq1 14 31 rfl) (k.eq1 16 33 rfl), rfl⟩) <| .t (fun _ w hn k => ⟨_, v_pickT rfl (k.eq1 11 28 rfl) (k.eq1 17 34 rfl), rfl⟩) <| .m (fun k => k.eq1 18 35 rfl) <| .gm (fun k => k.eq1 19 36 rfl) (fun k => k.fx 5 ab) <| .g (fun k => k.eq1 19 36 rfl) (fun _ w hn k => ⟨_, v_bin rfl (k.eq1 20 37 rfl) rfl (fun _ => rfl) (r_neq av), rfl⟩) <| .t (fun _ w hn k => ⟨_, v_pickT rfl (k.eq1 19 36 rfl) (k.eq1 21 38 rfl), rfl⟩) <| .m (fun k => k.eq1 22 39 rfl) <| .gm (fun k => k.eq1 23 40 rfl) (fun k => k.fx 5 ab) <| .g (fun k => k.eq1 23 40 rfl) (fun _ w hn k => ⟨_, v_bin rfl (k.eq1 24 41 rfl) rfl (fun _ => rfl) (r_neq az), rfl⟩) <| .t (fun _ w hn k => ⟨_, v_pickT rfl (k.eq1 23 40 rfl) (k.eq1 25 42 rfl), rfl⟩) <| .m (fun k => k.eq1 26 43 rfl) <| .s (fun k => k.eq1 27 44 rfl) <| .s (fun k => k.eq1 27 44 rfl) <| .t (fun _ w hn k => ⟨_, v_pickF rfl (k.eq1 27 44 rfl) rfl, rfl⟩) <| .m (fun k => k.eq1 30 47 rfl) <| .s (fun k => k.eq1 31 48 rfl) <| .s (fun k => k.eq1 31 48 rfl) <| .t (fun _ w hn k => ⟨_, v_pickF rfl (k.eq1 31 48 rfl) rfl, rfl⟩) .nil
 refine aftI ae ai aj fun id ie cH cI cJ g9 aX => ?_
 have e0 := aX.fx 3 al
 have e1 := aX.fx 6 am
 have e2 := aX.fx 7 an
 have e3 := aX.fx 8 ao
 have e4 := aX.ge 34 51 rfl
 refine st_nil (ak _ _ ?_)
 refine wp_cond_false e4 ?_
 refine wp_skip ?_
 exact ap _ _ ⟨cH, cI, cJ, e0, e1, e2, e3, (by rw [okS_xo]; unfold okbN; simp only [ac, ad, ag, aq, av, az, bsm])⟩
 have bR := oF az
 rcases bc (decide (((u.getD i 0 : Nat) : Int) = 111)) with aD | aD
 have bS := oT aD
 have hb := hu.at16 i
 refine wp_g0 (.replicate 35 true) [] 54
   [ve (.int .u16 ((u.getD i 0 : Nat) : Int)), vF, vT, vT, ve (.int .u16 ((u.getD i 0 : Nat) : Int)), vT, vT, vU, vU, vT, vT, vT, ve (.int .u16 ((u.getD i 0 : Nat) : Int)), vF, vF, ve (.int .u16 ((u.getD i 0 : Nat) : Int)), vT, vT, vT, vT, ve (.int .u16 ((u.getD i 0 : Nat) : Int)), vT, vT, vT, ve (.int .u16 ((u.getD i 0 : Nat) : Int)), vT, vT, vT, ve (.int .u16 ((u.getD i 0 : Nat) : Int)), vF, vF, vF, vU, vU, vF] ae (.eq (.eq (.eq (.eq (.eq (.eq (.eq (.eq (.eq (.eq (.eq (.eq (.eq (.eq (.eq (.eq (.eq (.eq (.eq (.eq (.eq (.eq (.eq (.eq (.eq (.eq (.eq (.eq (.eq (.eq (.eq (.eq (.eq (.eq (.eq (.nil)))))))))))))))))))))))))))))))))))) ?_ ?_
 exact .m (fun k => k.fx 5 ab) <| .o1 (ck rfl rfl rfl (fun _ w hn k => ⟨#[.int .u16 ((u.getD i 0 : Nat) : Int)], args1 (k.eq1 0 17 rfl), fun _ => by kernel_rfl, cdigit_c (u.getD i 0) _ (by omega)⟩) fun _ => congrArg Value.bool ac) <| .t (fun _ w hn k => ⟨_, v_not rfl (k.eq1 1 18 rfl), rfl⟩) <| .m (fun k => k.eq1 2 19 rfl) <| .gm (fun k => k.eq1 3 20 rfl) (fun k => k.fx 5 ab) <| .g (fun k => k.eq1 3 20 rfl) (fun _ w hn k => ⟨_, v_bin rfl (k.eq1 4 21 rfl) rfl (fun _ => rfl) (r_lssK ad), rfl⟩) <| .gm (fun k => k.eq1 3 20 rfl) (fun k => k.eq1 5 22 rfl) <| .s (fun k => k.eq1 6 23 rfl) <| .s (fun k => k.eq1 6 23 rfl) <| .g (fun k => k.eq1 3 20 rfl) (fun _ w hn k => ⟨_, v_pickT rfl (k.eq1 6 23 rfl) rfl, rfl⟩) <| .t (fun _ w hn k => ⟨_, v_pickT rfl (k.eq1 3 20 rfl) (k.eq1 9 26 rfl), rfl⟩) <| .m (fun k => k.eq1 10 27 rfl) <| .gm (fun k => k.eq1 11 28 rfl) (fun k => k.fx 5 ab) <| .g (fun k => k.eq1 11 28 rfl) (fun _ w hn k => ⟨_, v_bin rfl (k.eq1 12 29 rfl) rfl (fun _ => rfl) (r_lssK ag), rfl⟩) <| .gm (fun k => k.eq1 11 28 rfl) (fun k => k.eq1 13 30 rfl) <| .gm (fun k => k.eq1 14 31 rfl) (fun k => k.fx 5 ab) <| .g (fun k => k.eq1 14 31 rfl) (fun _ w hn k => ⟨_, v_bin rfl (k.eq1 15 32 rfl) rfl (fun _ => rfl) (r_gtrK aq), rfl⟩) <| .g (fun k => k.eq1 11 28 rfl) (fun _ w hn k => ⟨_, v_pickF rfl (k.eq1 14 31 rfl) (k.eq1 16 33 rfl), rfl⟩) <| .t (fun _ w hn k => ⟨_, v_pickT rfl (k.eq1 11 28 rfl) (k.eq1 17 34 rfl), rfl⟩) <| .m (fun k => k.eq1 18 35 rfl) <| .gm (fun k => k.eq1 19 36 rfl) (fun k => k.fx 5 ab) <| .g (fun k => k.eq1 19 36 rfl) (fun _ w hn k => ⟨_, v_bin rfl (k.eq1 20 37 rfl) rfl (fun _ => rfl) (r_neq av), rfl⟩) <| .t (fun _ w hn k => ⟨_, v_pickT rfl (k.eq1 19 36 rfl) (k.eq1 21 38 rfl), rfl⟩) <| .m (fun k => k.eq1 22 39 rfl) <| .gm (fun k => k.eq1 23 40 rfl) (fun k => k.fx 5 ab) <| .g (fun k => k.eq1 23 40 rfl) (fun _ w hn k => ⟨_, v_bin rfl (k.eq1 24 41 rfl) rfl (fun _ => rfl) (r_neq az), rfl⟩) <| .t (fun _ w hn k => ⟨_, v_pickT rfl (k.eq1 23 40 rfl) (k.eq1 25 42 rfl), rfl⟩) <| .m (fun k => k.eq1 26 43 rfl) <| .gm (fun k => k.eq1 27 44 rfl) (fun k => k.fx 5 ab) <| .g (fun k => k.eq1 27 44 rfl) (fun _ w hn k => ⟨_, v_bin rfl (k.eq1 28 45 rfl) rfl (fun _ => rfl) (r_neq aD), rfl⟩) <| .t (fun _ w hn k => ⟨_, v_pickT rfl (k.eq1 27 44 rfl) (k.eq1 29 46 rfl), rfl⟩) <| .m (fun k => k.eq1 30 47 rfl) <| .s (fun k => k.eq1 31 48 rfl) <| .s (fun k => k.eq1 31 48 rfl) <| .t (fun _ w hn k => ⟨_, v_pickF rfl (k.eq1 31 48 rfl) rfl, rfl⟩) .nil
 refine aftI ae ai aj fun ig ih cK cL cM ha aY => ?_
 have e5 := aY.fx 3 al
 have e6 := aY.fx 6 am
 have e8 := aY.fx 7 an
 have e9 := aY.fx 8 ao
 have fa := aY.ge 34 51 rfl
 refine st_nil (ak _ _ ?_)
 refine wp_cond_false fa ?_
 refine wp_skip ?_
 exact ap _ _ ⟨cK, cL, cM, e5, e6, e8, e9, (by rw [okS_xo]; unfold okbN; simp only [ac, ad, ag, aq, av, az, aD, bsm])⟩
 have bS := oF aD
 rcases bc (decide (((u.getD i 0 : Nat) : Int) = 79)) with aJ | aJ
 have bT := oT aJ
 have hb := hu.at16 i
 refine wp_g0 (.replicate 35 true) [] 54
   [ve (.int .u16 ((u.getD i 0 : Nat) : Int)), vF, vT, vT, ve (.int .u16 ((u.getD i 0 : Nat) : Int)), vT, vT, vU, vU, vT, vT, vT, ve (.int .u16 ((u.getD i 0 : Nat) : Int)), vF, vF, ve (.int .u16 ((u.getD i 0 : Nat) : Int)), vT, vT, vT, vT, ve (.int .u16 ((u.getD i 0 : Nat) : Int)), vT, vT, vT, ve (.int .u16 ((u.getD i 0 : Nat) : Int)), vT, vT, vT, ve (.int .u16 ((u.getD i 0 : Nat) : Int)), vT, vT, vT, ve (.int .u16 ((u.getD i 0 : Nat) : Int)), vF, vF] ae (.eq (.eq (.eq (.eq (.eq (.eq (.eq (.eq (.eq (.eq (.eq (.eq (.eq (.eq (.eq (.eq (.eq (.eq (.eq (.eq (.eq (.eq (.eq (.eq (.eq (.eq (.eq (.eq (.eq (.eq (.eq (.eq (.eq (.eq (.eq (.nil)))))))))))))))))))))))))))))))))))) ?_ ?_
 exact .m (fun k => k.fx 5 ab) <| .o1 (ck rfl rfl rfl (fun _ w hn k => ⟨#[.int .u16 ((u.getD i 0 : Nat) : Int)], args1 (k.eq1 0 17 rfl), fun _ => by kernel_rfl, cdigit_c (u.getD i 0) _ (by omega)⟩) fun _ => congrArg Value.bool ac) <| .t (fun _ w hn k => ⟨_, v_not rfl (k.eq1 1 18 rfl), rfl⟩) <| .m (fun k => k.eq1 2 19 rfl) <| .gm (fun k => k.eq1 3 20 rfl) (fun k => k.fx 5 ab) <| .g (fun k => k.eq1 3 20 rfl) (fun _ w hn k => ⟨_, v_bin rfl (k.eq1 4 21 rfl) rfl (fun _ => rfl) (r_lssK ad), rfl⟩) <| .gm (fun k => k.eq1 3 20 rfl) (fun k => k.eq1 5 22 rfl) <| .s (fun k => k.eq1 6 23 rfl) <| .s (fun k => k.eq1 6 23 rfl) <| .g (fun k => k.eq1 3 20 rfl) (fun _ w hn k => ⟨_, v_pickT rfl (k.eq1 6 23 rfl) rfl, rfl⟩) <| .t (fun _ w hn k => ⟨_, v_pickT rfl (k.eq1 3 20 rfl) (k.eq1 9 26 rfl), rfl⟩) <| .m (fun k => k.eq1 10 27 rfl) <| .gm (fun k => k.eq1 11 28 rfl) (fun k => k.fx 5 ab) <| .g (fun k => k.eq1 11 28 rfl) (fun _ w hn k => ⟨_, v_bin rfl (k.eq1 12 29 rfl) rfl (fun _ => rfl) (r_lssK ag), rfl⟩) <| .gm (fun k => k.eq1 11 28 rfl) (fun k => k.eq1 13 30 rfl) <| .gm (fun k => k.eq1 14 31 rfl) (fun k => k.fx 5 ab) <| .g (fun k => k.eq1 14 31 rfl) (fun _ w hn k => ⟨_, v_bin rfl (k.eq1 15 32 rfl) rfl (fun _ => rfl) (r_gtrK aq), rfl⟩) <| .g (fun k => k.eq1 11 28 rfl) (fun _ w hn k => ⟨_, v_pickF rfl (k.eq1 14 31 rfl) (k.eq1 16 33 rfl), rfl⟩) <| .t (fun _ w hn k => ⟨_, v_pickT rfl (k.eq1 11 28 rfl) (k.eq1 17 34 rfl), rfl⟩) <| .m (fun k => k.eq1 18 35 rfl) <| .gm (fun k => k.eq1 19 36 rfl) (fun k => k.fx 5 ab) <| .g (fun k => k.eq1 19 36 rfl) (fun _ w hn k => ⟨_, v_bin rfl (k.eq1 20 37 rfl) rfl (fun _ => rfl) (r_neq av), rfl⟩) <| .t (fun _ w hn k => ⟨_, v_pickT rfl (k.eq1 19 36 rfl) (k.eq1 21 38 rfl), rfl⟩) <| .m (fun k => k.eq1 22 39 rfl) <| .gm (fun k => k.eq1 23 40 rfl) (fun k => k.fx 5 ab) <| .g (fun k => k.eq1 23 40 rfl) (fun _ w hn k => ⟨_, v_bin rfl (k.eq1 24 41 rfl) rfl (fun _ => rfl) (r_neq az), rfl⟩) <| .t (fun _ w hn k => ⟨_, v_pickT rfl (k.eq1 23 40 rfl) (k.eq1 25 42 rfl), rfl⟩) <| .m (fun k => k.eq1 26 43 rfl) <| .gm (fun k => k.eq1 27 44 rfl) (fun k => k.fx 5 ab) <| .g (fun k => k.eq1 27 44 rfl) (fun _ w hn k => ⟨_, v_bin rfl (k.eq1 28 45 rfl) rfl (fun _ => rfl) (r_neq aD), rfl⟩) <| .t (fun _ w hn k => ⟨_, v_pickT rfl (k.eq1 27 44 rfl) (k.eq1 29 46 rfl), rfl⟩) <| .m (fun k => k.eq1 30 47 rfl) <| .gm (fun k => k.eq1 31 48 rfl) (fun k => k.fx 5 ab) <| .g (fun k => k.eq1 31 48 rfl) (fun _ w hn k => ⟨_, v_bin rfl (k.eq1 32 49 rfl) rfl (fun _ => rfl) (r_neq aJ), rfl⟩) <| .t (fun _ w hn k => ⟨_, v_pickT rfl (k.eq1 31 48 rfl) (k.eq1 33 50 rfl), rfl⟩) .nil
 refine aftI ae ai aj fun ii ij cN cO cP hc aZ => ?_
 have fb := aZ.fx 3 al
 have fc := aZ.fx 6 am
 have fd := aZ.fx 7 an
 have fe := aZ.fx 8 ao
 have ff := aZ.ge 34 51 rfl
 refine st_nil (ak _ _ ?_)
 refine wp_cond_false ff ?_
 refine wp_skip ?_
 exact ap _ _ ⟨cN, cO, cP, fb, fc, fd, fe, (by rw [okS_xo]; unfold okbN; simp only [ac, ad, ag, aq, av, az, aD, aJ, bsm])⟩
 have bT := oF aJ
 have hb := hu.at16 i
 refine wp_g0 (.replicate 35 true) [] 54
   [ve (.int .u16 ((u.getD i 0 : Nat) : Int)), vF, vT, vT, ve (.int .u16 ((u.getD i 0 : Nat) : Int)), vT, vT, vU, vU, vT, vT, vT, ve (.int .u16 ((u.getD i 0 : Nat) : Int)), vF, vF, ve (.int .u16 ((u.getD i 0 : Nat) : Int)), vT, vT, vT, vT, ve (.int .u16 ((u.getD i 0 : Nat) : Int)), vT, vT, vT, ve (.int .u16 ((u.getD i 0 : Nat) : Int)), vT, vT, vT, ve (.int .u16 ((u.getD i 0 : Nat) : Int)), vT, vT, vT, ve (.int .u16 ((u.getD i 0 : Nat) : Int)), vT, vT] ae (.eq (.eq (.eq (.eq (.eq (.eq (.eq (.eq (.eq (.eq (.eq (.eq (.eq (.eq (.eq (.eq (.eq (.eq (.eq (.eq (.eq (.eq (.eq (.eq (.eq (.eq (.eq (.eq (.eq (.eq (.eq (.eq (.eq (.eq (.eq (.nil)))))))))))))))))))))))))))))))))))) ?_ ?_
 exact .m (fun k => k.fx 5 ab) <| .o1 (ck rfl rfl rfl (fun _ w hn k => ⟨#[.int .u16 ((u.getD i 0 : Nat) : Int)], args1 (k.eq1 0 17 rfl), fun _ => by kernel_rfl, cdigit_c (u.getD i 0) _ (by omega)⟩) fun _ => congrArg Value.bool ac) <| .t (fun _ w hn k => ⟨_, v_not rfl (k.eq1 1 18 rfl), rfl⟩) <| .m (fun k => k.eq1 2 19 rfl) <| .gm (fun k => k.eq1 3 20 rfl) (fun k => k.fx 5 ab) <| .g (fun k => k.eq1 3 20 rfl) (fun _ w hn k => ⟨_, v_bin rfl (k.eq1 4 21 rfl) rfl (fun _ => rfl) (r_lssK ad), rfl⟩) <| .gm (fun k => k.eq1 3 20 rfl) (fun k => k.eq1 5 22 rfl) <| .s (fun k => k.eq1 6 23 rfl) <| .s (fun k => k.eq1 6 23 rfl) <| .g (fun k => k.eq1 3 20 rfl) (fun _ w hn k => ⟨_, v_pickT rfl (k.eq1 6 23 rfl) rfl, rfl⟩) <| .t (fun _ w hn k => ⟨_, v_pickT rfl (k.eq1 3 20 rfl) (k.eq1 9 26 rfl), rfl⟩) <| .m (fun k => k.eq1 10 27 rfl) <| .gm (fun k => k.eq1 11 28 rfl) (fun k => k.fx 5 ab) <| .g (fun k => k.eq1 11 28 rfl) (fun _ w hn k => ⟨_, v_bin rfl (k.eq1 12 29 rfl) rfl (fun _ => rfl) (r_lssK ag), rfl⟩) <| .gm (fun k => k.eq1 11 28 rfl) (fun k => k.eq1 13 30 rfl) <| .gm (fun k => k.eq1 14 31 rfl) (fun k => k.fx 5 ab) <| .g (fun k => k.eq1 14 31 rfl) (fun _ w hn k => ⟨_, v_bin rfl (k.eq1 15 32 rfl) rfl (fun _ => rfl) (r_gtrK aq), rfl⟩) <| .g (fun k => k.eq1 11 28 rfl) (fun _ w hn k => ⟨_, v_pickF rfl (k.eq1 14 31 rfl) (k.eq1 16 33 rfl), rfl⟩) <| .t (fun _ w hn k => ⟨_, v_pickT rfl (k.eq1 11 28 rfl) (k.eq1 17 34 rfl), rfl⟩) <| .m (fun k => k.eq1 18 35 rfl) <| .gm (fun k => k.eq1 19 36 rfl) (fun k => k.fx 5 ab) <| .g (fun k => k.eq1 19 36 rfl) (fun _ w hn k => ⟨_, v_bin rfl (k.eq1 20 37 rfl) rfl (fun _ => rfl) (r_neq av), rfl⟩) <| .t (fun _ w hn k => ⟨_, v_pickT rfl (k.eq1 19 36 rfl) (k.eq1 21 38 rfl), rfl⟩) <| .m (fun k => k.eq1 22 39 rfl) <| .gm (fun k => k.eq1 23 40 rfl) (fun k => k.fx 5 ab) <| .g (fun k => k.eq1 23 40 rfl) (fun _ w hn k => ⟨_, v_bin rfl (k.eq1 24 41 rfl) rfl (fun _ => rfl) (r_neq az), rfl⟩) <| .t (fun _ w hn k => ⟨_, v_pickT rfl (k.eq1 23 40 rfl) (k.eq1 25 42 rfl), rfl⟩) <| .m (fun k => k.eq1 26 43 rfl) <| .gm (fun k => k.eq1 27 44 rfl) (fun k => k.fx 5 ab) <| .g (fun k => k.eq1 27 44 rfl) (fun _ w hn k => ⟨_, v_bin rfl (k.eq1 28 45 rfl) rfl (fun _ => rfl) (r_neq aD), rfl⟩) <| .t (fun _ w hn k => ⟨_, v_pickT rfl (k.eq1 27 44 rfl) (k.eq1 29 46 rfl), rfl⟩) <| .m (fun k => k.eq1 30 47 rfl) <| .gm (fun k => k.eq1 31 48 rfl) (fun k => k.fx 5 ab) <| .g (fun k => k.eq1 31 48 rfl) (fun _ w hn k => ⟨_, v_bin rfl (k.eq1 32 49 rfl) rfl (fun _ => rfl) (r_neq aJ), rfl⟩) <| .t (fun _ w hn k => ⟨_, v_pickT rfl (k.eq1 31 48 rfl) (k.eq1 33 50 rfl), rfl⟩) .nil
 refine aftI ae ai aj fun ik il bt cQ cR hd a1 => ?_
 have im := a1.fx 3 al
 have io := a1.fx 6 am
 have ip := a1.fx 7 an
 have iq := a1.fx 8 ao
 have fg := a1.ge 34 51 rfl
 refine st_nil (ak _ _ ?_)
 refine wp_cond_true fg ?_
 refine wp_seq_k fun ir cS => ?_
 refine wp_g0 [true] [] 54
   [vF] bt (.eq (.nil)) ?_ ?_
 exact .t (fun _ w hn k => ⟨_, v_assign rfl rfl, rfl⟩) .nil
 refine aftI bt cQ cR fun it iu hf cT cU hg cV => ?_
 have fh := cV.ge 0 2 rfl
 refine st_nil (cS _ _ ?_)
 refine wp_ret (ret_k cT (v := .bool false) (res_t rfl fh _) ?_)
 exact ⟨by rw [show numericN ⟨#[120, 88, 111, 79]⟩ u = false from by unfold numericN; rw [all_bad (i := i) (by omega) (by rw [okS_xo]; unfold okbN; simp only [ac, ad, ag, aq, av, az, aD, aJ, bsm]), Bool.false_and]], cU⟩
 have bJ := oF ad
 rcases bc (decide (((u.getD i 0 : Nat) : Int) ≤ 102)) with af | af
 have bU := oT af
 have hb := hu.at16 i
 refine wp_g0 (.replicate 35 true) [] 54
   [ve (.int .u16 ((u.getD i 0 : Nat) : Int)), vF, vT, vT, ve (.int .u16 ((u.getD i 0 : Nat) : Int)), vF, vF, ve (.int .u16 ((u.getD i 0 : Nat) : Int)), vF, vF, vF, vF, vU, vU, vU, vU, vU, vU, vF, vF, vU, vU, vF, vF, vU, vU, vF, vF, vU, vU, vF, vF, vU, vU, vF] ae (.eq (.eq (.eq (.eq (.eq (.eq (.eq (.eq (.eq (.eq (.eq (.eq (.eq (.eq (.eq (.eq (.eq (.eq (.eq (.eq (.eq (.eq (.eq (.eq (.eq (.eq (.eq (.eq (.eq (.eq (.eq (.eq (.eq (.eq (.eq (.nil)))))))))))))))))))))))))))))))))))) ?_ ?_
 exact .m (fun k => k.fx 5 ab) <| .o1 (ck rfl rfl rfl (fun _ w hn k => ⟨#[.int .u16 ((u.getD i 0 : Nat) : Int)], args1 (k.eq1 0 17 rfl), fun _ => by kernel_rfl, cdigit_c (u.getD i 0) _ (by omega)⟩) fun _ => congrArg Value.bool ac) <| .t (fun _ w hn k => ⟨_, v_not rfl (k.eq1 1 18 rfl), rfl⟩) <| .m (fun k => k.eq1 2 19 rfl) <| .gm (fun k => k.eq1 3 20 rfl) (fun k => k.fx 5 ab) <| .g (fun k => k.eq1 3 20 rfl) (fun _ w hn k => ⟨_, v_bin rfl (k.eq1 4 21 rfl) rfl (fun _ => rfl) (r_lssK ad), rfl⟩) <| .gm (fun k => k.eq1 3 20 rfl) (fun k => k.eq1 5 22 rfl) <| .gm (fun k => k.eq1 6 23 rfl) (fun k => k.fx 5 ab) <| .g (fun k => k.eq1 6 23 rfl) (fun _ w hn k => ⟨_, v_bin rfl (k.eq1 7 24 rfl) rfl (fun _ => rfl) (r_gtrK af), rfl⟩) <| .g (fun k => k.eq1 3 20 rfl) (fun _ w hn k => ⟨_, v_pickF rfl (k.eq1 6 23 rfl) (k.eq1 8 25 rfl), rfl⟩) <| .t (fun _ w hn k => ⟨_, v_pickT rfl (k.eq1 3 20 rfl) (k.eq1 9 26 rfl), rfl⟩) <| .m (fun k => k.eq1 10 27 rfl) <| .s (fun k => k.eq1 11 28 rfl) <| .s (fun k => k.eq1 11 28 rfl) <| .s (fun k => k.eq1 11 28 rfl) <| .o1 (su rfl rfl rfl (fun _ _ _ k => k.eq1 14 31 rfl) (fun _ => rfl)) <| .o1 (su rfl rfl rfl (fun _ _ _ k => k.eq1 14 31 rfl) (fun _ => rfl)) <| .s (fun k => k.eq1 11 28 rfl) <| .t (fun _ w hn k => ⟨_, v_pickF rfl (k.eq1 11 28 rfl) rfl, rfl⟩) <| .m (fun k => k.eq1 18 35 rfl) <| .s (fun k => k.eq1 19 36 rfl) <| .s (fun k => k.eq1 19 36 rfl) <| .t (fun _ w hn k => ⟨_, v_pickF rfl (k.eq1 19 36 rfl) rfl, rfl⟩) <| .m (fun k => k.eq1 22 39 rfl) <| .s (fun k => k.eq1 23 40 rfl) <| .s (fun k => k.eq1 23 40 rfl) <| .t (fun _ w hn k => ⟨_, v_pickF rfl (k.eq1 23 40 rfl) rfl, rfl⟩) <| .m (fun k => k.eq1 26 43 rfl) <| .s (fun k => k.eq1 27 44 rfl) <| .s (fun k => k.eq1 27 44 rfl) <| .t (fun _ w hn k => ⟨_, v_pickF rfl (k.eq1 27 44 rfl) rfl, rfl⟩) <| .m (fun k => k.eq1 30 47 rfl) <| .s (fun k => k.eq1 31 48 rfl) <| .s (fun k => k.eq1 31 48 rfl) <| .t (fun _ w hn k => ⟨_, v_pickF rfl (k.eq1 31 48 rfl) rfl, rfl⟩) .nil
 refine aftI ae ai aj fun iw ix cW cX cY hh a3 => ?_
 have fi := a3.fx 3 al
 have fj := a3.fx 6 am
 have fk := a3.fx 7 an
 have fl := a3.fx 8 ao
 have fm := a3.ge 34 51 rfl
 refine st_nil (ak _ _ ?_)
 refine wp_cond_false fm ?_
 refine wp_skip ?_
 exact ap _ _ ⟨cW, cX, cY, fi, fj, fk, fl, (by rw [okS_xo]; unfold okbN; simp only [ac, ad, af, bsm])⟩
 have bU := oF af
 rcases bc (decide (((u.getD i 0 : Nat) : Int) < 65)) with ah | ah
 have bV := oT ah
 rcases bc (decide (((u.getD i 0 : Nat) : Int) = 120)) with aw | aw
 have bW := oT aw
 have hb := hu.at16 i
 refine wp_g0 (.replicate 35 true) [] 54
   [ve (.int .u16 ((u.getD i 0 : Nat) : Int)), vF, vT, vT, ve (.int .u16 ((u.getD i 0 : Nat) : Int)), vF, vF, ve (.int .u16 ((u.getD i 0 : Nat) : Int)), vT, vT, vT, vT, ve (.int .u16 ((u.getD i 0 : Nat) : Int)), vT, vT, vU, vU, vT, vT, vT, ve (.int .u16 ((u.getD i 0 : Nat) : Int)), vF, vF, vF, vU, vU, vF, vF, vU, vU, vF, vF, vU, vU, vF] ae (.eq (.eq (.eq (.eq (.eq (.eq (.eq (.eq (.eq (.eq (.eq (.eq (.eq (.eq (.eq (.eq (.eq (.eq (.eq (.eq (.eq (.eq (.eq (.eq (.eq (.eq (.eq (.eq (.eq (.eq (.eq (.eq (.eq (.eq (.eq (.nil)))))))))))))))))))))))))))))))))))) ?_ ?_
 exact .m (fun k => k.fx 5 ab) <| .o1 (ck rfl rfl rfl (fun _ w hn k => ⟨#[.int .u16 ((u.getD i 0 : Nat) : Int)], args1 (k.eq1 0 17 rfl), fun _ => by kernel_rfl, cdigit_c (u.getD i 0) _ (by omega)⟩) fun _ => congrArg Value.bool ac) <| .t (fun _ w hn k => ⟨_, v_not rfl (k.eq1 1 18 rfl), rfl⟩) <| .m (fun k => k.eq1 2 19 rfl) <| .gm (fun k => k.eq1 3 20 rfl) (fun k => k.fx 5 ab) <| .g (fun k => k.eq1 3 20 rfl) (fun _ w hn k => ⟨_, v_bin rfl (k.eq1 4 21 rfl) rfl (fun _ => rfl) (r_lssK ad), rfl⟩) <| .gm (fun k => k.eq1 3 20 rfl) (fun k => k.eq1 5 22 rfl) <| .gm (fun k => k.eq1 6 23 rfl) (fun k => k.fx 5 ab) <| .g (fun k => k.eq1 6 23 rfl) (fun _ w hn k => ⟨_, v_bin rfl (k.eq1 7 24 rfl) rfl (fun _ => rfl) (r_gtrK af), rfl⟩) <| .g (fun k => k.eq1 3 20 rfl) (fun _ w hn k => ⟨_, v_pickF rfl (k.eq1 6 23 rfl) (k.eq1 8 25 rfl), rfl⟩) <| .t (fun _ w hn k => ⟨_, v_pickT rfl (k.eq1 3 20 rfl) (k.eq1 9 26 rfl), rfl⟩) <| .m (fun k => k.eq1 10 27 rfl) <| .gm (fun k => k.eq1 11 28 rfl) (fun k => k.fx 5 ab) <| .g (fun k => k.eq1 11 28 rfl) (fun _ w hn k => ⟨_, v_bin rfl (k.eq1 12 29 rfl) rfl (fun _ => rfl) (r_lssK ah), rfl⟩) <| .gm (fun k => k.eq1 11 28 rfl) (fun k => k.eq1 13 30 rfl) <| .s (fun k => k.eq1 14 31 rfl) <| .s (fun k => k.eq1 14 31 rfl) <| .g (fun k => k.eq1 11 28 rfl) (fun _ w hn k => ⟨_, v_pickT rfl (k.eq1 14 31 rfl) rfl, rfl⟩) <| .t (fun _ w hn k => ⟨_, v_pickT rfl (k.eq1 11 28 rfl) (k.eq1 17 34 rfl), rfl⟩) <| .m (fun k => k.eq1 18 35 rfl) <| .gm (fun k => k.eq1 19 36 rfl) (fun k => k.fx 5 ab) <| .g (fun k => k.eq1 19 36 rfl) (fun _ w hn k => ⟨_, v_bin rfl (k.eq1 20 37 rfl) rfl (fun _ => rfl) (r_neq aw), rfl⟩) <| .t (fun _ w hn k => ⟨_, v_pickT rfl (k.eq1 19 36 rfl) (k.eq1 21 38 rfl), rfl⟩) <| .m (fun k => k.eq1 22 39 rfl) <| .s (fun k => k.eq1 23 40 rfl) <| .s (fun k => k.eq1 23 40 rfl) <| .t (fun _ w hn k => ⟨_, v_pickF rfl (k.eq1 23 40 rfl) rfl, rfl⟩) <| .m (fun k => k.eq1 26 43 rfl) <| .s (fun k => k.eq1 27 44 rfl) <| .s (fun k => k.eq1 27 44 rfl) <| .t (fun _ w hn k => ⟨_, v_pickF rfl (k.eq1 27 44 rfl) rfl, rfl⟩) <| .m (fun k => k.eq1 30 47 rfl) <| .s (fun k => k.eq1 31 48 rfl) <| .s (fun k => k.eq1 31 48 rfl) <| .t (fun _ w hn k => ⟨_, v_pickF rfl (k.eq1 31 48 rfl) rfl, rfl⟩) .nil
 refine aftI ae ai aj fun iy iz cZ c0 c1 hj a4 => ?_
 have fn := a4.fx 3 al
 have fo := a4.fx 6 am
 have fp := a4.fx 7 an
 have fq := a4.fx 8 ao
 have fr := a4.ge 34 51 rfl
 refine st_nil (ak _ _ ?_)
 refine wp_cond_false fr ?_
 refine wp_skip ?_
 exact ap _ _ ⟨cZ, c0, c1, fn, fo, fp, fq, (by rw [okS_xo]; unfold okbN; simp only [ac, ad, af, ah, aw, bsm])⟩
 have bW := oF aw
 rcases bc (decide (((u.getD i 0 : Nat) : Int) = 88)) with aA | aA
 have bX := oT aA
 have hb := hu.at16 i
 refine wp_g0 (.replicate 35 true) [] 54
   [ve (.int .u16 ((u.getD i 0 : Nat) : Int)), vF, vT, vT, ve (.int .u16 ((u.getD i 0 : Nat) : Int)), vF, vF, ve (.int .u16 ((u.getD i 0 : Nat) : Int)), vT, vT, vT, vT, ve (.int .u16 ((u.getD i 0 : Nat) : Int)), vT, vT, vU, vU, vT, vT, vT, ve (.int .u16 ((u.getD i 0 : Nat) : Int)), vT, vT, vT, ve (.int .u16 ((u.getD i 0 : Nat) : Int)), vF, vF, vF, vU, vU, vF, vF, vU, vU, vF] ae (.eq (.eq (.eq (.eq (.eq (.eq (.eq (.eq (.eq (.eq (.eq (.eq (.eq (.eq (.eq (.eq (.eq (.eq (.eq (.eq (.eq (.eq (.eq (.eq (.eq (.eq (.eq (.eq (.eq (.eq (.eq (.eq (.eq (.eq (.eq (.nil)))))))))))))))))))))))))))))))))))) ?_ ?_
 exact .m (fun k => k.fx 5 ab) <| .o1 (ck rfl rfl rfl (fun _ w hn k => ⟨#[.int .u16 ((u.getD i 0 : Nat) : Int)], args1 (k.eq1 0 17 rfl), fun _ => by kernel_rfl, cdigit_c (u.getD i 0) _ (by omega)⟩) fun _ => congrArg Value.bool ac) <| .t (fun _ w hn k => ⟨_, v_not rfl (k.eq1 1 18 rfl), rfl⟩) <| .m (fun k => k.eq1 2 19 rfl) <| .gm (fun k => k.eq1 3 20 rfl) (fun k => k.fx 5 ab) <| .g (fun k => k.eq1 3 20 rfl) (fun _ w hn k => ⟨_, v_bin rfl (k.eq1 4 21 rfl) rfl (fun _ => rfl) (r_lssK ad), rfl⟩) <| .gm (fun k => k.eq1 3 20 rfl) (fun k => k.eq1 5 22 rfl) <| .gm (fun k => k.eq1 6 23 rfl) (fun k => k.fx 5 ab) <| .g (fun k => k.eq1 6 23 rfl) (fun _ w hn k => ⟨_, v_bin rfl (k.eq1 7 24 rfl) rfl (fun _ => rfl) (r_gtrK af), rfl⟩) <| .g (fun k => k.eq1 3 20 rfl) (fun _ w hn k => ⟨_, v_pickF rfl (k.eq1 6 23 rfl) (k.eq1 8 25 rfl), rfl⟩) <| .t (fun _ w hn k => ⟨_, v_pickT rfl (k.eq1 3 20 rfl) (k.eq1 9 26 rfl), rfl⟩) <| .m (fun k => k.eq1 10 27 rfl) <| .gm (fun k => k.eq1 11 28 rfl) (fun k => k.fx 5 ab) <| .g (fun k => k.eq1 11 28 rfl) (fun _ w hn k => ⟨_, v_bin rfl (k.eq1 12 29 rfl) rfl (fun _ => rfl) (r_lssK ah), rfl⟩) <| .gm (fun k => k.eq1 11 28 rfl) (fun k => k.eq1 13 30 rfl) <| .s (fun k => k.eq1 14 31 rfl) <| .s (fun k => k.eq1 14 31 rfl) <| .g (fun k => k.eq1 11 28 rfl) (fun _ w hn k => ⟨_, v_pickT rfl (k.eq1 14 31 rfl) rfl, rfl⟩) <| .t (fun _ w hn k => ⟨_, v_pickT rfl (k.eq1 11 28 rfl) (k.eq1 17 34 rfl), rfl⟩) <| .m (fun k => k.eq1 18 35 rfl) <| .gm (fun k => k.eq1 19 36 rfl) (fun k => k.fx 5 ab) <| .g (fun k => k.eq1 19 36 rfl) (fun _ w hn k => ⟨_, v_bin rfl (k.eq1 20 37 rfl) rfl (fun _ => rfl) (r_neq aw), rfl⟩) <| .t (fun _ w hn k => ⟨_, v_pickT rfl (k.eq1 19 36 rfl) (k.eq1 21 38 rfl), rfl⟩) <| .m (fun k => k.eq1 22 39 rfl) <| .gm (fun k => k.eq1 23 40 rfl) (fun k => k.fx 5 ab) <| .g (fun k => k.eq1 23 40 rfl) (fun _ w hn k => ⟨_, v_bin rfl (k.eq1 24 41 rfl) rfl (fun _ => rfl) (r_neq aA), rfl⟩) <| .t (fun _ w hn k => ⟨_, v_pickT rfl (k.eq1 23 40 rfl) (k.eq1 25 42 rfl), rfl⟩) <| .m (fun k => k.eq1 26 43 rfl) <| .s (fun k => k.eq1 27 44 rfl) <| .s (fun k => k.eq1 27 44 rfl) <| .t (fun _ w hn k => ⟨_, v_pickF rfl (k.eq1 27 44 rfl) rfl, rfl⟩) <| .m (fun k => k.eq1 30 47 rfl) <| .s (fun k => k.eq1 31 48 rfl) <| .s (fun k => k.eq1 31 48 rfl) <| .t (fun _ w hn k => ⟨_, v_pickF rfl (k.eq1 31 48 rfl) rfl, rfl⟩) .nil
 refine aftI ae ai aj fun iA iB c2 c3 c4 hk a5 => ?_
 have fs := a5.fx 3 al
 have ft := a5.fx 6 am
 have fu := a5.fx 7 an
 have fv := a5.fx 8 ao
 have fw := a5.ge 34 51 rfl
 refine st_nil (ak _ _ ?_)
 refine wp_cond_false fw ?_
 refine wp_skip ?_
 exact ap _ _ ⟨c2, c3, c4, fs, ft, fu, fv, (by rw [okS_xo]; unfold okbN; simp only [ac, ad, af, ah, aw, aA, bsm])⟩
 have bX := oF aA
 rcases bc (decide (((u.getD i 0 : Nat) : Int) = 111)) with aE | aE
 have bY := oT aE
 have hb := hu.at16 i
 refine wp_g0 (.replicate 35 true) [] 54
   [ve (.int .u16 ((u.getD i 0 : Nat) : Int)), vF, vT, vT, ve (.int .u16 ((u.getD i 0 : Nat) : Int)), vF, vF, ve (.int .u16 ((u.getD i 0 : Nat) : Int)), vT, vT, vT, vT, ve (.int .u16 ((u.getD i 0 : Nat) : Int)), vT, vT, vU, vU, vT, vT, vT, ve (.int .u16 ((u.getD i 0 : Nat) : Int)), vT, vT, vT, ve (.int .u16 ((u.getD i 0 : Nat) : Int)), vT, vT, vT, ve (.int .u16 ((u.getD i 0 : Nat) : Int)), vF, vF, vF, vU, vU, vF] ae (.eq (.eq (.eq (.eq (.eq (.eq (.eq (.eq (.eq (.eq (.eq (.eq (.eq (.eq (.eq (.eq (.eq (.eq (.eq (.eq (.eq (.eq (.eq (.eq (.eq (.eq (.eq (.eq (.eq (.eq (.eq (.eq (.eq (.eq (.eq (.nil)))))))))))))))))))))))))))))))))))) ?_ ?_
 exact .m (fun k => k.fx 5 ab) <| .o1 (ck rfl rfl rfl (fun _ w hn k => ⟨#[.int .u16 ((u.getD i 0 : Nat) : Int)], args1 (k.eq1 0 17 rfl), fun _ => by kernel_rfl, cdigit_c (u.getD i 0) _ (by omega)⟩) fun _ => congrArg Value.bool ac) <| .t (fun _ w hn k => ⟨_, v_not rfl (k.eq1 1 18 rfl), rfl⟩) <| .m (fun k => k.eq1 2 19 rfl) <| .gm (fun k => k.eq1 3 20 rfl) (fun k => k.fx 5 ab) <| .g (fun k => k.eq1 3 20 rfl) (fun _ w hn k => ⟨_, v_bin rfl (k.eq1 4 21 rfl) rfl (fun _ => rfl) (r_lssK ad), rfl⟩) <| .gm (fun k => k.eq1 3 20 rfl) (fun k => k.eq1 5 22 rfl) <| .gm (fun k => k.eq1 6 23 rfl) (fun k => k.fx 5 ab) <| .g (fun k => k.eq1 6 23 rfl) (fun _ w hn k => ⟨_, v_bin rfl (k.eq1 7 24 rfl) rfl (fun _ => rfl) (r_gtrK af), rfl⟩) <| .g (fun k => k.eq1 3 20 rfl) (fun _ w hn k => ⟨_, v_pickF rfl (k.eq1 6 23 rfl) (k.eq1 8 25 rfl), rfl⟩) <| .t (fun _ w hn k => ⟨_, v_pickT rfl (k.eq1 3 20 rfl) (k.eq1 9 26 rfl), rfl⟩) <| .m (fun k => k.eq1 10 27 rfl) <| .gm (fun k => k.eq1 11 28 rfl) (fun k => k.fx 5 ab) <| .g (fun k => k.eq1 11 28 rfl) (fun _ w hn k => ⟨_, v_bin rfl (k.eq1 12 29 rfl) rfl (fun _ => rfl) (r_lssK ah), rfl⟩) <| .gm (fun k => k.eq1 11 28 rfl) (fun k => k.eq1 13 30 rfl) <| .s (fun k => k.eq1 14 31 rfl) <| .s (fun k => k.eq1 14 31 rfl) <| .g (fun k => k.eq1 11 28 rfl) (fun _ w hn k => ⟨_, v_pickT rfl (k.eq1 14 31 rfl) rfl, rfl⟩) <| .t (fun _ w hn k => ⟨_, v_pickT rfl (k.eq1 11 28 rfl) (k.eq1 17 34 rfl), rfl⟩) <| .m (fun k => k.eq1 18 35 rfl) <| .gm (fun k => k.eq1 19 36 rfl) (fun k => k.fx 5 ab) <| .g (fun k => k.eq1 19 36 rfl) (fun _ w hn k => ⟨_, v_bin rfl (k.eq1 20 37 rfl) rfl (fun _ => rfl) (r_neq aw), rfl⟩) <| .t (fun _ w hn k => ⟨_, v_pickT rfl (k.eq1 19 36 rfl) (k.eq1 21 38 rfl), rfl⟩) <| .m (fun k => k.eq1 22 39 rfl) <| .gm (fun k => k.eq1 23 40 rfl) (fun k => k.fx 5 ab) <| .g (fun k => k.eq1 23 40 rfl) (fun _ w hn k => ⟨_, v_bin rfl (k.eq1 24 41 rfl) rfl (fun _ => rfl) (r_neq aA), rfl⟩) <| .t (fun _ w hn k => ⟨_, v_pickT rfl (k.eq1 23 40 rfl) (k.eq1 25 42 rfl), rfl⟩) <| .m (fun k => k.eq1 26 43 rfl) <| .gm (fun k => k.eq1 27 44 rfl) (fun k => k.fx 5 ab) <| .g (fun k => k.eq1 27 44 rfl) (fun _ w hn k => ⟨_, v_bin rfl (k.eq1 28 45 rfl) rfl (fun _ => rfl) (r_neq aE), rfl⟩) <| .t (fun _ w hn k => ⟨_, v_pickT rfl (k.eq1 27 44 rfl) (k.eq1 29 46 rfl), rfl⟩) <| .m (fun k => k.eq1 30 47 rfl) <| .s (fun k => k.eq1 31 48 rfl) <| .s (fun k => k.eq1 31 48 rfl) <| .t (fun _ w hn k => ⟨_, v_pickF rfl (k.eq1 31 48 rfl) rfl, rfl⟩) .nil
 refine aftI ae ai aj fun iC iD c5 c6 c7 hl a6 => ?_
 have fy := a6.fx 3 al
 have fz := a6.fx 6 am
 have fA := a6.fx 7 an
 have fB := a6.fx 8 ao
 have fC := a6.ge 34 51 rfl
 refine st_nil (ak _ _ ?_)
 refine wp_cond_false fC ?_
 refine wp_skip ?_
 exact ap _ _ ⟨c5, c6, c7, fy, fz, fA, fB, (by rw [okS_xo]; unfold okbN; simp only [ac, ad, af, ah, aw, aA, aE, bsm])⟩
 have bY := oF aE
 rcases bc (decide (((u.getD i 0 : Nat) : Int) = 79)) with aK | aK
 have bZ := oT aK
 have hb := hu.at16 i
 refine wp_g0 (.replicate 35 true) [] 54
   [ve (.int .u16 ((u.getD i 0 : Nat) : Int)), vF, vT, vT, ve (.int .u16 ((u.getD i 0 : Nat) : Int)), vF, vF, ve (.int .u16 ((u.getD i 0 : Nat) : Int)), vT, vT, vT, vT, ve (.int .u16 ((u.getD i 0 : Nat) : Int)), vT, vT, vU, vU, vT, vT, vT, ve (.int .u16 ((u.getD i 0 : Nat) : Int)), vT, vT, vT, ve (.int .u16 ((u.getD i 0 : Nat) : Int)), vT, vT, vT, ve (.int .u16 ((u.getD i 0 : Nat) : Int)), vT, vT, vT, ve (.int .u16 ((u.getD i 0 : Nat) : Int)), vF, vF] ae (.eq (.eq (.eq (.eq (.eq (.eq (.eq (.eq (.eq (.eq (.eq (.eq (.eq (.eq (.eq (.eq (.eq (.eq (.eq (.eq (.eq (.eq (.eq (.eq (.eq (.eq (.eq (.eq (.eq (.eq (.eq (.eq (.eq (.eq (.eq (.nil)))))))))))))))))))))))))))))))))))) ?_ ?_
 exact .m (fun k => k.fx 5 ab) <| .o1 (ck rfl rfl rfl (fun _ w hn k => ⟨#[.int .u16 ((u.getD i 0 : Nat) : Int)], args1 (k.eq1 0 17 rfl), fun _ => by kernel_rfl, cdigit_c (u.getD i 0) _ (by omega)⟩) fun _ => congrArg Value.bool ac) <| .t (fun _ w hn k => ⟨_, v_not rfl (k.eq1 1 18 rfl), rfl⟩) <| .m (fun k => k.eq1 2 19 rfl) <| .gm (fun k => k.eq1 3 20 rfl) (fun k => k.fx 5 ab) <| .g (fun k => k.eq1 3 20 rfl) (fun _ w hn k => ⟨_, v_bin rfl (k.eq1 4 21 rfl) rfl (fun _ => rfl) (r_lssK ad), rfl⟩) <| .gm (fun k => k.eq1 3 20 rfl) (fun k => k.eq1 5 22 rfl) <| .gm (fun k => k.eq1 6 23 rfl) (fun k => k.fx 5 ab) <| .g (fun k => k.eq1 6 23 rfl) (fun _ w hn k => ⟨_, v_bin rfl (k.eq1 7 24 rfl) rfl (fun _ => rfl) (r_gtrK af), rfl⟩) <| .g (fun k => k.eq1 3 20 rfl) (fun _ w hn k => ⟨_, v_pickF rfl (k.eq1 6 23 rfl) (k.eq1 8 25 rfl), rfl⟩) <| .t (fun _ w hn k => ⟨_, v_pickT rfl (k.eq1 3 20 rfl) (k.eq1 9 26 rfl), rfl⟩) <| .m (fun k => k.eq1 10 27 rfl) <| .gm (fun k => k.eq1 11 28 rfl) (fun k => k.fx 5 ab) <| .g (fun k => k.eq1 11 28 rfl) (fun _ w hn k => ⟨_, v_bin rfl (k.eq1 12 29 rfl) rfl (fun _ => rfl) (r_lssK ah), rfl⟩) <| .gm (fun k => k.eq1 11 28 rfl) (fun k => k.eq1 13 30 rfl) <| .s (fun k => k.eq1 14 31 rfl) <| .s (fun k => k.eq1 14 31 rfl) <| .g (fun k => k.eq1 11 28 rfl) (fun _ w hn k => ⟨_, v_pickT rfl (k.eq1 14 31 rfl) rfl, rfl⟩) <| .t (fun _ w hn k => ⟨_, v_pickT rfl (k.eq1 11 28 rfl) (k.eq1 17 34 rfl), rfl⟩) <| .m (fun k => k.eq1 18 35 rfl) <| .gm (fun k => k.eq1 19 36 rfl) (fun k => k.fx 5 ab) <| .g (fun k => k.eq1 19 36 rfl) (fun _ w hn k => ⟨_, v_bin rfl (k.eq1 20 37 rfl) rfl (fun _ => rfl) (r_neq aw), rfl⟩) <| .t (fun _ w hn k => ⟨_, v_pickT rfl (k.eq1 19 36 rfl) (k.eq1 21 38 rfl), rfl⟩) <| .m (fun k => k.eq1 22 39 rfl) <| .gm (fun k => k.eq1 23 40 rfl) (fun k => k.fx 5 ab) <| .g (fun k => k.eq1 23 40 rfl) (fun _ w hn k => ⟨_, v_bin rfl (k.eq1 24 41 rfl) rfl (fun _ => rfl) (r_neq aA), rfl⟩) <| .t (fun _ w hn k => ⟨_, v_pickT rfl (k.eq1 23 40 rfl) (k.eq1 25 42 rfl), rfl⟩) <| .m (fun k => k.eq1 26 43 rfl) <| .gm (fun k => k.eq1 27 44 rfl) (fun k => k.fx 5 ab) <| .g (fun k => k.eq1 27 44 rfl) (fun _ w hn k => ⟨_, v_bin rfl (k.eq1 28 45 rfl) rfl (fun _ => rfl) (r_neq aE), rfl⟩) <| .t (fun _ w hn k => ⟨_, v_pickT rfl (k.eq1 27 44 rfl) (k.eq1 29 46 rfl), rfl⟩) <| .m (fun k => k.eq1 30 47 rfl) <| .gm (fun k => k.eq1 31 48 rfl) (fun k => k.fx 5 ab) <| .g (fun k => k.eq1 31 48 rfl) (fun _ w hn k => ⟨_, v_bin rfl (k.eq1 32 49 rfl) rfl (fun _ => rfl) (r_neq aK), rfl⟩) <| .t (fun _ w hn k => ⟨_, v_pickT rfl (k.eq1 31 48 rfl) (k.eq1 33 50 rfl), rfl⟩) .nil
 refine aftI ae ai aj fun iE iF c8 c9 da hm a7 => ?_
 have fD := a7.fx 3 al
 have fE := a7.fx 6 am
 have fF := a7.fx 7 an
 have fG := a7.fx 8 ao
 have fH := a7.ge 34 51 rfl
 refine st_nil (ak _ _ ?_)
 refine wp_cond_false fH ?_
 refine wp_skip ?_
 exact ap _ _ ⟨c8, c9, da, fD, fE, fF, fG, (by rw [okS_xo]; unfold okbN; simp only [ac, ad, af, ah, aw, aA, aE, aK, bsm])⟩
 have bZ := oF aK
 have hb := hu.at16 i
 refine wp_g0 (.replicate 35 true) [] 54
   [ve (.int .u16 ((u.getD i 0 : Nat) : Int)), vF, vT, vT, ve (.int .u16 ((u.getD i 0 : Nat) : Int)), vF, vF, ve (.int .u16 ((u.getD i 0 : Nat) : Int)), vT, vT, vT, vT, ve (.int .u16 ((u.getD i 0 : Nat) : Int)), vT, vT, vU, vU, vT, vT, vT, ve (.int .u16 ((u.getD i 0 : Nat) : Int)), vT, vT, vT, ve (.int .u16 ((u.getD i 0 : Nat) : Int)), vT, vT, vT, ve (.int .u16 ((u.getD i 0 : Nat) : Int)), vT, vT, vT, ve (.int .u16 ((u.getD i 0 : Nat) : Int)), vT, vT] ae (.eq (.eq (.eq (.eq (.eq (.eq (.eq (.eq (.eq (.eq (.eq (.eq (.eq (.eq (.eq (.eq (.eq (.eq (.eq (.eq (.eq (.eq (.eq (.eq (.eq (.eq (.eq (.eq (.eq (.eq (.eq (.eq (.eq (.eq (.eq (.nil)))))))))))))))))))))))))))))))))))) ?_ ?_
 exact .m (fun k => k.fx 5 ab) <| .o1 (ck rfl rfl rfl (fun _ w hn k => ⟨#[.int .u16 ((u.getD i 0 : Nat) : Int)], args1 (k.eq1 0 17 rfl), fun _ => by kernel_rfl, cdigit_c (u.getD i 0) _ (by omega)⟩) fun _ => congrArg Value.bool ac) <| .t (fun _ w hn k => ⟨_, v_not rfl (k.eq1 1 18 rfl), rfl⟩) <| .m (fun k => k.eq1 2 19 rfl) <| .gm (fun k => k.eq1 3 20 rfl) (fun k => k.fx 5 ab) <| .g (fun k => k.eq1 3 20 rfl) (fun _ w hn k => ⟨_, v_bin rfl (k.eq1 4 21 rfl) rfl (fun _ => rfl) (r_lssK ad), rfl⟩) <| .gm (fun k => k.eq1 3 20 rfl) (fun k => k.eq1 5 22 rfl) <| .gm (fun k => k.eq1 6 23 rfl) (fun k => k.fx 5 ab) <| .g (fun k => k.eq1 6 23 rfl) (fun _ w hn k => ⟨_, v_bin rfl (k.eq1 7 24 rfl) rfl (fun _ => rfl) (r_gtrK af), rfl⟩) <| .g (fun k => k.eq1 3 20 rfl) (fun _ w hn k => ⟨_, v_pickF rfl (k.eq1 6 23 rfl) (k.eq1 8 25 rfl), rfl⟩) <| .t (fun _ w hn k => ⟨_, v_pickT rfl (k.eq1 3 20 rfl) (k.eq1 9 26 rfl), rfl⟩) <| .m (fun k => k.eq1 10 27 rfl) <| .gm (fun k => k.eq1 11 28 rfl) (fun k => k.fx 5 ab) <| .g (fun k => k.eq1 11 28 rfl) (fun _ w hn k => ⟨_, v_bin rfl (k.eq1 12 29 rfl) rfl (fun _ => rfl) (r_lssK ah), rfl⟩) <| .gm (fun k => k.eq1 11 28 rfl) (fun k => k.eq1 13 30 rfl) <| .s (fun k => k.eq1 14 31 rfl) <| .s (fun k => k.eq1 14 31 rfl) <| .g (fun k => k.eq1 11 28 rfl) (fun _ w hn k => ⟨_, v_pickT rfl (k.eq1 14 31 rfl) rfl, rfl⟩) <| .t (fun _ w hn k => ⟨_, v_pickT rfl (k.eq1 11 28 rfl) (k.eq1 17 34 rfl), rfl⟩) <| .m (fun k => k.eq1 18 35 rfl) <| .gm (fun k => k.eq1 19 36 rfl) (fun k => k.fx 5 ab) <| .g (fun k => k.eq1 19 36 rfl) (fun _ w hn k => ⟨_, v_bin rfl (k.eq1 20 37 rfl) rfl (fun _ => rfl) (r_neq aw), rfl⟩) <| .t (fun _ w hn k => ⟨_, v_pickT rfl (k.eq1 19 36 rfl) (k.eq1 21 38 rfl), rfl⟩) <| .m (fun k => k.eq1 22 39 rfl) <| .gm (fun k => k.eq1 23 40 rfl) (fun k => k.fx 5 ab) <| .g (fun k => k.eq1 23 40 rfl) (fun _ w hn k => ⟨_, v_bin rfl (k.eq1 24 41 rfl) rfl (fun _ => rfl) (r_neq aA), rfl⟩) <| .t (fun _ w hn k => ⟨_, v_pickT rfl (k.eq1 23 40 rfl) (k.eq1 25 42 rfl), rfl⟩) <| .m (fun k => k.eq1 26 43 rfl) <| .gm (fun k => k.eq1 27 44 rfl) (fun k => k.fx 5 ab) <| .g (fun k => k.eq1 27 44 rfl) (fun _ w hn k => ⟨_, v_bin rfl (k.eq1 28 45 rfl) rfl (fun _ => rfl) (r_neq aE), rfl⟩) <| .t (fun _ w hn k => ⟨_, v_pickT rfl (k.eq1 27 44 rfl) (k.eq1 29 46 rfl), rfl⟩) <| .m (fun k => k.eq1 30 47 rfl) <| .gm (fun k => k.eq1 31 48 rfl) (fun k => k.fx 5 ab) <| .g (fun k => k.eq1 31 48 rfl) (fun _ w hn k => ⟨_, v_bin rfl (k.eq1 32 49 rfl) rfl (fun _ => rfl) (r_neq aK), rfl⟩) <| .t (fun _ w hn k => ⟨_, v_pickT rfl (k.eq1 31 48 rfl) (k.eq1 33 50 rfl), rfl⟩) .nil
 refine aftI ae ai aj fun iG iH bu db dc ho a8 => ?_
 have iI := a8.fx 3 al
 have iJ := a8.fx 6 am
 have iK := a8.fx 7 an
 have iL := a8.fx 8 ao
 have fI := a8.ge 34 51 rfl
 refine st_nil (ak _ _ ?_)
 refine wp_cond_true fI ?_
 refine wp_seq_k fun iM dd => ?_
 refine wp_g0 [true] [] 54
   [vF] bu (.eq (.nil)) ?_ ?_
 exact .t (fun _ w hn k => ⟨_, v_assign rfl rfl, rfl⟩) .nil
 refine aftI bu db dc fun iN iO hq de df hr dg => ?_
 have fJ := dg.ge 0 2 rfl
 refine st_nil (dd _ _ ?_)
 refine wp_ret (ret_k de (v := .bool false) (res_t rfl fJ _) ?_)
 exact ⟨by rw [show numericN ⟨#[120, 88, 111, 79]⟩ u = false from by unfold numericN; rw [all_bad (i := i) (by omega) (by rw [okS_xo]; unfold okbN; simp only [ac, ad, af, ah, aw, aA, aE, aK, bsm]), Bool.false_and]], df⟩
 have bV := oF ah
 rcases bc (decide (((u.getD i 0 : Nat) : Int) ≤ 70)) with ar | ar
 have b0 := oT ar
 have hb := hu.at16 i
 refine wp_g0 (.replicate 35 true) [] 54
   [ve (.int .u16 ((u.getD i 0 : Nat) : Int)), vF, vT, vT, ve (.int .u16 ((u.getD i 0 : Nat) : Int)), vF, vF, ve (.int .u16 ((u.getD i 0 : Nat) : Int)), vT, vT, vT, vT, ve (.int .u16 ((u.getD i 0 : Nat) : Int)), vF, vF, ve (.int .u16 ((u.getD i 0 : Nat) : Int)), vF, vF, vF, vF, vU, vU, vF, vF, vU, vU, vF, vF, vU, vU, vF, vF, vU, vU, vF] ae (.eq (.eq (.eq (.eq (.eq (.eq (.eq (.eq (.eq (.eq (.eq (.eq (.eq (.eq (.eq (.eq (.eq (.eq (.eq (.eq (.eq (.eq (.eq (.eq (.eq (.eq (.eq (.eq (.eq (.eq (.eq (.eq (.eq (.eq (.eq (.nil)))))))))))))))))))))))))))))))))))) ?_ ?_
 exact .m (fun k => k.fx 5 ab) <| .o1 (ck rfl rfl rfl (fun _ w hn k => ⟨#[.int .u16 ((u.getD i 0 : Nat) : Int)], args1 (k.eq1 0 17 rfl), fun _ => by kernel_rfl, cdigit_c (u.getD i 0) _ (by omega)⟩) fun _ => congrArg Value.bool ac) <| .t (fun _ w hn k => ⟨_, v_not rfl (k.eq1 1 18 rfl), rfl⟩) <| .m (fun k => k.eq1 2 19 rfl) <| .gm (fun k => k.eq1 3 20 rfl) (fun k => k.fx 5 ab) <| .g (fun k => k.eq1 3 20 rfl) (fun _ w hn k => ⟨_, v_bin rfl (k.eq1 4 21 rfl) rfl (fun _ => rfl) (r_lssK ad), rfl⟩) <| .gm (fun k => k.eq1 3 20 rfl) (fun k => k.eq1 5 22 rfl) <| .gm (fun k => k.eq1 6 23 rfl) (fun k => k.fx 5 ab) <| .g (fun k => k.eq1 6 23 rfl) (fun _ w hn k => ⟨_, v_bin rfl (k.eq1 7 24 rfl) rfl (fun _ => rfl) (r_gtrK af), rfl⟩) <| .g (fun k => k.eq1 3 20 rfl) (fun _ w hn k => ⟨_, v_pickF rfl (k.eq1 6 23 rfl) (k.eq1 8 25 rfl), rfl⟩) <| .t (fun _ w hn k => ⟨_, v_pickT rfl (k.eq1 3 20 rfl) (k.eq1 9 26 rfl), rfl⟩) <| .m (fun k => k.eq1 10 27 rfl) <| .gm (fun k => k.eq1 11 28 rfl) (fun k => k.fx 5 ab) <| .g (fun k => k.eq1 11 28 rfl) (fun _ w hn k => ⟨_, v_bin rfl (k.eq1 12 29 rfl) rfl (fun _ => rfl) (r_lssK ah), rfl⟩) <| .gm (fun k => k.eq1 11 28 rfl) (fun k => k.eq1 13 30 rfl) <| .gm (fun k => k.eq1 14 31 rfl) (fun k => k.fx 5 ab) <| .g (fun k => k.eq1 14 31 rfl) (fun _ w hn k => ⟨_, v_bin rfl (k.eq1 15 32 rfl) rfl (fun _ => rfl) (r_gtrK ar), rfl⟩) <| .g (fun k => k.eq1 11 28 rfl) (fun _ w hn k => ⟨_, v_pickF rfl (k.eq1 14 31 rfl) (k.eq1 16 33 rfl), rfl⟩) <| .t (fun _ w hn k => ⟨_, v_pickT rfl (k.eq1 11 28 rfl) (k.eq1 17 34 rfl), rfl⟩) <| .m (fun k => k.eq1 18 35 rfl) <| .s (fun k => k.eq1 19 36 rfl) <| .s (fun k => k.eq1 19 36 rfl) <| .t (fun _ w hn k => ⟨_, v_pickF rfl (k.eq1 19 36 rfl) rfl, rfl⟩) <| .m (fun k => k.eq1 22 39 rfl) <| .s (fun k => k.eq1 23 40 rfl) <| .s (fun k => k.eq1 23 40 rfl) <| .t (fun _ w hn k => ⟨_, v_pickF rfl (k.eq1 23 40 rfl) rfl, rfl⟩) <| .m (fun k => k.eq1 26 43 rfl) <| .s (fun k => k.eq1 27 44 rfl) <| .s (fun k => k.eq1 27 44 rfl) <| .t (fun _ w hn k => ⟨_, v_pickF rfl (k.eq1 27 44 rfl) rfl, rfl⟩) <| .m (fun k => k.eq1 30 47 rfl) <| .s (fun k => k.eq1 31 48 rfl) <| .s (fun k => k.eq1 31 48 rfl) <| .t (fun _ w hn k => ⟨_, v_pickF rfl (k.eq1 31 48 rfl) rfl, rfl⟩) .nil
 refine aftI ae ai aj fun iP iQ dh di dj hs a9 => ?_
 have fK := a9.fx 3 al
 have fL := a9.fx 6 am
 have fM := a9.fx 7 an
 have fN := a9.fx 8 ao
 have fO := a9.ge 34 51 rfl
 refine st_nil (ak _ _ ?_)
 refine wp_cond_false fO ?_
 refine wp_skip ?_
 exact ap _ _ ⟨dh, di, dj, fK, fL, fM, fN, (by rw [okS_xo]; unfold okbN; simp only [ac, ad, af, ah, ar, bsm])⟩
 have b0 := oF ar
 rcases bc (decide (((u.getD i 0 : Nat) : Int) = 120)) with ax | ax
 have b2 := oT ax
 have hb := hu.at16 i
 refine wp_g0 (.replicate 35 true) [] 54
   [ve (.int .u16 ((u.getD i 0 : Nat) : Int)), vF, vT, vT, ve (.int .u16 ((u.getD i 0 : Nat) : Int)), vF, vF, ve (.int .u16 ((u.getD i 0 : Nat) : Int)), vT, vT, vT, vT, ve (.int .u16 ((u.getD i 0 : Nat) : Int)), vF, vF, ve (.int .u16 ((u.getD i 0 : Nat) : Int)), vT, vT, vT, vT, ve (.int .u16 ((u.getD i 0 : Nat) : Int)), vF, vF, vF, vU, vU, vF, vF, vU, vU, vF, vF, vU, vU, vF] ae (.eq (.eq (.eq (.eq (.eq (.eq (.eq (.eq (.eq (.eq (.eq (.eq (.eq (.eq (.eq (.eq (.eq (.eq (.eq (.eq (.eq (.eq (.eq (.eq (.eq (.eq (.eq (.eq (.eq (.eq (.eq (.eq (.eq (.eq (.eq (.nil)))))))))))))))))))))))))))))))))))) ?_ ?_
 exact .m (fun k => k.fx 5 ab) <| .o1 (ck rfl rfl rfl (fun _ w hn k => ⟨#[.int .u16 ((u.getD i 0 : Nat) : Int)], args1 (k.eq1 0 17 rfl), fun _ => by kernel_rfl, cdigit_c (u.getD i 0) _ (by omega)⟩) fun _ => congrArg Value.bool ac) <| .t (fun _ w hn k => ⟨_, v_not rfl (k.eq1 1 18 rfl), rfl⟩) <| .m (fun k => k.eq1 2 19 rfl) <| .gm (fun k => k.eq1 3 20 rfl) (fun k => k.fx 5 ab) <| .g (fun k => k.eq1 3 20 rfl) (fun _ w hn k => ⟨_, v_bin rfl (k.eq1 4 21 rfl) rfl (fun _ => rfl) (r_lssK ad), rfl⟩) <| .gm (fun k => k.eq1 3 20 rfl) (fun k => k.eq1 5 22 rfl) <| .gm (fun k => k.eq1 6 23 rfl) (fun k => k.fx 5 ab) <| .g (fun k => k.eq1 6 23 rfl) (fun _ w hn k => ⟨_, v_bin rfl (k.eq1 7 24 rfl) rfl (fun _ => rfl) (r_gtrK af), rfl⟩) <| .g (fun k => k.eq1 3 20 rfl) (fun _ w hn k => ⟨_, v_pickF rfl (k.eq1 6 23 rfl) (k.eq1 8 25 rfl), rfl⟩) <| .t (fun _ w hn k => ⟨_, v_pickT rfl (k.eq1 3 20 rfl) (k.eq1 9 26 rfl), rfl⟩) <| .m (fun k => k.eq1 10 27 rfl) <| .gm (fun k => k.eq1 11 28 rfl) (fun k => k.fx 5 ab) <| .g (fun k => k.eq1 11 28 rfl) (fun _ w hn k => ⟨_, v_bin rfl (k.eq1 12 29 rfl) rfl (fun _ => rfl) (r_lssK ah), rfl⟩) <| .gm (fun k => k.eq1 11 28 rfl) (fun k => k.eq1 13 30 rfl) <| .gm (fun k => k.eq1 14 31 rfl) (fun k => k.fx 5 ab) <| .g (fun k => k.eq1 14 31 rfl) (fun _ w hn k => ⟨_, v_bin rfl (k.eq1 15 32 rfl) rfl (fun _ => rfl) (r_gtrK ar), rfl⟩) <| .g (fun k => k.eq1 11 28 rfl) (fun _ w hn k => ⟨_, v_pickF rfl (k.eq1 14 31 rfl) (k.eq1 16 33 rfl), rfl⟩) <| .t (fun _ w hn k => ⟨_, v_pickT rfl (k.eq1 11 28 rfl) (k.eq1 17 34 rfl), rfl⟩) <| .m (fun k => k.eq1 18 35 rfl) <| .gm (fun k => k.eq1 19 36 rfl) (fun k => k.fx 5 ab) <| .g (fun k => k.eq1 19 36 rfl) (fun _ w hn k => ⟨_, v_bin rfl (k.eq1 20 37 rfl) rfl (fun _ => rfl) (r_neq ax), rfl⟩) <| .t (fun _ w hn k => ⟨_, v_pickT rfl (k.eq1 19 36 rfl) (k.eq1 21 38 rfl), rfl⟩) <| .m (fun k => k.eq1 22 39 rfl) <| .s (fun k => k.eq1 23 40 rfl) <| .s (fun k => k.eq1 23 40 rfl) <| .t (fun _ w hn k => ⟨_, v_pickF rfl (k.eq1 23 40 rfl) rfl, rfl⟩) <| .m (fun k => k.eq1 26 43 rfl) <| .s (fun k => k.eq1 27 44 rfl) <| .s (fun k => k.eq1 27 44 rfl) <| .t (fun _ w hn k => ⟨_, v_pickF rfl (k.eq1 27 44 rfl) rfl, rfl⟩) <| .m (fun k => k.eq1 30 47 rfl) <| .s (fun k => k.eq1 31 48 rfl) <| .s (fun k => k.eq1 31 48 rfl) <| .t (fun _ w hn k => ⟨_, v_pickF rfl (k.eq1 31 48 rfl) rfl, rfl⟩) .nil
 refine aftI ae ai aj fun iR iS dk dl dm ht ba => ?_
 have fP := ba.fx 3 al
 have fQ := ba.fx 6 am
 have fR := ba.fx 7 an
 have fS := ba.fx 8 ao
 have fT := ba.ge 34 51 rfl
 refine st_nil (ak _ _ ?_)
 refine wp_cond_false fT ?_
 refine wp_skip ?_
 exact ap _ _ ⟨dk, dl, dm, fP, fQ, fR, fS, (by rw [okS_xo]; unfold okbN; simp only [ac, ad, af, ah, ar, ax, bsm])⟩
 have b2 := oF ax
 rcases bc (decide (((u.getD i 0 : Nat) : Int) = 88)) with aB | aB
 have b4 := oT aB
 have hb := hu.at16 i
 refine wp_g0 (.replicate 35 true) [] 54
   [ve (.int .u16 ((u.getD i 0 : Nat) : Int)), vF, vT, vT, ve (.int .u16 ((u.getD i 0 : Nat) : Int)), vF, vF, ve (.int .u16 ((u.getD i 0 : Nat) : Int)), vT, vT, vT, vT, ve (.int .u16 ((u.getD i 0 : Nat) : Int)), vF, vF, ve (.int .u16 ((u.getD i 0 : Nat) : Int)), vT, vT, vT, vT, ve (.int .u16 ((u.getD i 0 : Nat) : Int)), vT, vT, vT, ve (.int .u16 ((u.getD i 0 : Nat) : Int)), vF, vF, vF, vU, vU, vF, vF, vU, vU, vF] ae (.eq (.eq (.eq (.eq (.eq (.eq (.eq (.eq (.eq (.eq (.eq (.eq (.eq (.eq (.eq (.eq (.eq (.eq (.eq (.eq (.eq (.eq (.eq (.eq (.eq (.eq (.eq (.eq (.eq (.eq (.eq (.eq (.eq (.eq (.eq (.nil)))))))))))))))))))))))))))))))))))) ?_ ?_
 exact .m (fun k => k.fx 5 ab) <| .o1 (ck rfl rfl rfl (fun _ w hn k => ⟨#[.int .u16 ((u.getD i 0 : Nat) : Int)], args1 (k.eq1 0 17 rfl), fun _ => by kernel_rfl, cdigit_c (u.getD i 0) _ (by omega)⟩) fun _ => congrArg Value.bool ac) <| .t (fun _ w hn k => ⟨_, v_not rfl (k.eq1 1 18 rfl), rfl⟩) <| .m (fun k => k.eq1 2 19 rfl) <| .gm (fun k => k.eq1 3 20 rfl) (fun k => k.fx 5 ab) <| .g (fun k => k.eq1 3 20 rfl) (fun _ w hn k => ⟨_, v_bin rfl (k.eq1 4 21 rfl) rfl (fun _ => rfl) (r_lssK ad), rfl⟩) <| .gm (fun k => k.eq1 3 20 rfl) (fun k => k.eq1 5 22 rfl) <| .gm (fun k => k.eq1 6 23 rfl) (fun k => k.fx 5 ab) <| .g (fun k => k.eq1 6 23 rfl) (fun _ w hn k => ⟨_, v_bin rfl (k.eq1 7 24 rfl) rfl (fun _ => rfl) (r_gtrK af), rfl⟩) <| .g (fun k => k.eq1 3 20 rfl) (fun _ w hn k => ⟨_, v_pickF rfl (k.eq1 6 23 rfl) (k.eq1 8 25 rfl), rfl⟩) <| .t (fun _ w hn k => ⟨_, v_pickT rfl (k.eq1 3 20 rfl) (k.eq1 9 26 rfl), rfl⟩) <| .m (fun k => k.eq1 10 27 rfl) <| .gm (fun k => k.eq1 11 28 rfl) (fun k => k.fx 5 ab) <| .g (fun k => k.eq1 11 28 rfl) (fun _ w hn k => ⟨_, v_bin rfl (k.eq1 12 29 rfl) rfl (fun _ => rfl) (r_lssK ah), rfl⟩) <| .gm (fun k => k.eq1 11 28 rfl) (fun k => k.eq1 13 30 rfl) <| .gm (fun k => k.eq1 14 31 rfl) (fun k => k.fx 5 ab) <| .g (fun k => k.eq1 14 31 rfl) (fun _ w hn k => ⟨_, v_bin rfl (k.eq1 15 32 rfl) rfl (fun _ => rfl) (r_gtrK ar), rfl⟩) <| .g (fun k => k.eq1 11 28 rfl) (fun _ w hn k => ⟨_, v_pickF rfl (k.eq1 14 31 rfl) (k.eq1 16 33 rfl), rfl⟩) <| .t (fun _ w hn k => ⟨_, v_pickT rfl (k.eq1 11 28 rfl) (k.eq1 17 34 rfl), rfl⟩) <| .m (fun k => k.eq1 18 35 rfl) <| .gm (fun k => k.eq1 19 36 rfl) (fun k => k.fx 5 ab) <| .g (fun k => k.eq1 19 36 rfl) (fun _ w hn k => ⟨_, v_bin rfl (k.eq1 20 37 rfl) rfl (fun _ => rfl) (r_neq ax), rfl⟩) <| .t (fun _ w hn k => ⟨_, v_pickT rfl (k.eq1 19 36 rfl) (k.eq1 21 38 rfl), rfl⟩) <| .m (fun k => k.eq1 22 39 rfl) <| .gm (fun k => k.eq1 23 40 rfl) (fun k => k.fx 5 ab) <| .g (fun k => k.eq1 23 40 rfl) (fun _ w hn k => ⟨_, v_bin rfl (k.eq1 24 41 rfl) rfl (fun _ => rfl) (r_neq aB), rfl⟩) <| .t (fun _ w hn k => ⟨_, v_pickT rfl (k.eq1 23 40 rfl) (k.eq1 25 42 rfl), rfl⟩) <| .m (fun k => k.eq1 26 43 rfl) <| .s (fun k => k.eq1 27 44 rfl) <| .s (fun k => k.eq1 27 44 rfl) <| .t (fun _ w hn k => ⟨_, v_pickF rfl (k.eq1 27 44 rfl) rfl, rfl⟩) <| .m (fun k => k.eq1 30 47 rfl) <| .s (fun k => k.eq1 31 48 rfl) <| .s (fun k => k.eq1 31 48 rfl) <| .t (fun _ w hn k => ⟨_, v_pickF rfl (k.eq1 31 48 rfl) rfl, rfl⟩) .nil
 refine aftI ae ai aj fun iT iU dn dp dq hv bb => ?_
 have fU := bb.fx 3 al
 have fV := bb.fx 6 am
 have fW := bb.fx 7 an
 have fX := bb.fx 8 ao
 have fY := bb.ge 34 51 rfl
 refine st_nil (ak _ _ ?_)
 refine wp_cond_false fY ?_
 refine wp_skip ?_
 exact ap _ _ ⟨dn, dp, dq, fU, fV, fW, fX, (by rw [okS_xo]; unfold okbN; simp only [ac, ad, af, ah, ar, ax, aB, bsm])⟩
 have b4 := oF aB
 rcases bc (decide (((u.getD i 0 : Nat) : Int) = 111)) with aF | aF
 have b6 := oT aF
 have hb := hu.at16 i
 refine wp_g0 (.replicate 35 true) [] 54
   [ve (.int .u16 ((u.getD i 0 : Nat) : Int)), vF, vT, vT, ve (.int .u16 ((u.getD i 0 : Nat) : Int)), vF, vF, ve (.int .u16 ((u.getD i 0 : Nat) : Int)), vT, vT, vT, vT, ve (.int .u16 ((u.getD i 0 : Nat) : Int)), vF, vF, ve (.int .u16 ((u.getD i 0 : Nat) : Int)), vT, vT, vT, vT, ve (.int .u16 ((u.getD i 0 : Nat) : Int)), vT, vT, vT, ve (.int .u16 ((u.getD i 0 : Nat) : Int)), vT, vT, vT, ve (.int .u16 ((u.getD i 0 : Nat) : Int)), vF, vF, vF, vU, vU, vF] ae (.eq (.eq (.eq (.eq (.eq (.eq (.eq (.eq (.eq (.eq (.eq (.eq (.eq (.eq (.eq (.eq (.eq (.eq (.eq (.eq (.eq (.eq (.eq (.eq (.eq (.eq (.eq (.eq (.eq (.eq (.eq (.eq (.eq (.eq (.eq (.nil)))))))))))))))))))))))))))))))))))) ?_ ?_
 exact .m (fun k => k.fx 5 ab) <| .o1 (ck rfl rfl rfl (fun _ w hn k => ⟨#[.int .u16 ((u.getD i 0 : Nat) : Int)], args1 (k.eq1 0 17 rfl), fun _ => by kernel_rfl, cdigit_c (u.getD i 0) _ (by omega)⟩) fun _ => congrArg Value.bool ac) <| .t (fun _ w hn k => ⟨_, v_not rfl (k.eq1 1 18 rfl), rfl⟩) <| .m (fun k => k.eq1 2 19 rfl) <| .gm (fun k => k.eq1 3 20 rfl) (fun k => k.fx 5 ab) <| .g (fun k => k.eq1 3 20 rfl) (fun _ w hn k => ⟨_, v_bin rfl (k.eq1 4 21 rfl) rfl (fun _ => rfl) (r_lssK ad), rfl⟩) <| .gm (fun k => k.eq1 3 20 rfl) (fun k => k.eq1 5 22 rfl) <| .gm (fun k => k.eq1 6 23 rfl) (fun k => k.fx 5 ab) <| .g (fun k => k.eq1 6 23 rfl) (fun _ w hn k => ⟨_, v_bin rfl (k.eq1 7 24 rfl) rfl (fun _ => rfl) (r_gtrK af), rfl⟩) <| .g (fun k => k.eq1 3 20 rfl) (fun _ w hn k => ⟨_, v_pickF rfl (k.eq1 6 23 rfl) (k.eq1 8 25 rfl), rfl⟩) <| .t (fun _ w hn k => ⟨_, v_pickT rfl (k.eq1 3 20 rfl) (k.eq1 9 26 rfl), rfl⟩) <| .m (fun k => k.eq1 10 27 rfl) <| .gm (fun k => k.eq1 11 28 rfl) (fun k => k.fx 5 ab) <| .g (fun k => k.eq1 11 28 rfl) (fun _ w hn k => ⟨_, v_bin rfl (k.eq1 12 29 rfl) rfl (fun _ => rfl) (r_lssK ah), rfl⟩) <| .gm (fun k => k.eq1 11 28 rfl) (fun k => k.eq1 13 30 rfl) <| .gm (fun k => k.eq1 14 31 rfl) (fun k => k.fx 5 ab) <| .g (fun k => k.eq1 14 31 rfl) (fun _ w hn k => ⟨_, v_bin rfl (k.eq1 15 32 rfl) rfl (fun _ => rfl) (r_gtrK ar), rfl⟩) <| .g (fun k => k.eq1 11 28 rfl) (fun _ w hn k => ⟨_, v_pickF rfl (k.eq1 14 31 rfl) (k.eq1 16 33 rfl), rfl⟩) <| .t (fun _ w hn k => ⟨_, v_pickT rfl (k.eq1 11 28 rfl) (k.eq1 17 34 rfl), rfl⟩) <| .m (fun k => k.eq1 18 35 rfl) <| .gm (fun k => k.eq1 19 36 rfl) (fun k => k.fx 5 ab) <| .g (fun k => k.eq1 19 36 rfl) (fun _ w hn k => ⟨_, v_bin rfl (k.eq1 20 37 rfl) rfl (fun _ => rfl) (r_neq ax), rfl⟩) <| .t (fun _ w hn k => ⟨_, v_pickT rfl (k.eq1 19 36 rfl) (k.eq1 21 38 rfl), rfl⟩) <| .m (fun k => k.eq1 22 39 rfl) <| .gm (fun k => k.eq1 23 40 rfl) (fun k => k.fx 5 ab) <| .g (fun k => k.eq1 23 40 rfl) (fun _ w hn k => ⟨_, v_bin rfl (k.eq1 24 41 rfl) rfl (fun _ => rfl) (r_neq aB), rfl⟩) <| .t (fun _ w hn k => ⟨_, v_pickT rfl (k.eq1 23 40 rfl) (k.eq1 25 42 rfl), rfl⟩) <| .m (fun k => k.eq1 26 43 rfl) <| .gm (fun k => k.eq1 27 44 rfl) (fun k => k.fx 5 ab) <| .g (fun k => k.eq1 27 44 rfl) (fun _ w hn k => ⟨_, v_bin rfl (k.eq1 28 45 rfl) rfl (fun _ => rfl) (r_neq aF), rfl⟩) <| .t (fun _ w hn k => ⟨_, v_pickT rfl (k.eq1 27 44 rfl) (k.eq1 29 46 rfl), rfl⟩) <| .m (fun k => k.eq1 30 47 rfl) <| .s (fun k => k.eq1 31 48 rfl) <| .s (fun k => k.eq1 31 48 rfl) <| .t (fun _ w hn k => ⟨_, v_pickF rfl (k.eq1 31 48 rfl) rfl, rfl⟩) .nil
 refine aftI ae ai aj fun iV iW dr ds dt hw bd => ?_
 have fZ := bd.fx 3 al
 have f0 := bd.fx 6 am
 have f1 := bd.fx 7 an
 have f2 := bd.fx 8 ao
 have f3 := bd.ge 34 51 rfl
 refine st_nil (ak _ _ ?_)
 refine wp_cond_false f3 ?_
 refine wp_skip ?_
 exact ap _ _ ⟨dr, ds, dt, fZ, f0, f1, f2, (by rw [okS_xo]; unfold okbN; simp only [ac, ad, af, ah, ar, ax, aB, aF, bsm])⟩
 have b6 := oF aF
 rcases bc (decide (((u.getD i 0 : Nat) : Int) = 79)) with aL | aL
 have b7 := oT aL
 have hb := hu.at16 i
 refine wp_g0 (.replicate 35 true) [] 54
   [ve (.int .u16 ((u.getD i 0 : Nat) : Int)), vF, vT, vT, ve (.int .u16 ((u.getD i 0 : Nat) : Int)), vF, vF, ve (.int .u16 ((u.getD i 0 : Nat) : Int)), vT, vT, vT, vT, ve (.int .u16 ((u.getD i 0 : Nat) : Int)), vF, vF, ve (.int .u16 ((u.getD i 0 : Nat) : Int)), vT, vT, vT, vT, ve (.int .u16 ((u.getD i 0 : Nat) : Int)), vT, vT, vT, ve (.int .u16 ((u.getD i 0 : Nat) : Int)), vT, vT, vT, ve (.int .u16 ((u.getD i 0 : Nat) : Int)), vT, vT, vT, ve (.int .u16 ((u.getD i 0 : Nat) : Int)), vF, vF] ae (.eq (.eq (.eq (.eq (.eq (.eq (.eq (.eq (.eq (.eq (.eq (.eq (.eq (.eq (.eq (.eq (.eq (.eq (.eq (.eq (.eq (.eq (.eq (.eq (.eq (.eq (.eq (.eq (.eq (.eq (.eq (.eq (.eq (.eq (.eq (.nil)))))))))))))))))))))))))))))))))))) ?_ ?_
 exact .m (fun k => k.fx 5 ab) <| .o1 (ck rfl rfl rfl (fun _ w hn k => ⟨#[.int .u16 ((u.getD i 0 : Nat) : Int)], args1 (k.eq1 0 17 rfl), fun _ => by kernel_rfl, cdigit_c (u.getD i 0) _ (by omega)⟩) fun _ => congrArg Value.bool ac) <| .t (fun _ w hn k => ⟨_, v_not rfl (k.eq1 1 18 rfl), rfl⟩) <| .m (fun k => k.eq1 2 19 rfl) <| .gm (fun k => k.eq1 3 20 rfl) (fun k => k.fx 5 ab) <| .g (fun k => k.eq1 3 20 rfl) (fun _ w hn k => ⟨_, v_bin rfl (k.eq1 4 21 rfl) rfl (fun _ => rfl) (r_lssK ad), rfl⟩) <| .gm (fun k => k.eq1 3 20 rfl) (fun k => k.eq1 5 22 rfl) <| .gm (fun k => k.eq1 6 23 rfl) (fun k => k.fx 5 ab) <| .g (fun k => k.eq1 6 23 rfl) (fun _ w hn k => ⟨_, v_bin rfl (k.eq1 7 24 rfl) rfl (fun _ => rfl) (r_gtrK af), rfl⟩) <| .g (fun k => k.eq1 3 20 rfl) (fun _ w hn k => ⟨_, v_pickF rfl (k.eq1 6 23 rfl) (k.eq1 8 25 rfl), rfl⟩) <| .t (fun _ w hn k => ⟨_, v_pickT rfl (k.eq1 3 20 rfl) (k.eq1 9 26 rfl), rfl⟩) <| .m (fun k => k.eq1 10 27 rfl) <| .gm (fun k => k.eq1 11 28 rfl) (fun k => k.fx 5 ab) <| .g (fun k => k.eq1 11 28 rfl) (fun _ w hn k => ⟨_, v_bin rfl (k.eq1 12 29 rfl) rfl (fun _ => rfl) (r_lssK ah), rfl⟩) <| .gm (fun k => k.eq1 11 28 rfl) (fun k => k.eq1 13 30 rfl) <| .gm (fun k => k.eq1 14 31 rfl) (fun k => k.fx 5 ab) <| .g (fun k => k.eq1 14 31 rfl) (fun _ w hn k => ⟨_, v_bin rfl (k.eq1 15 32 rfl) rfl (fun _ => rfl) (r_gtrK ar), rfl⟩) <| .g (fun k => k.eq1 11 28 rfl) (fun _ w hn k => ⟨_, v_pickF rfl (k.eq1 14 31 rfl) (k.eq1 16 33 rfl), rfl⟩) <| .t (fun _ w hn k => ⟨_, v_pickT rfl (k.eq1 11 28 rfl) (k.eq1 17 34 rfl), rfl⟩) <| .m (fun k => k.eq1 18 35 rfl) <| .gm (fun k => k.eq1 19 36 rfl) (fun k => k.fx 5 ab) <| .g (fun k => k.eq1 19 36 rfl) (fun _ w hn k => ⟨_, v_bin rfl (k.eq1 20 37 rfl) rfl (fun _ => rfl) (r_neq ax), rfl⟩) <| .t (fun _ w hn k => ⟨_, v_pickT rfl (k.eq1 19 36 rfl) (k.eq1 21 38 rfl), rfl⟩) <| .m (fun k => k.eq1 22 39 rfl) <| .gm (fun k => k.eq1 23 40 rfl) (fun k => k.fx 5 ab) <| .g (fun k => k.eq1 23 40 rfl) (fun _ w hn k => ⟨_, v_bin rfl (k.eq1 24 41 rfl) rfl (fun _ => rfl) (r_neq aB), rfl⟩) <| .t (fun _ w hn k => ⟨_, v_pickT rfl (k.eq1 23 40 rfl) (k.eq1 25 42 rfl), rfl⟩) <| .m (fun k => k.eq1 26 43 rfl) <| .gm (fun k => k.eq1 27 44 rfl) (fun k => k.fx 5 ab) <| .g (fun k => k.eq1 27 44 rfl) (fun _ w hn k => ⟨_, v_bin rfl (k.eq1 28 45 rfl) rfl (fun _ => rfl) (r_neq aF), rfl⟩) <| .t (fun _ w hn k => ⟨_, v_pickT rfl (k.eq1 27 44 rfl) (k.eq1 29 46 rfl), rfl⟩) <| .m (fun k => k.eq1 30 47 rfl) <| .gm (fun k => k.eq1 31 48 rfl) (fun k => k.fx 5 ab) <| .g (fun k => k.eq1 31 48 rfl) (fun _ w hn k => ⟨_, v_bin rfl (k.eq1 32 49 rfl) rfl (fun _ => rfl) (r_neq aL), rfl⟩) <| .t (fun _ w hn k => ⟨_, v_pickT rfl (k.eq1 31 48 rfl) (k.eq1 33 50 rfl), rfl⟩) .nil
 refine aftI ae ai aj fun iX iY du dv dw hx be => ?_
 have f4 := be.fx 3 al
 have f5 := be.fx 6 am
 have f6 := be.fx 7 an
 have f7 := be.fx 8 ao
 have f8 := be.ge 34 51 rfl
 refine st_nil (ak _ _ ?_)
 refine wp_cond_false f8 ?_
 refine wp_skip ?_
 exact ap _ _ ⟨du, dv, dw, f4, f5, f6, f7, (by rw [okS_xo]; unfold okbN; simp only [ac, ad, af, ah, ar, ax, aB, aF, aL, bsm])⟩
 have b7 := oF aL
 have hb := hu.at16 i
 refine wp_g0 (.replicate 35 true) [] 54
   [ve (.int .u16 ((u.getD i 0 : Nat) : Int)), vF, vT, vT, ve (.int .u16 ((u.getD i 0 : Nat) : Int)), vF, vF, ve (.int .u16 ((u.getD i 0 : Nat) : Int)), vT, vT, vT, vT, ve (.int .u16 ((u.getD i 0 : Nat) : Int)), vF, vF, ve (.int .u16 ((u.getD i 0 : Nat) : Int)), vT, vT, vT, vT, ve (.int .u16 ((u.getD i 0 : Nat) : Int)), vT, vT, vT, ve (.int .u16 ((u.getD i 0 : Nat) : Int)), vT, vT, vT, ve (.int .u16 ((u.getD i 0 : Nat) : Int)), vT, vT, vT, ve (.int .u16 ((u.getD i 0 : Nat) : Int)), vT, vT] ae (.eq (.eq (.eq (.eq (.eq (.eq (.eq (.eq (.eq (.eq (.eq (.eq (.eq (.eq (.eq (.eq (.eq (.eq (.eq (.eq (.eq (.eq (.eq (.eq (.eq (.eq (.eq (.eq (.eq (.eq (.eq (.eq (.eq (.eq (.eq (.nil)))))))))))))))))))))))))))))))))))) ?_ ?_
 exact .m (fun k => k.fx 5 ab) <| .o1 (ck rfl rfl rfl (fun _ w hn k => ⟨#[.int .u16 ((u.getD i 0 : Nat) : Int)], args1 (k.eq1 0 17 rfl), fun _ => by kernel_rfl, cdigit_c (u.getD i 0) _ (by omega)⟩) fun _ => congrArg Value.bool ac) <| .t (fun _ w hn k => ⟨_, v_not rfl (k.eq1 1 18 rfl), rfl⟩) <| .m (fun k => k.eq1 2 19 rfl) <| .gm (fun k => k.eq1 3 20 rfl) (fun k => k.fx 5 ab) <| .g (fun k => k.eq1 3 20 rfl) (fun _ w hn k => ⟨_, v_bin rfl (k.eq1 4 21 rfl) rfl (fun _ => rfl) (r_lssK ad), rfl⟩) <| .gm (fun k => k.eq1 3 20 rfl) (fun k => k.eq1 5 22 rfl) <| .gm (fun k => k.eq1 6 23 rfl) (fun k => k.fx 5 ab) <| .g (fun k => k.eq1 6 23 rfl) (fun _ w hn k => ⟨_, v_bin rfl (k.eq1 7 24 rfl) rfl (fun _ => rfl) (r_gtrK af), rfl⟩) <| .g (fun k => k.eq1 3 20 rfl) (fun _ w hn k => ⟨_, v_pickF rfl (k.eq1 6 23 rfl) (k.eq1 8 25 rfl), rfl⟩) <| .t (fun _ w hn k => ⟨_, v_pickT rfl (k.eq1 3 20 rfl) (k.eq1 9 26 rfl), rfl⟩) <| .m (fun k => k.eq1 10 27 rfl) <| .gm (fun k => k.eq1 11 28 rfl) (fun k => k.fx 5 ab) <| .g (fun k => k.eq1 11 28 rfl) (fun _ w hn k => ⟨_, v_bin rfl (k.eq1 12 29 rfl) rfl (fun _ => rfl) (r_lssK ah), rfl⟩) <| .gm (fun k => k.eq1 11 28 rfl) (fun k => k.eq1 13 30 rfl) <| .gm (fun k => k.eq1 14 31 rfl) (fun k => k.fx 5 ab) <| .g (fun k => k.eq1 14 31 rfl) (fun _ w hn k => ⟨_, v_bin rfl (k.eq1 15 32 rfl) rfl (fun _ => rfl) (r_gtrK ar), rfl⟩) <| .g (fun k => k.eq1 11 28 rfl) (fun _ w hn k => ⟨_, v_pickF rfl (k.eq1 14 31 rfl) (k.eq1 16 33 rfl), rfl⟩) <| .t (fun _ w hn k => ⟨_, v_pickT rfl (k.eq1 11 28 rfl) (k.eq1 17 34 rfl), rfl⟩) <| .m (fun k => k.eq1 18 35 rfl) <| .gm (fun k => k.eq1 19 36 rfl) (fun k => k.fx 5 ab) <| .g (fun k => k.eq1 19 36 rfl) (fun _ w hn k => ⟨_, v_bin rfl (k.eq1 20 37 rfl) rfl (fun _ => rfl) (r_neq ax), rfl⟩) <| .t (fun _ w hn k => ⟨_, v_pickT rfl (k.eq1 19 36 rfl) (k.eq1 21 38 rfl), rfl⟩) <| .m (fun k => k.eq1 22 39 rfl) <| .gm (fun k => k.eq1 23 40 rfl) (fun k => k.fx 5 ab) <| .g (fun k => k.eq1 23 40 rfl) (fun _ w hn k => ⟨_, v_bin rfl (k.eq1 24 41 rfl) rfl (fun _ => rfl) (r_neq aB), rfl⟩) <| .t (fun _ w hn k => ⟨_, v_pickT rfl (k.eq1 23 40 rfl) (k.eq1 25 42 rfl), rfl⟩) <| .m (fun k => k.eq1 26 43 rfl) <| .gm (fun k => k.eq1 27 44 rfl) (fun k => k.fx 5 ab) <| .g (fun k => k.eq1 27 44 rfl) (fun _ w hn k => ⟨_, v_bin rfl (k.eq1 28 45 rfl) rfl (fun _ => rfl) (r_neq aF), rfl⟩) <| .t (fun _ w hn k => ⟨_, v_pickT rfl (k.eq1 27 44 rfl) (k.eq1 29 46 rfl), rfl⟩) <| .m (fun k => k.eq1 30 47 rfl) <| .gm (fun k => k.eq1 31 48 rfl) (fun k => k.fx 5 ab) <| .g (fun k => k.eq1 31 48 rfl) (fun _ w hn k => ⟨_, v_bin rfl (k.eq1 32 49 rfl) rfl (fun _ => rfl) (r_neq aL), rfl⟩) <| .t (fun _ w hn k => ⟨_, v_pickT rfl (k.eq1 31 48 rfl) (k.eq1 33 50 rfl), rfl⟩) .nil
 refine aftI ae ai aj fun iZ i0 bv dx dy hy bf => ?_
 have i1 := bf.fx 3 al
 have i2 := bf.fx 6 am
 have i3 := bf.fx 7 an
 have i4 := bf.fx 8 ao
 have f9 := bf.ge 34 51 rfl
 refine st_nil (ak _ _ ?_)
 refine wp_cond_true f9 ?_
 refine wp_seq_k fun i5 dz => ?_
 refine wp_g0 [true] [] 54
   [vF] bv (.eq (.nil)) ?_ ?_
 exact .t (fun _ w hn k => ⟨_, v_assign rfl rfl, rfl⟩) .nil
 refine aftI bv dx dy fun i6 i7 hz dA dB hA dC => ?_
 have ga := dC.ge 0 2 rfl
 refine st_nil (dz _ _ ?_)
 refine wp_ret (ret_k dA (v := .bool false) (res_t rfl ga _) ?_)
 exact ⟨by rw [show numericN ⟨#[120, 88, 111, 79]⟩ u = false from by unfold numericN; rw [all_bad (i := i) (by omega) (by rw [okS_xo]; unfold okbN; simp only [ac, ad, af, ah, ar, ax, aB, aF, aL, bsm]), Bool.false_and]], dB⟩
 intro i8 bw
 rcases bc (((u.take i).any dgtN)) with bg | bg
 have bx := hB d0 bg
 have hb := hu.at16 i
 refine wp_g0 [true, true, true, true, true, false] [(5, true)] 54
   [vT, vT, vU, vU, vT, vt] bn (.eq (.eq (.eq (.eq (.eq (.tt (.nil))))))) ?_ ?_
 exact .m (fun k => k.fx 3 bx) <| .m (fun k => k.eq1 0 12 rfl) <| .s (fun k => k.eq1 1 13 rfl) <| .s (fun k => k.eq1 1 13 rfl) <| .t (fun _ w hn k => ⟨_, v_pickT rfl (k.eq1 1 13 rfl) rfl, rfl⟩) <| .off .nil
 refine aftI bn bI br fun b8 i9 bz dD dE hC aN => ?_
 have ja := aN.fx 3 bx
 have gb := aN.fx 8 d1
 have gc := aN.fx 6 d2
 have gd := aN.fx 7 d3
 have gf := aN.fx 5 bp
 have b9 := aN.ge 4 16 rfl
 refine st_take rfl rfl (y_assign (v := .bool true) rfl b9) rfl ?_
 obtain ⟨gg, aG⟩ : ∃ a', a' = b8.put (some 3) (.bool true) := ⟨_, rfl⟩
 have dF := pz aG bz
 have dG := pd aG dD
 have gh := pn aG gb (by decide)
 have gi := pn aG gc (by decide)
 have gj := pn aG gd (by decide)
 have gk := pn aG gf (by decide)
 have jb := pn aG b9 (by decide)
 have gl : gg.eval (.tmp 3) = .bool true := by rw [aG]; exact put_same _ _ _ (by rw [bz]; decide)
 show stepsTo _ _ _ _ _ (b8.put (some 3) (.bool true)) _
 rw [← aG]
 refine st_nil ?_
 exact bw _ _ ⟨dF, dG, dE, (gl.trans (congrArg Value.bool (by rw [any_up (by omega)]; simp only [bg, bsm]))), gk, gi, gj, gh⟩
 have bA := hB d0 bg
 have hb := hu.at16 i
 refine wp_g0 [true, true, true, true, true, false] [(5, true)] 54
   [vF, vF, ve (.int .u16 ((u.getD i 0 : Nat) : Int)), ve (.bool (dgtN (u.getD i 0))), ve (.bool (dgtN (u.getD i 0))), vt] bn (.eq (.eq (.eq (.eq (.eq (.tt (.nil))))))) ?_ ?_
 exact .m (fun k => k.fx 3 bA) <| .m (fun k => k.eq1 0 12 rfl) <| .gm (fun k => k.eq1 1 13 rfl) (fun k => k.fx 5 bp) <| .o1 (cg rfl rfl rfl (fun _ _ k => k.eq1 1 13 rfl) rfl (fun _ w hn k => ⟨#[.int .u16 ((u.getD i 0 : Nat) : Int)], args1 (k.eq1 2 14 rfl), fun _ => by kernel_rfl, cdigit_c (u.getD i 0) _ (by omega)⟩) fun _ => rfl) <| .t (fun _ w hn k => ⟨_, v_pickF rfl (k.eq1 1 13 rfl) (k.eq1 3 15 rfl), rfl⟩) <| .off .nil
 refine aftI bn bI br fun ca jc bB dH dI hD aO => ?_
 have jd := aO.fx 3 bA
 have gn := aO.fx 8 d1
 have go := aO.fx 6 d2
 have gp := aO.fx 7 d3
 have gq := aO.fx 5 bp
 have cb := aO.ge 4 16 rfl
 refine st_take rfl rfl (y_assign (v := .bool (dgtN (u.getD i 0))) rfl cb) rfl ?_
 obtain ⟨gr, aH⟩ : ∃ a', a' = ca.put (some 3) (.bool (dgtN (u.getD i 0))) := ⟨_, rfl⟩
 have dJ := pz aH bB
 have dK := pd aH dH
 have gs := pn aH gn (by decide)
 have gt := pn aH go (by decide)
 have gu := pn aH gp (by decide)
 have gv := pn aH gq (by decide)
 have je := pn aH cb (by decide)
 have gw : gr.eval (.tmp 3) = .bool (dgtN (u.getD i 0)) := by rw [aH]; exact put_same _ _ _ (by rw [bB]; decide)
 show stepsTo _ _ _ _ _ (ca.put (some 3) (.bool (dgtN (u.getD i 0)))) _
 rw [← aH]
 refine st_nil ?_
 exact bw _ _ ⟨dJ, dK, dI, (gw.trans (congrArg Value.bool (by rw [any_up (by omega)]; simp only [bg, bsm]))), gv, gt, gu, gs⟩
 have cc := oF bi
 have dL := hB dW bi
 refine wp_cond_false dL ?_
 refine wp_exit ?_
 refine d7 _ _ ?_
 refine wp_seq_k fun jf dM => ?_
 refine wp_g0 [true, true] [] 54
   [ve (.bool ((u.take i).any dgtN)), ve (.bool ((u.take i).any dgtN))] bm (.eq (.eq (.nil))) ?_ ?_
 exact .m (fun k => k.fx 3 dT) <| .a (fun k => k.eq1 0 53 rfl) .nil
 refine aftI bm bF bo fun jg jh hE dN dO hF dP => ?_
 have gx := dP.ge 1 2 rfl
 refine st_nil (dM _ _ ?_)
 refine wp_ret (ret_k dN (v := .bool ((u.take i).any dgtN)) (res_t rfl gx _) ?_)
 exact ⟨by rw [show numericN ⟨#[120, 88, 111, 79]⟩ u = ((u.take i).any dgtN) from by unfold numericN; rw [List.take_of_length_le (by omega)] at hall; rw [hall, Bool.true_and, List.take_of_length_le (by omega)]], dO⟩
theorem plain_c (Au : Option Addr) (u : List Nat) (cu : Nat) (w : World) (hru : SRow w .u16 Au u cu) (hu : U16s u) (hs : u.length ≤ 100000) : Calls Tryd.prog 71 #[sv Au u cu] w (IsRet (.tuple #[.string ((plainT u).1), .bool ((plainT u).2)]) w) := by
 refine enter_abs Tryd.func71 rfl fun a0 aw cw hp => ?_
 have aw : a0.tmps.size = 23 := aw
 have cx : New w w := Upd.refl _ _
 have hp0 : a0.eval (.tmp 0) = sv Au u cu := hp 0 _ rfl
 have hmx := hru.max
 refine wp_seq_k fun K1 cy => ?_
 refine wp_g0 [true, true] [] 23
   [ve (.string ⟨#[]⟩), vF] aw (.eq (.eq (.nil))) ?_ ?_
 exact .t (fun _ w hn k => ⟨_, v_assign rfl rfl, rfl⟩) <| .t (fun _ w hn k => ⟨_, v_assign rfl rfl, rfl⟩) .nil
 refine aftI aw cw cx fun a2 w3 br cz cA dm cB => ?_
 have h8 := cB.fx 0 hp0
 refine st_nil (cy _ _ (wp_seq_k fun dn bF => ?_))
 refine wp_g0 [true] [] 23
   [ve (sv none ([]) 0)] br (.eq (.nil)) ?_ ?_
 exact .t (fun _ w hn k => ⟨_, v_assign rfl rfl, rfl⟩) .nil
 refine aftI br cz cA fun dp dq aH bG bH c0 aI => ?_
 have cC := aI.fx 0 h8
 have cD := aI.ge 0 4 rfl
 refine st_nil (bF _ _ (wp_seq_k fun dr bI => ?_))
 refine wp_seq_k fun ds bJ => ?_
 refine wp_g0 [true, true, true] [] 23
   [ve (sv Au u cu), ve (iv (u.length : Int)), ve (iv 0)] aH (.eq (.eq (.eq (.nil)))) ?_ ?_
 exact .m (fun k => k.fx 0 cC) <| .t (fun _ w hn k => ⟨_, v_lenR rfl elU (k.eq1 0 7 rfl), rfl⟩) <| .t (fun _ w hn k => ⟨_, v_move rfl rfl, rfl⟩) .nil
 refine aftI aH bG bH fun dt du bK bL bM c2 ao => ?_
 have cE := ao.fx 4 cD
 have cF := ao.ge 0 7 rfl
 have cG := ao.ge 1 8 rfl
 have cH := ao.ge 2 9 rfl
 refine st_nil (bJ _ _ ?_)
 refine wp_block ?_
 refine wp_loopX (fun (mm : Nat) (aa : Act) (ww : World) => ∃ (i : Nat) (A1 : Option Addr) (c1 : Nat), mm = u.length - i ∧ aa.tmps.size = 23 ∧ aa.defers = [] ∧ New w ww ∧ aa.eval (.tmp 4) = sv A1 (u.take i) c1 ∧ aa.eval (.tmp 9) = iv (i : Int) ∧ aa.eval (.tmp 7) = sv Au u cu ∧ aa.eval (.tmp 8) = iv (u.length : Int) ∧ SOwn ww w.heap.size 5 .u8 A1 (u.take i) c1 ∧ (i ≤ u.length) ∧ ((u.take i).all (fun y : Nat => decide ((y : Int) ≤ 127)) = true)) (fun mm => mm) ⟨_, ⟨0, none, 0, rfl, bK, bL, bM, (cE.trans rfl), cH, cF, cG, (SOwn.nil _ _ _ _), (Nat.zero_le _), rfl⟩⟩ ?_
 rintro mm dv dw ⟨i, A1, c1, hmm, aJ, bN, bO, cI, bs, cJ, bt, bP, hi, hall⟩
 refine wp_seq_k fun dx bQ => ?_
 refine wp_g0 [true] [] 23
   [ve (.bool (decide ((i : Int) < (u.length : Int))))] aJ (.eq (.nil)) ?_ ?_
 exact .t (fun _ w hn k => ⟨_, v_bin rfl (k.fx 9 bs) (k.fx 8 bt) (fun _ => rfl) (r_lssK rfl), rfl⟩) .nil
 refine aftI aJ bN bO fun dy dz ap aK ar bR al => ?_
 have bu := al.fx 4 cI
 have bv := al.fx 9 bs
 have bw := al.fx 7 cJ
 have cK := al.fx 8 bt
 have bx := al.ge 0 10 rfl
 have aL := bP.new_ bR
 refine st_nil (bQ _ _ (wp_seq_k fun dA bS => ?_))
 rcases bc (decide ((i : Int) < (u.length : Int))) with am | am
 have aZ := oT am
 have bT := hB bx am
 refine wp_cond_true bT ?_
 refine wp_skip ?_
 refine bS _ _ ?_
 refine wp_seq_k fun dB bU => ?_
 refine wp_block ?_
 refine wp_seq_k fun dC bV => ?_
 have hb := hu.at16 i
 refine wp_g0 [true, true, true] [] 23
   [(EP (.int .u16 ((u.getD i 0 : Nat) : Int))), ve (.int .u16 ((u.getD i 0 : Nat) : Int)), ve (.int .u16 ((u.getD i 0 : Nat) : Int))] ap (.cons (fun _ _ _ n ⟨_, _, e, h⟩ => ⟨_, _, e, h.new_ n⟩) (.eq (.eq (.nil)))) ?_ ?_
 refine .o1 (tk rfl rfl fun _ w hn k => (by
       exact x_eaddr (k := .u16) rfl elU (k.fx 7 bw) (k.fx 9 bv) (hru.new_ (ar.transNew hn)) (by omega) fun b1 o2 hme => ⟨b1, o2, rfl, hme⟩)) ?_
 refine .o1 (tk rfl rfl fun _ w hn k => (by
       obtain ⟨b5, o6, e7, cL⟩ : (EP (.int .u16 ((u.getD i 0 : Nat) : Int))) _ _ := k.dep 0 11 (by kernel_rfl) (by kernel_rfl)
       exact ⟨_, v_load rfl e7 (l_one Tryd.isAgg64 cL.1), rfl⟩)) ?_
 exact .a (fun k => k.eq1 1 12 rfl) .nil
 refine aftI ap aK ar fun dD dE aq aM aN bW an => ?_
 have bz := an.fx 4 bu
 have bA := an.fx 9 bv
 have bB := an.fx 7 bw
 have bC := an.fx 8 cK
 have ax := an.ge 2 6 rfl
 have aO := aL.new_ bW
 refine st_nil (bV _ _ (wp_seq_k fun dF bX => ?_))
 refine wp_seq_k fun dG aP => ?_
 rcases bc (decide (((u.getD i 0 : Nat) : Int) ≤ 127)) with ah | ah
 have a1 := oT ah
 have hb := hu.at16 i
 refine wp_g0 [true, true] [] 23
   [ve (.int .u16 ((u.getD i 0 : Nat) : Int)), vF] aq (.eq (.eq (.nil))) ?_ ?_
 exact .m (fun k => k.fx 6 ax) <| .t (fun _ w hn k => ⟨_, v_bin rfl (k.eq1 0 13 rfl) rfl (fun _ => rfl) (r_gtrK ah), rfl⟩) .nil
 refine aftI aq aM aN fun dH bD aQ bY aR bZ aj => ?_
 have bE := aj.fx 4 bz
 have cM := aj.fx 9 bA
 have cN := aj.fx 7 bB
 have cO := aj.fx 8 bC
 have cP := aj.fx 6 ax
 have cQ := aj.ge 1 14 rfl
 have b0 := aO.new_ bZ
 refine st_nil (aP _ _ ?_)
 refine wp_cond_false cQ ?_
 refine wp_skip ?_
 refine bX _ _ ?_
 have hb := hu.at16 i
 have htl : (u.take i).length = i := by rw [List.length_take]; omega
 refine wp_g0 [true, true, true, true, false, false] [(4, false), (5, true)] 23
   [ve (sv A1 (u.take i) c1), ve (.int .u16 ((u.getD i 0 : Nat) : Int)), ve (.int .u8 (((u.getD i 0) % 256 : Nat) : Int)),
    (OP bD.heap.size 5 .u8 ([((u.getD i 0) % 256)])), vt, vt] aQ (.eq (.eq (.eq (.cons (fun _ _ _ n ⟨_, _, e, h⟩ => ⟨_, _, e, h.new_ n⟩) (.tt (.tt (.nil))))))) ?_ ?_
 refine .m (fun k => k.fx 4 bE) <| .m (fun k => k.fx 6 cP) <| .t (fun _ w hn k => ⟨_, v_conv rfl (k.eq1 1 16 rfl) (n_conv (by kernel_rfl) (by kernel_rfl) (by kernel_rfl) (n_wrap8 _)), rfl⟩) ?_
 refine .o1 (tkA rfl (noG rfl) fun _ w hn k => (by
       exact x_bslice (k := .u8) (ps := [(0, .int .u8 (((u.getD i 0) % 256 : Nat) : Int))]) [((u.getD i 0) % 256)] rfl (parts1 (k.eq1 2 17 rfl)) elB rfl (by omega) (by omega) (by first | kernel_rfl | (simp only [enc, List.map_cons, List.map_nil, Int.toNat_natCast, Int.toNat_of_nonneg (by omega : (0 : Int) ≤ _)]; kernel_rfl)) fun A9 cT W' hmo => ⟨A9, cT, rfl, (hmo.more hn.size)⟩)) ?_
 exact .off <| .off .nil
 refine aftI aQ bY aR fun aS dI aT b2 ay b4 ak => ?_
 have dJ := ak.fx 4 bE
 have cU := ak.fx 9 cM
 have b6 := ak.fx 7 cN
 have b7 := ak.fx 8 cO
 have b8 := ak.ge 0 15 rfl
 obtain ⟨b9, a3, au, a4⟩ : (OP bD.heap.size 5 .u8 ([((u.getD i 0) % 256)])) _ _ := ak.got 3 18 rfl (by kernel_rfl)
 have au : aS.eval (.tmp 18) = sv b9 ([((u.getD i 0) % 256)]) a3 := au
 have az := b0.new_ b4
 have a5 := a4.more aR.size
 have hw118 := ay.size
 refine st_act rfl rfl fun c3 a6 => a_append (k := .u8) (b := w.heap.size) rfl elB b8 az au a5.row (by first | omega | (simp only [List.length_nil, List.length_cons, List.length_append, List.length_take, List.length_drop, List.length_replicate, List.length_set]; omega)) (by first | omega | (simp only [List.length_nil, List.length_cons, List.length_append, List.length_take, List.length_drop, List.length_replicate, List.length_set]; omega)) hw118 fun af ab c4 aA hg114 => a6 _ _ trivial ?_
 have a7 := ay.ownGrown az hg114
 obtain ⟨av, ae⟩ : ∃ a', a' = aS.put (some 19) (sv af ((u.take i) ++ [((u.getD i 0) % 256)]) ab) := ⟨_, rfl⟩
 have aB := pz ae aT
 have a8 := pd ae b2
 have ca := pn ae cU (by decide)
 have cb := pn ae b6 (by decide)
 have cc := pn ae b7 (by decide)
 have aU : av.eval (.tmp 19) = sv af ((u.take i) ++ [((u.getD i 0) % 256)]) ab := by rw [ae]; exact put_same _ _ _ (by rw [aT]; decide)
 show stepsTo _ _ _ _ _ (aS.put (some 19) (sv af ((u.take i) ++ [((u.getD i 0) % 256)]) ab)) _
 rw [← ae]
 refine st_take rfl rfl (y_assign (v := sv af ((u.take i) ++ [((u.getD i 0) % 256)]) ab) rfl aU) rfl ?_
 obtain ⟨cd, ac⟩ : ∃ a', a' = av.put (some 4) (sv af ((u.take i) ++ [((u.getD i 0) % 256)]) ab) := ⟨_, rfl⟩
 have aC := pz ac aB
 have a9 := pd ac a8
 have aV := pn ac ca (by decide)
 have ce := pn ac cb (by decide)
 have cf := pn ac cc (by decide)
 have c5 := pn ac aU (by decide)
 have aW : cd.eval (.tmp 4) = sv af ((u.take i) ++ [((u.getD i 0) % 256)]) ab := by rw [ac]; exact put_same _ _ _ (by rw [aB]; decide)
 show stepsTo _ _ _ _ _ (av.put (some 4) (sv af ((u.take i) ++ [((u.getD i 0) % 256)]) ab)) _
 rw [← ac]
 refine st_nil ?_
 have he136 : ((u.take i) ++ [((u.getD i 0) % 256)]) = (u.take (i + 1)) := by rw [take_up (by omega), show u.getD i 0 % 256 = u.getD i 0 by omega]
 rw [he136] at aW
 rw [he136] at aA
 refine bU _ _ ?_
 refine wp_g0 [true, false] [(1, true)] 23
   [ve (iv ((i + 1 : Nat) : Int)), vt] aC (.eq (.tt (.nil))) ?_ ?_
 exact .t (fun _ w hn k => ⟨_, v_bin rfl (k.fx 9 aV) rfl (fun _ => rfl) (n_add (by omega) (IntWalk.i64_in _ (by omega))), rfl⟩) <| .off .nil
 refine aftI aC a9 a7 fun aX c6 aD ba bb bd ai => ?_
 have c7 := ai.fx 9 aV
 have ch := ai.fx 7 ce
 have ci := ai.fx 8 cf
 have cj := ai.fx 4 aW
 have aY := ai.ge 0 20 rfl
 have be := aA.new_ bd
 refine st_take rfl rfl (y_move (v := iv ((i + 1 : Nat) : Int)) rfl aY) rfl ?_
 obtain ⟨cl, ad⟩ : ∃ a', a' = aX.put (some 9) (iv ((i + 1 : Nat) : Int)) := ⟨_, rfl⟩
 have bf := pz ad aD
 have bg := pd ad ba
 have cm := pn ad ch (by decide)
 have cn := pn ad ci (by decide)
 have co := pn ad cj (by decide)
 have c8 := pn ad aY (by decide)
 have cp : cl.eval (.tmp 9) = iv ((i + 1 : Nat) : Int) := by rw [ad]; exact put_same _ _ _ (by rw [aD]; decide)
 show stepsTo _ _ _ _ _ (aX.put (some 9) (iv ((i + 1 : Nat) : Int))) _
 rw [← ad]
 refine st_nil ?_
 refine then_n ?_
 exact ⟨_, ⟨i + 1, af, ab, rfl, bf, bg, bb, co, (cp.trans (congrArg (Value.int .i64) (by omega))), cm, cn, be, (by omega), (all_up (p := (fun y : Nat => decide ((y : Int) ≤ 127))) (by omega) hall ah)⟩, (by omega)⟩
 have a1 := oF ah
 have hb := hu.at16 i
 refine wp_g0 [true, true] [] 23
   [ve (.int .u16 ((u.getD i 0 : Nat) : Int)), vT] aq (.eq (.eq (.nil))) ?_ ?_
 exact .m (fun k => k.fx 6 ax) <| .t (fun _ w hn k => ⟨_, v_bin rfl (k.eq1 0 13 rfl) rfl (fun _ => rfl) (r_gtrK ah), rfl⟩) .nil
 refine aftI aq aM aN fun c9 da aE bh bi bj ag => ?_
 have db := ag.fx 4 bz
 have dc := ag.fx 9 bA
 have dd := ag.fx 7 bB
 have de := ag.fx 8 bC
 have df := ag.fx 6 ax
 have cq := ag.ge 1 14 rfl
 have cV := aO.new_ bj
 refine st_nil (aP _ _ ?_)
 refine wp_cond_true cq ?_
 refine wp_seq_k fun dg bk => ?_
 refine wp_g0 [true, true] [] 23
   [ve (.string ⟨#[]⟩), vF] aE (.eq (.eq (.nil))) ?_ ?_
 exact .t (fun _ w hn k => ⟨_, v_assign rfl rfl, rfl⟩) <| .t (fun _ w hn k => ⟨_, v_assign rfl rfl, rfl⟩) .nil
 refine aftI aE bh bi fun dh di cW bl bm cX aF => ?_
 have cr := aF.ge 0 2 rfl
 have cs := aF.ge 1 3 rfl
 refine st_nil (bk _ _ ?_)
 refine wp_ret (ret_k bl (v := .tuple #[.string ⟨#[]⟩, .bool false]) (res_tt rfl cr cs _) ?_)
 have hp : plainT u = (⟨#[]⟩, false) := by unfold plainT; rw [all_bad (p := (fun y : Nat => decide ((y : Int) ≤ 127))) (i := i) (by omega) ah]; rfl
 exact ⟨by rw [hp], bm⟩
 have aZ := oF am
 have bn := hB bx am
 refine wp_cond_false bn ?_
 refine wp_exit ?_
 refine bI _ _ ?_
 refine wp_seq_k fun dj bo => ?_
 refine wp_g0 [true, true, true, true] [] 23
   [ve (sv A1 (u.take i) c1), ve (.string (strN (u.take i))), ve (.string (strN (u.take i))), vT] ap (.eq (.eq (.eq (.eq (.nil))))) ?_ ?_
 exact .m (fun k => k.fx 4 bu) <| .t (fun _ w hn k => ⟨_, v_strB (e := 5) rfl (k.eq1 0 21 rfl) (aL.new_ hn).row (by kernel_rfl) (by kernel_rfl) (by kernel_rfl), rfl⟩) <| .a (fun k => k.eq1 1 22 rfl) <| .t (fun _ w hn k => ⟨_, v_assign rfl rfl, rfl⟩) .nil
 refine aftI ap aK ar fun dk dl cY bp bq cZ aG => ?_
 have ct := aG.ge 2 2 rfl
 have cv := aG.ge 3 3 rfl
 refine st_nil (bo _ _ ?_)
 refine wp_ret (ret_k bp (v := .tuple #[.string (strN (u.take i)), .bool true]) (res_tt rfl ct cv _) ?_)
 have hp : plainT u = (strN (u.take i), true) := by unfold plainT; rw [List.take_of_length_le (by omega)] at hall; rw [hall, List.take_of_length_le (by omega)]; rfl
 exact ⟨by rw [hp], bq⟩
theorem neg_made {a : Bool} {m : List Nat} (hl : Limbs m) : sgn (!(mayB a m && a)) (val (canon (goodI a m).natAbs)) = -(goodI a m) := by
  rw [← neg_good hl, val_canon]
  generalize goodI a m = z
  by_cases h : z < 0
  · rw [decide_eq_true h]; simp [sgn]; omega
  · rw [decide_eq_false h]; simp [sgn]; omega
def bNeg_c_P (a : Bool) (Aa : Option Addr) (ma : List Nat) (ca : Nat) (w : World) (en : Ending) (w' : World) : Prop := ∃ (Ar0 : Option Addr) (cr0 : Nat), en = .returned (.agg #[.bool (decide (-(goodI a ma) < 0)), sv Ar0 (canon (-(goodI a ma)).natAbs) cr0]) ∧ SRow w' .u32 Ar0 (canon (-(goodI a ma)).natAbs) cr0 ∧ New w w'
theorem bNeg_c (a : Bool) (Aa : Option Addr) (ma : List Nat) (ca : Nat) (w : World) (hra : SRow w .u32 Aa ma ca) (ha : Limbs ma) (hs : ma.length ≤ 1000000) : Calls Tryd.prog 73 #[.agg #[.bool a, sv Aa ma ca]] w (bNeg_c_P a Aa ma ca w) := by
 refine enter_abs Tryd.func73 rfl fun a0 af aF hp => ?_
 have af : a0.tmps.size = 9 := af
 have ag : New w w := Upd.refl _ _
 have hp0 : a0.eval (.tmp 0) = .agg #[.bool a, sv Aa ma ca] := hp 0 _ rfl
 refine wp_seq_k fun K1 aG => ?_
 refine wp_g [true, true] [] [] 9
   [IsNew w 26 [.bool a, sv Aa ma ca], IsNew w 26 [.bool false, sv none ([]) 0]]
   [0, 1] (newsCons (fun v w h => IsNew.old h) (newsCons (fun v w h => IsNew.old h) newsNil)) af (.nw (.nw (.nil))) ?_ (fun i h => by cases h) ?_
 exact .o2 (step_allocN (cs := [.bool a, sv Aa ma ca]) (t := 26) rfl (noG rfl) (fun _ w hn k => v_box rfl (k.fx 0 hp0) (fun w => rfl)) (fun q _ hq hb => ⟨q, rfl, hq, hb⟩)) <| .o2 (step_allocN (cs := [.bool false, sv none ([]) 0]) (t := 26) rfl (noG rfl) (fun _ w hn k => rfl) (fun q _ hq hb => ⟨q, rfl, hq, hb⟩)) .nil
 refine aftI af aF ag fun a2 w3 ao aH ae aQ ah => ?_
 obtain ⟨q9, h8, ar, ai⟩ : IsNew _ _ _ _ _ := ah.got 0 1 rfl (by kernel_rfl)
 obtain ⟨aI, ap, au, av⟩ : IsNew _ _ _ _ _ := ah.got 1 2 rfl (by kernel_rfl)
 have hne16 : q9 ≠ aI := ah.ne 0 1 1 2 h8 ap
 have aM := Nat.le_trans ag.size ar
 have aN := Nat.le_trans ag.size au
 refine st_nil (aG _ _ (wp_seq_k fun aR aw => ?_))
 refine wp_g0 [true, true, true, true, true, true, false] [(6, false)] 9
   [ve (.agg #[.bool a, sv Aa ma ca]),
    (OP w3.heap.size 53 .u32 (canon (goodI a ma).natAbs)), ve (.agg #[.bool a, sv Aa ma ca]), ve (.bool (mayB a ma && a)), ve (.bool (!(mayB a ma && a))), (fun (v_ : Value) (W : World) => ∃ (ab : Option Addr) (ac : Nat), v_ = .agg #[.bool (decide (sgn (!(mayB a ma && a)) (val (canon (goodI a ma).natAbs)) < 0)), sv ab (canon (sgn (!(mayB a ma && a)) (val (canon (goodI a ma).natAbs))).natAbs) ac] ∧ SRow W .u32 ab (canon (sgn (!(mayB a ma && a)) (val (canon (goodI a ma).natAbs))).natAbs) ac), vt] ao (.eq (.cons (fun _ _ _ n ⟨_, _, e, h⟩ => ⟨_, _, e, h.new_ n⟩) (.eq (.eq (.eq (.cons (fun _ _ _ n ⟨_, _, e, h⟩ => ⟨_, _, e, h.new_ n⟩) (.tt (.nil)))))))) ?_ ?_
 refine .t (fun _ w hn k => ⟨_, v_load rfl (k.fx 1 h8) (l_two Tryd.isAgg26 Tryd.sizeOf26 (ai.new_ hn)), rfl⟩) ?_
 refine .o1 (tkC rfl (noG rfl) rfl fun _ w hn k => (by
       refine ⟨#[.agg #[.bool a, sv Aa ma ca]], _, args1 (k.eq1 0 3 rfl), fun w => by kernel_rfl, bmag_c a _ ma _ _ (hra.new_ (ae.transNew hn)) ha (by first | omega | (simp only [List.length_nil, List.length_take, List.length_drop]; omega) | (simp only [List.length_cons, List.length_nil]; omega)), ?_⟩
       rintro e w' ⟨A1, c2, rfl, hmo0, hm⟩
       exact ⟨_, rfl, hm, ⟨A1, c2, rfl, (hmo0.more hn.size)⟩⟩)) ?_
 refine .t (fun _ w hn k => ⟨_, v_load rfl (k.fx 1 h8) (l_two Tryd.isAgg26 Tryd.sizeOf26 (ai.new_ hn)), rfl⟩) <| .o1 (ck rfl rfl rfl (fun _ w hn k => ⟨#[.agg #[.bool a, sv Aa ma ca]], args1 (k.eq1 2 5 rfl), fun _ => by kernel_rfl, bneg_c a _ ma _ _ (hra.new_ (ae.transNew hn))⟩) fun _ => rfl) <| .t (fun _ w hn k => ⟨_, v_not rfl (k.eq1 3 6 rfl), rfl⟩) ?_
 refine .o1 (tkC rfl (noG rfl) rfl fun _ w hn k => (by
       obtain ⟨A5, c6, e7, aJ⟩ : (OP w3.heap.size 53 .u32 (canon (goodI a ma).natAbs)) _ _ := k.dep 1 4 (by kernel_rfl) (by kernel_rfl)
       refine ⟨#[sv A5 (canon (goodI a ma).natAbs) c6, .bool (!(mayB a ma && a))], _, args2 e7 (k.eq1 4 7 rfl), fun w => by kernel_rfl, bmade_c _ (canon (goodI a ma).natAbs) _ (!(mayB a ma && a)) _ aJ.row (limbs_canon _), ?_⟩
       rintro e w' ⟨A9, aK, rfl, hmo0, hm⟩
       exact ⟨_, rfl, hm, ⟨A9, aK, rfl, hmo0⟩⟩)) ?_
 exact .off .nil
 refine aftI ao aH ae fun aL aS aO ax ay az aj => ?_
 have aq := aj.fx 2 ap
 obtain ⟨ad, aa, ak, aA⟩ : (fun (v_ : Value) (W : World) => ∃ (ab : Option Addr) (ac : Nat), v_ = .agg #[.bool (decide (sgn (!(mayB a ma && a)) (val (canon (goodI a ma).natAbs)) < 0)), sv ab (canon (sgn (!(mayB a ma && a)) (val (canon (goodI a ma).natAbs))).natAbs) ac] ∧ SRow W .u32 ab (canon (sgn (!(mayB a ma && a)) (val (canon (goodI a ma).natAbs))).natAbs) ac) _ _ := aj.got 5 8 rfl (by kernel_rfl)
 have ak : aL.eval (.tmp 8) = .agg #[.bool (decide (sgn (!(mayB a ma && a)) (val (canon (goodI a ma).natAbs)) < 0)), sv ad (canon (sgn (!(mayB a ma && a)) (val (canon (goodI a ma).natAbs))).natAbs) aa] := ak
 have al := av.new_ az
 obtain ⟨aT, -, an, aB, am, aP⟩ := s_two (v0 := .bool (decide (sgn (!(mayB a ma && a)) (val (canon (goodI a ma).natAbs)) < 0))) (v1 := sv ad (canon (sgn (!(mayB a ma && a)) (val (canon (goodI a ma).natAbs))).natAbs) aa) Tryd.sizeOf26 rfl rfl rfl al
 refine st_act rfl rfl fun aU aC => a_store' rfl aq ak an (aC _ _ trivial ?_)
 have aD := aA.far al am (by first | rfl | decide | simp [notK])
 have aE := ay.trans am (fun _ h b => by subst b; omega)
 refine st_nil (aw _ _ ?_)
 refine wp_ret (ret_k ax (v := .agg #[.bool (decide (sgn (!(mayB a ma && a)) (val (canon (goodI a ma).natAbs)) < 0)), sv ad (canon (sgn (!(mayB a ma && a)) (val (canon (goodI a ma).natAbs))).natAbs) aa]) (res_c rfl aq (l_two Tryd.isAgg26 Tryd.sizeOf26 aB)) ?_)
 have hz1 : sgn (!(mayB a ma && a)) (val (canon (goodI a ma).natAbs)) = -(goodI a ma) := neg_made ha
 exact ⟨ad, aa, congrArg (fun z : Int => Ending.returned (Value.agg #[.bool (decide (z < 0)), sv ad (canon z.natAbs) aa])) hz1, Eq.mp (congrArg (fun z : Int => SRow _ .u32 ad (canon z.natAbs) aa) hz1) aD, aE⟩
def ItoaOk (w0 : World) : Prop := ∀ n : Int, -9223372036854775808 ≤ n → n ≤ 9223372036854775807 → ∀ w', New w0 w' → Calls Tryd.prog 53 #[.int .i64 n] w' (IsRet (.string (itoaS n)) w')
theorem ItoaOk.up {w0 w : World} (h : ItoaOk w0) (hn : New w0 w) : ItoaOk w := fun n h1 h2 w' h3 => h n h1 h2 w' (hn.transNew h3)
theorem ntext_c (a : Nm) (w : World) (HT : ItoaOk w) : Calls Tryd.prog 36 #[nv a] w (IsRet (.string (textM a)) w) := by
 refine enter_abs Tryd.func36 rfl fun a0 aj bC hp => ?_
 have aj : a0.tmps.size = 16 := aj
 have aP : New w w := Upd.refl _ _
 have hp0 : a0.eval (.tmp 0) = nv a := hp 0 _ rfl
 refine wp_seq_k fun K1 bD => ?_
 refine wp_g [true, true] [] [] 16
   [IsNew w 23 [iv a.k, iv a.n], ve (.string ⟨#[]⟩)]
   [0] (newsCons (fun v w h => IsNew.old h) newsNil) aj (.nw (.eq (.nil))) ?_ (fun i h => by cases h) ?_
 exact .o2 (step_allocN (cs := [iv a.k, iv a.n]) (t := 23) rfl (noG rfl) (fun _ w hn k => v_box rfl (k.fx 0 hp0) (fun w => rfl)) (fun q _ hq hb => ⟨q, rfl, hq, hb⟩)) <| .t (fun _ w hn k => ⟨_, v_assign rfl rfl, rfl⟩) .nil
 refine aftI aj bC aP fun a2 w3 aQ bE aV b3 bF => ?_
 obtain ⟨q9, h8, aW, ak⟩ : IsNew _ _ _ _ _ := bF.got 0 1 rfl (by kernel_rfl)
 have bR := Nat.le_trans aP.size aW
 refine st_nil (bD _ _ (wp_seq_k fun b4 aX => ?_))
 refine wp_seq_k fun b5 aY => ?_
 refine wp_g0 [true, true, false] [(2, false)] 16
   [ve (nv a), ve (nv (asM a)), vt] aQ (.eq (.eq (.tt (.nil)))) ?_ ?_
 exact .t (fun _ w hn k => ⟨_, v_load rfl (k.fx 1 h8) (l_two Tryd.isAgg23 Tryd.sizeOf23 (ak.new_ hn)), rfl⟩) <| .o1 (ck rfl rfl rfl (fun _ w hn k => ⟨#[nv a], args1 (k.eq1 0 3 rfl), fun _ => by kernel_rfl, as_c a _ ⟩) fun _ => rfl) <| .off .nil
 refine aftI aQ bE aV fun b6 b7 al aZ a1 a3 am => ?_
 have an := am.fx 1 h8
 have bG := am.ge 1 4 rfl
 have a4 := ak.new_ a3
 have hbd_a := as_bd a
 obtain ⟨b8, -, aB, ao, a5, bS⟩ := s_two (v0 := iv ((asM a).k)) (v1 := iv ((asM a).n)) Tryd.sizeOf23 rfl rfl rfl a4
 refine st_act rfl rfl fun b9 a6 => a_store' rfl an bG aB (a6 _ _ trivial ?_)
 have a7 := a1.trans a5 (fun _ h b => by subst b; omega)
 refine st_nil (aY _ _ (wp_seq_k fun ca a8 => ?_))
 refine wp_g0 [true, true] [] 16
   [ve (pv q9), ve (iv ((asM a).k))] al (.eq (.eq (.nil))) ?_ ?_
 exact .f (fun k => k.fx 1 an) <| .t (fun _ w hn k => ⟨_, v_load rfl (k.eq1 0 5 rfl) (l_one Tryd.isAgg3 ((ao.new_ hn).cell 0)), rfl⟩) .nil
 refine aftI al aZ a7 fun cb cc ap a9 ba bb aq => ?_
 have bH := aq.fx 1 an
 have aR := aq.ge 1 6 rfl
 have bd := ao.new_ bb
 refine st_nil (a8 _ _ ?_)
 refine wp_block ?_
 refine wp_seq_k fun cd be => ?_
 refine wp_g0 [true, true] [] 16
   [ve (.bool (decide (((asM a).k) = 2))), ve (.bool (decide (((asM a).k) = 2)))] ap (.eq (.eq (.nil))) ?_ ?_
 exact .t (fun _ w hn k => ⟨_, v_bin rfl (k.fx 6 aR) rfl (fun _ => rfl) (r_eql rfl), rfl⟩) <| .a (fun k => k.eq1 0 8 rfl) .nil
 refine aftI ap a9 ba fun ce cf ad ar au bf ah => ?_
 have bI := ah.fx 1 bH
 have aS := ah.fx 6 aR
 have aT := ah.ge 1 7 rfl
 have bg := bd.new_ bf
 refine st_nil (be _ _ ?_)
 rcases bc (decide (((asM a).k) = 2)) with aa | aa
 have aC := oT aa
 have bh := hB aT aa
 refine wp_cond_true bh ?_
 refine wp_seq_k fun ch bi => ?_
 refine wp_g0 [true] [] 16
   [ve (.string ⟨#[78, 97, 78]⟩)] ad (.eq (.nil)) ?_ ?_
 exact .t (fun _ w hn k => ⟨_, v_assign rfl rfl, rfl⟩) .nil
 refine aftI ad ar au fun ci cj bT bj bk bU bl => ?_
 have bJ := bl.ge 0 2 rfl
 refine st_nil (bi _ _ ?_)
 refine wp_ret (ret_k bj (v := .string ⟨#[78, 97, 78]⟩) (res_t rfl bJ _) ?_)
 refine ⟨?_, bk⟩
 show Ending.returned (.string ⟨#[78, 97, 78]⟩) = Ending.returned (.string (textM a))
 first | rfl | (simp only [textM, aa, bsm] <;> rfl) | (exfalso; omega)
 have aC := oF aa
 have bm := hB aT aa
 refine wp_cond_false bm ?_
 refine wp_seq_k fun cl bn => ?_
 refine wp_g0 [true, true] [] 16
   [ve (.bool (decide (((asM a).k) = 3))), ve (.bool (decide (((asM a).k) = 3)))] ad (.eq (.eq (.nil))) ?_ ?_
 exact .t (fun _ w hn k => ⟨_, v_bin rfl (k.fx 6 aS) rfl (fun _ => rfl) (r_eql rfl), rfl⟩) <| .a (fun k => k.eq1 0 10 rfl) .nil
 refine aftI ad ar au fun cm cn ae av aw bo ai => ?_
 have bK := ai.fx 1 bI
 have bL := ai.fx 6 aS
 have aU := ai.ge 1 9 rfl
 have bp := bg.new_ bo
 refine st_nil (bn _ _ ?_)
 rcases bc (decide (((asM a).k) = 3)) with ac | ac
 have aD := oT ac
 have bq := hB aU ac
 refine wp_cond_true bq ?_
 refine wp_seq_k fun co br => ?_
 refine wp_g0 [true] [] 16
   [ve (.string ⟨#[73, 110, 102, 105, 110, 105, 116, 121]⟩)] ae (.eq (.nil)) ?_ ?_
 exact .t (fun _ w hn k => ⟨_, v_assign rfl rfl, rfl⟩) .nil
 refine aftI ae av aw fun cp cq bV bs bt bW bu => ?_
 have bM := bu.ge 0 2 rfl
 refine st_nil (br _ _ ?_)
 refine wp_ret (ret_k bs (v := .string ⟨#[73, 110, 102, 105, 110, 105, 116, 121]⟩) (res_t rfl bM _) ?_)
 refine ⟨?_, bt⟩
 show Ending.returned (.string ⟨#[73, 110, 102, 105, 110, 105, 116, 121]⟩) = Ending.returned (.string (textM a))
 first | rfl | (simp only [textM, aa, ac, bsm] <;> rfl) | (exfalso; omega)
 have aD := oF ac
 have bv := hB aU ac
 refine wp_cond_false bv ?_
 refine wp_seq_k fun cr bw => ?_
 refine wp_g0 [true, true] [] 16
   [ve (.bool (decide (((asM a).k) = 4))), ve (.bool (decide (((asM a).k) = 4)))] ae (.eq (.eq (.nil))) ?_ ?_
 exact .t (fun _ w hn k => ⟨_, v_bin rfl (k.fx 6 bL) rfl (fun _ => rfl) (r_eql rfl), rfl⟩) <| .a (fun k => k.eq1 0 12 rfl) .nil
 refine aftI ae av aw fun ct cu af ax ag bx ay => ?_
 have bz := ay.fx 1 bK
 have az := ay.ge 1 11 rfl
 have aE := bp.new_ bx
 refine st_nil (bw _ _ ?_)
 rcases bc (decide (((asM a).k) = 4)) with ab | ab
 have aA := oT ab
 have aF := hB az ab
 refine wp_cond_true aF ?_
 refine wp_seq_k fun bX aG => ?_
 refine wp_g0 [true] [] 16
   [ve (.string ⟨#[45, 73, 110, 102, 105, 110, 105, 116, 121]⟩)] af (.eq (.nil)) ?_ ?_
 exact .t (fun _ w hn k => ⟨_, v_assign rfl rfl, rfl⟩) .nil
 refine aftI af ax ag fun bY bZ bN aH aI bO aJ => ?_
 have bA := aJ.ge 0 2 rfl
 refine st_nil (aG _ _ ?_)
 refine wp_ret (ret_k aH (v := .string ⟨#[45, 73, 110, 102, 105, 110, 105, 116, 121]⟩) (res_t rfl bA _) ?_)
 refine ⟨?_, aI⟩
 show Ending.returned (.string ⟨#[45, 73, 110, 102, 105, 110, 105, 116, 121]⟩) = Ending.returned (.string (textM a))
 first | rfl | (simp only [textM, aa, ac, ab, bsm] <;> rfl) | (exfalso; omega)
 have aA := oF ab
 have aK := hB az ab
 refine wp_cond_false aK ?_
 refine wp_skip ?_
 refine aX _ _ ?_
 refine wp_seq_k fun b0 aL => ?_
 refine wp_g0 [true, true, true, true] [] 16
   [ve (.pointer (some ⟨q9, 1, none⟩)), ve (iv ((asM a).n)), ve (.string (itoaS ((asM a).n))), ve (.string (itoaS ((asM a).n)))] af (.eq (.eq (.eq (.eq (.nil))))) ?_ ?_
 exact .f (fun k => k.fx 1 bz) <| .t (fun _ w hn k => ⟨_, v_load rfl (k.eq1 0 13 rfl) (l_one Tryd.isAgg3 ((aE.new_ hn).cell 1)), rfl⟩) <| .o1 (ck rfl rfl rfl (fun _ w hn k => ⟨#[iv ((asM a).n)], args1 (k.eq1 1 14 rfl), fun _ => by kernel_rfl, HT ((asM a).n) (by omega) (by omega) _ (ag.transNew hn)⟩) fun _ => rfl) <| .a (fun k => k.eq1 2 15 rfl) .nil
 refine aftI af ax ag fun b1 b2 bP aM aN bQ aO => ?_
 have bB := aO.ge 3 2 rfl
 refine st_nil (aL _ _ ?_)
 refine wp_ret (ret_k aM (v := .string (itoaS ((asM a).n))) (res_t rfl bB _) ?_)
 refine ⟨?_, aN⟩
 show Ending.returned (.string (itoaS ((asM a).n))) = Ending.returned (.string (textM a))
 first | rfl | (simp only [textM, aa, ac, ab, bsm] <;> rfl) | (exfalso; omega)
def encW (m : List Nat) : List Value := m.map fun x : Nat => .int .u32 (x : Int)
theorem encW_one (m : List Nat) : ∀ u ∈ encW m, u.oneCell' = true := by
  intro u hu
  obtain ⟨x, _, rfl⟩ := List.mem_map.1 hu
  rfl
theorem encW_app (a b : List Nat) : encW (a ++ b) = encW a ++ encW b := by simp [encW]
theorem encW_take (a : List Nat) (k : Nat) : encW (a.take k) = (encW a).take k := by simp [encW]
theorem encW_set (a : List Nat) (k x : Nat) : encW (a.set k x) = (encW a).set k (.int .u32 (x : Int)) := by simp [encW]
theorem encW_get (a : List Nat) (k : Nat) (h : k < a.length) : (encW a)[k]? = some (.int .u32 ((a.getD k 0 : Nat) : Int)) := by simp [encW, List.getD, h]
theorem rowW {w : World} {A : Option Addr} {n c : Nat} {m : List Nat} (h : RowAt w 1 (.slice A n c) n (encW m)) {k : Nat} (hk : k < n) :
    ∃ b off, A = some ⟨b, off, none⟩ ∧ n ≤ c ∧ c ≤ maxLen ∧ b < w.heap.size ∧ w.cell? ⟨b, off + k, none⟩ = some (.int .u32 ((m.getD k 0 : Nat) : Int)) := by
  rcases h.2 with ⟨h0, _⟩ | ⟨b, off, c', hv, hc, hm, hb, hx⟩
  · omega
  · injection hv with hA _ hc'
    subst hA hc'
    have hl : m.length = n := by simpa [encW] using h.1
    exact ⟨b, off, rfl, hc, hm, hb, hx k _ (encW_get m k (by omega))⟩
theorem row_max {w : World} {size n : Nat} {v : Value} {xs : List Value} (h : RowAt w size v n xs) : (n : Int) ≤ 9223372036854775807 := by
  rcases h.2 with ⟨h0, _⟩ | ⟨_, _, c', _, hc, hm, _⟩
  · omega
  · unfold maxLen at hm; omega
/-- A shorter piece of a row reads as the piece. -/
theorem RowAt.cut {w : World} {A : Option Addr} {n c : Nat} {m : List Nat} (h : RowAt w 1 (.slice A n c) n (encW m)) {k : Nat} (hk : k ≤ n) : RowAt w 1 (.slice A k c) k (encW (m.take k)) := by
  have hl : m.length = n := by simpa [encW] using h.1
  refine ⟨by simp [encW]; omega, ?_⟩
  rcases h.2 with ⟨rfl, _⟩ | ⟨b, off, c', hv, hc, hm, hb, hx⟩
  · exact .inl ⟨by omega, A, c, by rw [show k = 0 by omega]⟩
  · injection hv with hA _ hc'
    subst hA hc'
    refine .inr ⟨b, off, c, rfl, by omega, hm, hb, fun j u hj => hx j u ?_⟩
    simp only [encW, List.map_take, List.getElem?_take] at hj ⊢
    split at hj
    · exact hj
    · cases hj
set_option maxHeartbeats 400000 in
theorem cloneW (v : Value) (n : Nat) (xs : List Value) (w : World) (hr : RowAt w 1 v n xs) (h1 : ∀ u ∈ xs, u.oneCell' = true) (hb : n * 4 ≤ 140737488355328) :
    Calls Tryd.prog 67 #[v] w fun e w' => ∃ v', e = .returned v' ∧ Own w' w.heap.size 53 1 v' n xs ∧ New w w' := by
  have hm : n ≤ maxLen := by unfold maxLen; omega
  obtain ⟨A, c, rfl⟩ := hr.form
  cases A with
  | none =>
    obtain ⟨rfl, rfl⟩ : n = 0 ∧ xs = [] := by
      rcases hr.2 with ⟨h0, _⟩ | ⟨b, off, c', hv, _⟩
      · exact ⟨h0, List.eq_nil_of_length_eq_zero (by rw [hr.1, h0])⟩
      · cases hv
    have hE : ∀ W : World, (binOp .eql 24 (.slice none 0 c) (.slice none 0 0)).run Tryd.prog W = .ok (.bool true) W := fun W => Lib.run_eql_slice_nil W _ _ _ _ _ _ _ Tryd.underlying24
    go_enter Tryd.func67, Tryd.ntmps67
    go_wp2
    go_ret
    exact ⟨_, rfl, Own.nil_ _ _ _ _, Upd.refl _ _⟩
  | some a =>
    have hE : ∀ W : World, (binOp .eql 24 (.slice (some a) n c) (.slice none 0 0)).run Tryd.prog W = .ok (.bool false) W := fun W => Lib.run_eql_slice_nil W _ _ _ _ _ _ _ Tryd.underlying24
    have hr1 : RowAt (w.alloc (.cells #[] 53)) 1 (.slice (some a) n c) n xs := hr.new_ ((Upd.refl _ _).alloc _)
    have ho : Own (w.alloc (.cells #[] 53)) w.heap.size 53 1 (.slice (some ⟨w.heap.size, 0, none⟩) 0 0) 0 [] := .inr ⟨rfl, rfl, _, rfl⟩
    go_enter Tryd.func67, Tryd.ntmps67
    go_wp2_with (at_builtin; refine wpList_append_row _ rfl (.tmp 5) (.tmp 6) elW rfl w.heap.size (.slice (some ⟨w.heap.size, 0, none⟩) 0 0) 0 [] rfl ho _ n xs rfl hr1 h1 (by rw [Nat.zero_add]; exact hb) (by rw [Nat.zero_add]; exact hm) (by simp) ?_; intro v' w' hown hg hat)
    go_ret
    refine ⟨v', rfl, by simpa using hown, (((Upd.refl _ _).alloc _).grown hg (fun k hk => by simp [ownB] at hk))⟩
def IsMay (b : Bool) (m : List Nat) (w : World) (e : Ending) (w' : World) : Prop := e = .returned (.bool (mayB b m)) ∧ New w w'
theorem may_any (b : Bool) (v : Value) (m : List Nat) (w : World) (hr : RowAt w 1 v m.length (encW m)) :
    Calls Tryd.prog 34 #[.agg #[.bool b, v]] w (IsMay b m w) := by
  obtain ⟨A, c, rfl⟩ := hr.form
  have hmax := row_max hr
  by_cases h8 : m.length ≤ 8
  · rcases Nat.eq_zero_or_pos m.length with h0 | h0
    · have hb : mayB b m = !b := by simp [mayB, h0]
      rw [h0] at hr ⊢
      have Hb := hide hb
      clear hb hr hmax h0 h8
      cases b
      all_goals
        go_enter Tryd.func34, Tryd.ntmps34
        go_wp2
        go_ret
        exact ⟨by rw [Hb.out]; rfl, (Upd.refl _ _).alloc _⟩
    · obtain ⟨b1, off, rfl, hc, hm, hb1, hcell⟩ := rowW hr (k := m.length - 1) (by omega)
      have hb : mayB b m = decide (m.getD (m.length - 1) 0 ≠ 0) := by
        have : m.length ≠ 0 := by omega
        simp [mayB, h8, h0, this]
      obtain ⟨x, hx⟩ : ∃ x, x = m.getD (m.length - 1) 0 := ⟨_, rfl⟩
      rw [← hx] at hcell hb
      have hcell1 : (w.alloc (.cells #[.bool b, .slice (some ⟨b1, off, none⟩) m.length c] 26)).cell? ⟨b1, off + (m.length - 1), none⟩ = some (.int .u32 (x : Int)) := (((Upd.refl (fun _ => False) w).alloc _).cellN (p := ⟨b1, off + (m.length - 1), none⟩) hb1).trans hcell
      obtain ⟨n, hn⟩ : ∃ n, n = m.length := ⟨_, rfl⟩
      rw [← hn] at hcell1 hc h8 h0 hmax ⊢
      have hz : ((n : Int) == 0) = false := by simp; omega
      have Hb := hide hb
      clear hb hr hx hcell hn hm
      go_enter Tryd.func34, Tryd.ntmps34
      go_wp2
      go_ret
      refine ⟨?_, (Upd.refl _ _).alloc _⟩
      rw [Hb.out]
      by_cases h : x = 0 <;> simp [h]
  · have hb : mayB b m = false := by simp [mayB]; omega
    have Hb := hide hb
    clear hb hr
    go_enter Tryd.func34, Tryd.ntmps34
    go_wp2
    go_ret
    exact ⟨by rw [Hb.out]; rfl, (Upd.refl _ _).alloc _⟩
def lenOf : Value → Nat
  | .slice _ n _ => n
  | _ => 0
def IsTrim (A : Option Addr) (c : Nat) (m : List Nat) (w : World) (e : Ending) (w' : World) : Prop := e = .returned (.slice A (canon (val m)).length c) ∧ w = w'
set_option maxHeartbeats 800000 in
theorem trim_any (A : Option Addr) (n c : Nat) (m : List Nat) (w : World) (hr : RowAt w 1 (.slice A n c) n (encW m)) (hl : Limbs m) :
    Calls Tryd.prog 55 #[.slice A n c] w (IsTrim A c m w) := by
  have hn : m.length = n := by simpa [encW] using hr.1
  have hmax := row_max hr
  have Hr := hide (And.intro hr (And.intro hl hn))
  clear hr hl hn
  go_enter Tryd.func55, Tryd.ntmps55
  go_wp2
  go_loop [0] (fun v => ∃ k : Nat, k ≤ n ∧ v = .slice A k c ∧ Hid (val (m.take k) = val m)) (fun v => lenOf v)
  case atStart => exact ⟨n, Nat.le_refl _, rfl, by show _ = _; rw [List.take_of_length_le (by rw [Hr.out.2.2]; exact Nat.le_refl _)]⟩
  case round =>
    obtain ⟨k, hk, rfl, hv⟩ := hrel
    have hend : (m.take k = [] ∨ 0 < (m.take k).getD (k - 1) 0) → (canon (val m)).length = k := by
      intro ht
      have hlk : (m.take k).length = k := by rw [List.length_take, Hr.out.2.2]; omega
      have h1 : m.take k = canon (val (m.take k)) := canon_val (Hr.out.2.1.take k) (by
        rcases ht with ht | ht
        · exact .inl ht
        · exact .inr (by rw [hlk]; exact ht))
      have h2 : val (m.take k) = val m := hv
      rw [← h2, ← h1, hlk]
    have Hend := hide hend
    clear hend
    rcases Nat.eq_zero_or_pos k with rfl | hk0
    · go_wp2
      go_ret
      refine ⟨?_, rfl⟩
      rw [Hend.out (.inl (by simp))]
      rfl
    · obtain ⟨b, off, rfl, hc, hm, hb, hcell⟩ := rowW Hr.out.1 (k := k - 1) (by omega)
      obtain ⟨x, hx⟩ : ∃ x, x = m.getD (k - 1) 0 := ⟨_, rfl⟩
      rw [← hx] at hcell
      have Hx := hide hx
      have hcm : (c : Int) ≤ 9223372036854775807 := by unfold maxLen at hm; omega
      have hkc : k ≤ c := by omega
      clear hx hm
      have hd : (m.take k).getD (k - 1) 0 = m.getD (k - 1) 0 := by simp [List.getD, show k - 1 < k by omega]
      have Hd := hide hd
      clear hd
      by_cases h0 : x = 0
      · subst h0
        go_wp2
        go_round
        case rel =>
          refine ⟨k - 1, by omega, ?_, ?_⟩
          · rfl
          · show val (m.take (k - 1)) = val m
            have h1 := val_take m (k - 1)
            rw [show k - 1 + 1 = k by omega, ← Hx.out, Nat.mul_zero, Nat.add_zero] at h1
            rw [← h1]
            exact hv
        case measure => simp [lenOf]; omega
      · have h0' : ((x : Int) == 0) = false := by simp; omega
        clear h0
        go_wp2
        go_ret
        refine ⟨?_, rfl⟩
        rw [Hend.out (.inr (by rw [Hd.out, ← Hx.out]; simp at h0'; omega))]
        rfl
/-- A value that is a number that came in, worth z. -/
def BigAt (w : World) (x : Value) (z : Int) : Prop := ∃ b v m, x = .agg #[.bool b, v] ∧ RowAt w 1 v m.length (encW m) ∧ Limbs m ∧ goodI b m = z
/-- A value that is just z's number. -/
def CanAt (w : World) (x : Value) (z : Int) : Prop := ∃ d v, x = .agg #[.bool d, v] ∧ d = decide (z < 0) ∧ RowAt w 1 v (canon z.natAbs).length (encW (canon z.natAbs))
/-- A row of limbs is no part of a number's own two cells. -/
theorem RowAt.store {w : World} {v : Value} {n : Nat} {m : List Nat} {q : Nat} {t : TypeId} {f0 : Bool} {A0 : Option Addr} {n0 c0 : Nat} (h : RowAt w 1 v n (encW m)) (hb : Blk w q t [.bool f0, .slice A0 n0 c0]) (u u' : Value) :
    RowAt ((w.setCell ⟨q, 0, none⟩ u).setCell ⟨q, 1, none⟩ u') 1 v n (encW m) := by
  have hu : Upd (fun b => b = q) w ((w.setCell ⟨q, 0, none⟩ u).setCell ⟨q, 1, none⟩ u') := ((Upd.refl (fun b => b = q) w).setCell (p := ⟨q, 0, none⟩) (.inl rfl) u).setCell (p := ⟨q, 1, none⟩) (.inl rfl) u'
  have hl : m.length = n := by simpa [encW] using h.1
  refine ⟨h.1, ?_⟩
  rcases h.2 with h0 | ⟨b, off, c, hv, hc, hm, hbs, hx⟩
  · exact .inl h0
  · rcases Nat.eq_zero_or_pos n with rfl | hn
    · exact .inl ⟨rfl, _, _, hv⟩
    · refine .inr ⟨b, off, c, hv, hc, hm, Nat.lt_of_lt_of_le hbs hu.size, fun j y hj => (hu.cell (p := ⟨b, off + j, none⟩) hbs ?_).trans (hx j y hj)⟩
      rintro rfl
      have h0 := hx 0 _ (encW_get m 0 (by omega))
      have hc0 := hb.cell (off + 0)
      rw [hc0] at h0
      rcases off with _ | _ | off <;> simp at h0
theorem CanAt.store {w w2 : World} {q : Nat} {t : TypeId} {f0 : Bool} {A0 : Option Addr} {n0 c0 : Nat} {f : Bool} {A : Option Addr} {n c : Nat} {z : Int} (hcan : CanAt w2 (.agg #[.bool f, .slice A n c]) z) (hb : Blk w2 q t [.bool f0, .slice A0 n0 c0]) (hn : New w w2) (hq : w.heap.size ≤ q) :
    ∃ w3, w3 = (w2.setCell ⟨q, 0, none⟩ (.bool f)).setCell ⟨q, 1, none⟩ (.slice A n c) ∧ CanAt w3 (.agg #[.bool f, .slice A n c]) z ∧ New w w3 ∧ w3.cell? ⟨q, 0, none⟩ = some (.bool f) ∧ w3.cell? ⟨q, 1, none⟩ = some (.slice A n c) ∧
      ∀ g s cs, g ≠ q → Blk w2 g s cs → Blk w3 g s cs := by
  have hu : Upd (fun b => b = q) w2 ((w2.setCell ⟨q, 0, none⟩ (.bool f)).setCell ⟨q, 1, none⟩ (.slice A n c)) := ((Upd.refl (fun b => b = q) w2).setCell (p := ⟨q, 0, none⟩) (.inl rfl) _).setCell (p := ⟨q, 1, none⟩) (.inl rfl) _
  have hb3 := (hb.set_ 0 (.bool f)).set_ 1 (.slice A n c)
  refine ⟨_, rfl, ?_, hn.trans hu fun i hi hiq => by omega, hb3.cell 0, hb3.cell 1, fun g s cs hg hb => (hb.far (p := ⟨q, 0, none⟩) hg _).far (p := ⟨q, 1, none⟩) hg _⟩
  obtain ⟨d, v, hx, hd, hr⟩ := hcan
  exact ⟨d, v, hx, hd, hr.store hb _ _⟩
theorem BigAt.new_ {w w' : World} {x : Value} {z : Int} (h : BigAt w x z) (hu : New w w') : BigAt w' x z := by
  obtain ⟨b, v, m, hx, hr, hl, hg⟩ := h
  exact ⟨b, v, m, hx, hr.new_ hu, hl, hg⟩
theorem CanAt.new_ {w w' : World} {x : Value} {z : Int} (h : CanAt w x z) (hu : New w w') : CanAt w' x z := by
  obtain ⟨d, v, hx, hd, hr⟩ := h
  exact ⟨d, v, hx, hd, hr.new_ hu⟩
theorem BigAt.lt {w : World} {x : Value} {z : Int} (h : BigAt w x z) : z.natAbs < 2 ^ 256 := by
  obtain ⟨b, v, m, hx, hr, hl, hg⟩ := h
  rw [← hg]
  exact good_lt hl
theorem CanAt.big {w : World} {x : Value} {z : Int} (h : CanAt w x z) (hz : z.natAbs < 2 ^ 256) : BigAt w x z := by
  obtain ⟨d, v, hx, hd, hr⟩ := h
  subst hd
  refine ⟨_, v, _, hx, hr, limbs_canon _, ?_⟩
  unfold goodI
  rw [if_pos (may_canon hz), val_canon]
  unfold sgn
  split
  · rename_i h; simp at h; omega
  · rename_i h; simp at h; omega
theorem CanAt.zero (w : World) : CanAt w (.agg #[.bool false, .slice none 0 0]) 0 := ⟨false, _, rfl, rfl, by
  rw [show (0 : Int).natAbs = 0 from rfl, canon_zero]
  exact ⟨rfl, .inl ⟨rfl, none, 0, rfl⟩⟩⟩
def IsMag (z : Int) (w : World) (e : Ending) (w' : World) : Prop := ∃ A n c, e = .returned (.slice A n c) ∧ n = (canon z.natAbs).length ∧ Own w' w.heap.size 53 1 (.slice A n c) n (encW (canon z.natAbs)) ∧ New w w'
set_option maxHeartbeats 400000 in
theorem mag_any (x : Value) (z : Int) (w : World) (h : BigAt w x z) : Calls Tryd.prog 54 #[x] w (IsMag z w) := by
  obtain ⟨b, v, m, rfl, hr, hl, hg⟩ := h
  have hmg := canon_good (b := b) hl
  rw [hg] at hmg
  have hr1 := hr.new_ ((Upd.refl (fun _ => False) w).alloc (.cells #[.bool b, v] 26))
  have hn1 : New w (w.alloc (.cells #[.bool b, v] 26)) := (Upd.refl _ _).alloc _
  obtain ⟨A, c, rfl⟩ := hr.form
  have Hr := hide (And.intro hr1 (And.intro hl (And.intro hg (And.intro hmg hn1))))
  clear hr hr1 hl hg hmg hn1
  cases hb : mayB b m
  · have Hb := hide hb
    clear hb
    go_enter Tryd.func54, Tryd.ntmps54
    go_wp2_with fail
    refine (may_any b _ m _ Hr.out.1).mono ?_
    rintro e w1 ⟨rfl, hn⟩
    rw [Hb.out]
    go_wp2
    go_ret
    refine ⟨_, _, _, rfl, ?_, ?_, Hr.out.2.2.2.2.transNew hn⟩
    · rw [Hr.out.2.2.2.1, Hb.out]; rfl
    · rw [Hr.out.2.2.2.1, Hb.out]; exact Own.nil_ _ _ _ _
  · have Hb := hide hb
    have h8 := (may_trim hb).2.1
    clear hb
    have hw1 : ∀ w1, New (w.alloc (.cells #[.bool b, .slice A m.length c] 26)) w1 → w1.cell? ⟨w.heap.size, 1, none⟩ = some (.slice A m.length c) := fun w1 hn =>
      (hn.cellN (p := ⟨w.heap.size, 1, none⟩) (by simp)).trans ((Blk.new w 26 [.bool b, .slice A m.length c]).cell 1)
    have Hw1 := hide hw1
    clear hw1
    go_enter Tryd.func54, Tryd.ntmps54
    go_wp2_with fail
    refine (may_any b _ m _ Hr.out.1).mono ?_
    rintro e w1 ⟨rfl, hn⟩
    rw [Hb.out]
    have hc := Hw1.out w1 hn
    go_wp2_with fail
    refine (cloneW _ m.length (encW m) _ (Hr.out.1.new_ hn) (encW_one m) (by omega)).mono ?_
    rintro e w2 ⟨v2, rfl, ho2, hn2⟩
    obtain ⟨A2, c2, rfl⟩ := ho2.row.form
    go_wp2
    go_ret
    have hm : canon z.natAbs = m := by rw [Hr.out.2.2.2.1, Hb.out]; rfl
    refine ⟨_, _, _, rfl, by rw [hm], ?_, (Hr.out.2.2.2.2.transNew hn).transNew hn2⟩
    rw [hm]
    exact ho2.more (Nat.le_trans (Nat.le_of_lt (by simp)) hn.size)
def IsNeg (z : Int) (w : World) (e : Ending) (w' : World) : Prop := ∃ d, e = .returned (.bool d) ∧ d = decide (z < 0) ∧ New w w'
set_option maxHeartbeats 400000 in
theorem neg_any (x : Value) (z : Int) (w : World) (h : BigAt w x z) : Calls Tryd.prog 56 #[x] w (IsNeg z w) := by
  obtain ⟨b, v, m, rfl, hr, hl, hg⟩ := h
  have hmg := neg_good (b := b) hl
  rw [hg] at hmg
  have hr1 := hr.new_ ((Upd.refl (fun _ => False) w).alloc (.cells #[.bool b, v] 26))
  have hn1 : New w (w.alloc (.cells #[.bool b, v] 26)) := (Upd.refl _ _).alloc _
  have hw1 : ∀ w1, New (w.alloc (.cells #[.bool b, v] 26)) w1 → w1.cell? ⟨w.heap.size, 0, none⟩ = some (.bool b) := fun w1 hn =>
    (hn.cellN (p := ⟨w.heap.size, 0, none⟩) (by simp)).trans ((Blk.new w 26 [.bool b, v]).cell 0)
  have Hr := hide (And.intro hr1 (And.intro hmg (And.intro hn1 hw1)))
  clear hr hr1 hl hg hmg hn1 hw1
  cases hb : mayB b m
  all_goals
    have Hb := hide hb
    clear hb
    go_enter Tryd.func56, Tryd.ntmps56
    go_wp2_with fail
    refine (may_any b _ m _ Hr.out.1).mono ?_
    rintro e w1 ⟨rfl, hn⟩
    rw [Hb.out]
    have hc := Hr.out.2.2.2 w1 hn
    go_wp2
    go_ret
    exact ⟨_, rfl, by rw [Hr.out.2.1, Hb.out]; rfl, Hr.out.2.2.1.transNew hn⟩
def IsMade (z : Int) (w : World) (e : Ending) (w' : World) : Prop := ∃ f A n c, e = .returned (.agg #[.bool f, .slice A n c]) ∧ CanAt w' (.agg #[.bool f, .slice A n c]) z ∧ New w w'
set_option maxHeartbeats 400000 in
theorem made_any (A : Option Addr) (n c : Nat) (m : List Nat) (d : Bool) (w : World) (hr : RowAt w 1 (.slice A n c) n (encW m)) (hl : Limbs m) :
    Calls Tryd.prog 68 #[.slice A n c, .bool d] w (IsMade (sgn d (val m)) w) := by
  have hn1 : New w (w.alloc (.cells #[.bool false, .slice none 0 0] 26)) := (Upd.refl _ _).alloc _
  have hr1 := hr.new_ hn1
  have hn : m.length = n := by simpa [encW] using hr.1
  have hk : (canon (val m)).length ≤ n := by rw [← hn]; exact canon_len_le (val_lt hl)
  have htk := take_canon hl
  have hrk := hr.cut hk
  rw [htk] at hrk
  have Hr := hide (And.intro hr1 (And.intro hl (And.intro hn1 hrk)))
  clear hr hr1 hl hn1 hrk htk
  obtain ⟨k, hkk⟩ : ∃ k, k = (canon (val m)).length := ⟨_, rfl⟩
  rw [← hkk] at hk
  by_cases h0 : k = 0
  · subst h0
    have Hk := hide hkk
    clear hkk
    go_enter Tryd.func68, Tryd.ntmps68
    go_wp2_with fail
    refine (trim_any A n c m _ Hr.out.1 Hr.out.2.1).mono ?_
    rintro e w1 ⟨rfl, rfl⟩
    rw [← Hk.out]
    go_wp2
    have hz : sgn d (val m) = 0 := by
      have := canon_nil.1 (List.eq_nil_of_length_eq_zero Hk.out.symm)
      rw [this, sgn_zero]
    exact bodyPost_ret (v := .agg #[.bool false, .slice none 0 0]) (by simp [results, Tryd.results68, go_sem]) rfl ⟨_, _, _, _, rfl, by rw [hz]; exact CanAt.zero _, Hr.out.2.2.1⟩
  · have hk0 : ((k : Int) == 0) = false := by simp; omega
    have Hk := hide (And.intro hkk h0)
    clear hkk h0
    go_enter Tryd.func68, Tryd.ntmps68
    go_wp2_with fail
    refine (trim_any A n c m _ Hr.out.1 Hr.out.2.1).mono ?_
    rintro e w1 ⟨rfl, rfl⟩
    rw [← Hk.out.1]
    go_wp2
    have hv : 0 < val m := by
      rcases Nat.eq_zero_or_pos (val m) with h | h
      · have := Hk.out
        rw [h, canon_zero] at this
        exact absurd this.1 this.2
      · exact h
    have hr := Hr.out.2.2.2
    rw [← Hk.out.1] at hr
    refine bodyPost_ret (v := .agg #[.bool d, .slice A k c]) (by simp [results, Tryd.results68, go_sem]) rfl ⟨_, _, _, _, rfl, ⟨d, _, rfl, (sgn_neg hv).symm, ?_⟩, (Upd.refl _ _).alloc _⟩
    rw [natAbs_sgn, ← Hk.out.1]
    exact hr.new_ ((Upd.refl _ _).alloc _)
theorem BigAt.form {w : World} {x : Value} {z : Int} (h : BigAt w x z) : ∃ b A n c, x = .agg #[.bool b, .slice A n c] := by
  obtain ⟨b, v, m, rfl, hr, _⟩ := h
  obtain ⟨A, c, rfl⟩ := hr.form
  exact ⟨b, A, _, c, rfl⟩
theorem push_limb {w wr : World} {v : Value} {k : Nat} {ds : List Nat} (hown : Own wr w.heap.size 53 1 v k (encW ds)) (hn : New w wr) (x : Nat) :
    Own (wr.alloc (.cells #[.int .u32 (x : Int)] 53)) w.heap.size 53 1 v k (encW ds) ∧ RowAt (wr.alloc (.cells #[.int .u32 (x : Int)] 53)) 1 (.slice (some ⟨wr.heap.size, 0, none⟩) 1 1) 1 (encW [x]) ∧
      w.heap.size ≤ (wr.alloc (.cells #[.int .u32 (x : Int)] 53)).heap.size ∧ New w (wr.alloc (.cells #[.int .u32 (x : Int)] 53)) :=
  ⟨hown.new_ ((Upd.refl _ _).alloc _), RowAt.fresh wr _ (encW [x]) 1 1 rfl (by omega) (by unfold maxLen; omega), (hn.alloc _).size, hn.alloc _⟩
theorem push_new {w wb w' : World} {v : Value} {k : Nat} {xs : List Value} (hn : New w wb) (hown : Own wb w.heap.size 53 1 v k xs) (hg : wb.grownBy w' (ownB v)) : New w w' :=
  hn.grown hg fun j hj => .inr (hown.lt j hj).1
/-- The first k of a row of one's own. -/
theorem Own.cut {w : World} {base : Nat} {t : TypeId} {A : Option Addr} {n c : Nat} {xs : List Value} (h : Own w base t 1 (.slice A n c) n xs) {k : Nat} (hk : k ≤ n) : Own w base t 1 (.slice A k c) k (xs.take k) := by
  have hl := h.len
  rcases h with ⟨h1, h2⟩ | ⟨rfl, rfl, A', hA⟩
  · rcases h2 with ⟨hv, hx⟩ | ⟨g, cap, cur, hv, hb, hg, hn, hm, hs, ht⟩
    · injection hv with hA hn hc
      subst hA hn hc
      obtain rfl : k = 0 := by omega
      exact .inl ⟨by simp, .inl ⟨rfl, by simp⟩⟩
    · injection hv with hA _ hc
      subst hA hc
      refine .inl ⟨by rw [List.length_take]; omega, .inr ⟨g, c, cur, rfl, hb, hg, by omega, hm, hs, ?_⟩⟩
      have ht' : cur.toList.take n = xs := by simpa using ht
      show cur.toList.take (k * 1) = xs.take k
      rw [Nat.mul_one, ← ht', List.take_take, Nat.min_eq_left hk]
  · injection hA with hA _ hc
    subst hA hc
    obtain rfl : k = 0 := by omega
    exact .inr ⟨rfl, by simp, _, rfl⟩
theorem Own.trim {w : World} {base : Nat} {A : Option Addr} {n c : Nat} {m : List Nat} (h : Own w base 53 1 (.slice A n c) n (encW m)) (hl : Limbs m) : Own w base 53 1 (.slice A (canon (val m)).length c) (canon (val m)).length (encW (canon (val m))) := by
  have hn : m.length = n := by have := h.len; simpa [encW] using this
  have := h.cut (k := (canon (val m)).length) (by rw [← hn]; exact canon_len_le (val_lt hl))
  rwa [← encW_take, take_canon hl] at this
/-- A place of a row of one's own: what it holds, that it may be written, and the row behind that. -/
theorem Own.place {w : World} {base : Nat} {t : TypeId} {A : Option Addr} {n c : Nat} {xs : List Value} (h : Own w base t 1 (.slice A n c) n xs) {j : Nat} (hj : j < n) :
    ∃ g, A = some ⟨g, 0, none⟩ ∧ n ≤ c ∧ c ≤ maxLen ∧ base ≤ g ∧ g < w.heap.size ∧ w.cell? ⟨g, j, none⟩ = xs[j]? ∧ w.frozen? ⟨g, j, none⟩ = false ∧
      ∀ u : Value, Own (w.setCell ⟨g, j, none⟩ u) base t 1 (.slice (some ⟨g, 0, none⟩) n c) n (xs.set j u) := by
  rcases h with ⟨h1, h2⟩ | ⟨h0, _⟩
  · rcases h2 with ⟨hv, _⟩ | ⟨g, cap, cur, hv, hb, hg, hn, hm, hs, ht⟩
    · injection hv with _ hn _; omega
    · injection hv with hA _ hc
      subst hA hc
      have ht' : cur.toList.take n = xs := by simpa using ht
      have hlt : g < w.heap.size := (Array.getElem?_eq_some_iff.1 hg).1
      have hbk : Blk w g t cur.toList := by unfold Blk; simpa using hg
      have hcur : j < cur.size := by omega
      refine ⟨g, rfl, hn, hm, hb, hlt, ?_, hbk.frozen j, fun u => .inl ⟨by simpa using h1, .inr ⟨g, c, cur.setIfInBounds j u, rfl, hb, ?_, hn, hm, by simpa using hs, ?_⟩⟩⟩
      · rw [hbk.cell j, ← ht', List.getElem?_take, if_pos hj]
      · have := hbk.set_ j u
        unfold Blk at this
        rw [this]
        congr 2
        apply Array.ext'
        simp
      · rw [← ht']
        simp [List.take_set]
  · omega
theorem New.setAt {w w' : World} (h : New w w') {g : Nat} (hg : w.heap.size ≤ g) (j : Nat) (u : Value) : New w (w'.setCell ⟨g, j, none⟩ u) := h.setCell (p := ⟨g, j, none⟩) (.inr hg) u
theorem BigAt.len {w : World} {x : Value} {z : Int} (h : BigAt w x z) : (canon z.natAbs).length ≤ 8 := (canon_len8 _).2 h.lt
/-- A number and an error. -/
def IsZE (z : Int) (er : Int) (w : World) (e : Ending) (w' : World) : Prop := ∃ f A n c, e = .returned (.tuple #[.agg #[.bool f, .slice A n c], .int .i64 er]) ∧ CanAt w' (.agg #[.bool f, .slice A n c]) z ∧ New w w'
theorem CanAt.parts {w : World} {f : Bool} {A : Option Addr} {n c : Nat} {z : Int} (h : CanAt w (.agg #[.bool f, .slice A n c]) z) : f = decide (z < 0) ∧ n = (canon z.natAbs).length ∧ RowAt w 1 (.slice A n c) n (encW (canon z.natAbs)) := by
  obtain ⟨d, v, hx, hd, hr⟩ := h
  injection hx with hx
  have h1 : #[Value.bool f, .slice A n c][0]? = #[Value.bool d, v][0]? := by rw [hx]
  have h2 : #[Value.bool f, .slice A n c][1]? = #[Value.bool d, v][1]? := by rw [hx]
  simp at h1 h2
  subst h1 h2
  have hn : n = (canon z.natAbs).length := by
    obtain ⟨A', c', hf⟩ := hr.form
    injection hf
  subst hn
  exact ⟨hd, rfl, hr⟩
def encB (xs : List Int) : List Value := xs.map (Value.int .u8)
theorem encB_one (m : List Int) : ∀ u ∈ encB m, u.oneCell' = true := by
  intro u hu
  obtain ⟨x, _, rfl⟩ := List.mem_map.1 hu
  rfl
theorem encB_app (a b : List Int) : encB (a ++ b) = encB a ++ encB b := by simp [encB]
theorem encB_set (a : List Int) (k : Nat) (x : Int) : encB (a.set k x) = (encB a).set k (.int .u8 x) := by simp [encB]
theorem encB_get (a : List Int) (k : Nat) (h : k < a.length) : (encB a)[k]? = some (.int .u8 (a.getD k 0)) := by simp [encB, List.getD, h]
def IsRev (W : World) (base : Nat) (A : Option Addr) (n c : Nat) (l : List Int) (e : Ending) (w' : World) : Prop := e = .returned (.tuple #[]) ∧ Own w' base 5 1 (.slice A n c) n (encB l.reverse) ∧ Upd (fun q => ownB (.slice A n c) = some q) W w'
set_option maxHeartbeats 3200000 in
theorem reverse_any (base : Nat) (A : Option Addr) (n c : Nat) (l : List Int) (w : World) (ho : Own w base 5 1 (.slice A n c) n (encB l)) (hs : n ≤ 100000) :
    Calls Tryd.prog 57 #[.slice A n c] w (IsRev w base A n c l) := by
  have hl : l.length = n := by have := ho.len; simpa [encB] using this
  have Hl := hide hl
  have ho' : Own w base 5 1 (.slice A n c) n (encB (turned l 0)) := by rw [turned_zero]; exact ho
  clear hl ho
  go_enter Tryd.func57, Tryd.ntmps57
  go_wp2
  go_loopw [2, 3] (fun i j wr => ∃ k : Nat, i = .int .i64 k ∧ j = .int .i64 ((n : Int) - 1 - (k : Int)) ∧ k ≤ n ∧ Own wr base 5 1 (.slice A n c) n (encB (turned l k)) ∧ Upd (fun q => ownB (.slice A n c) = some q) w wr) (fun i _ _ => n - (intOf i).toNat)
  case atStart => exact ⟨0, rfl, by simp, by omega, ho', Upd.refl _ _⟩
  case round =>
    clear ho'
    obtain ⟨k, rfl, rfl, hk, ho, hu⟩ := hrel
    by_cases hlt : k + k + 1 < n
    · obtain ⟨g, rfl, hnc, hcm, hbg, hgl, hcell, hfz, hset⟩ := ho.place (j := k) (by omega)
      obtain ⟨g', hg', -, -, -, -, hcell2, hfz2, -⟩ := ho.place (j := n - 1 - k) (by omega)
      injection hg' with hg'
      injection hg' with hg' _ _
      subst hg'
      have hlt' : (turned l k).length = n := by rw [length_turned, Hl.out]
      rw [encB_get _ _ (by omega)] at hcell hcell2
      obtain ⟨x, hx⟩ : ∃ x, x = (turned l k).getD k 0 := ⟨_, rfl⟩
      obtain ⟨y, hy⟩ : ∃ y, y = (turned l k).getD (n - 1 - k) 0 := ⟨_, rfl⟩
      rw [← hx] at hcell
      rw [← hy] at hcell2
      have hb1 : (0 : Int) ≤ (k : Int) ∧ (k : Int) < (n : Int) ∧ (0 : Int) ≤ (n : Int) - 1 - (k : Int) ∧ (n : Int) - 1 - (k : Int) < (n : Int) := by omega
      obtain ⟨hb1, hb2, hb3, hb4⟩ := hb1
      have hne : k ≠ n - 1 - k := by omega
      have Hs := hide (And.intro hset (And.intro hx (And.intro hy (And.intro hu ho))))
      clear hset hx hy hu ho hcm hlt'
      go_wp2_with fail
      go_region
      obtain ⟨hset, hx, hy, hu, ho⟩ := Hs.out
      have ho1 := hset (.int .u8 y)
      rw [← encB_set] at ho1
      obtain ⟨g', hg', -, -, -, -, -, -, hset2⟩ := ho1.place (j := n - 1 - k) (by omega)
      injection hg' with hg'
      injection hg' with hg' _ _
      subst hg'
      have ho2 := hset2 (.int .u8 x)
      have hts := turned_succ l k (by rw [Hl.out]; exact hlt)
      rw [Hl.out, ← hx, ← hy] at hts
      rw [← encB_set, hts] at ho2
      have hF : ownB (.slice (some ⟨g, 0, none⟩) n c) = some g := by
        obtain ⟨c', rfl⟩ : ∃ c', c = c' + 1 := ⟨c - 1, by omega⟩
        rfl
      have ho3 := ho2.upd (Upd.refl (fun _ => False) _).drew (fun _ _ hf => hf)
      have hu3 := ((hu.setCell (p := ⟨g, k, none⟩) (.inl hF) (.int .u8 y)).setCell (p := ⟨g, n - 1 - k, none⟩) (.inl hF) (.int .u8 x)).drew
      have H3 := hide (And.intro ho3 hu3)
      clear hset hx hy hu ho ho1 hset2 ho2 hts ho3 hu3 hcell hcell2 hfz hfz2 hF
      go_wp2
      go_roundw
      case rel => exact ⟨k + 1, by go_num, by congr 1; omega, by omega, H3.out.1, H3.out.2⟩
      case measure => simp [intOf] <;> omega
    · have hge : (n : Int) - 1 - (k : Int) ≤ (k : Int) := by omega
      have H3 := hide (And.intro ho hu)
      clear ho hu
      go_wp2
      refine bodyPost_ret (v := .tuple #[]) (by simp [results, Tryd.results57, go_sem]) rfl ⟨rfl, ?_, H3.out.2⟩
      have h := H3.out.1
      rwa [turned_end l k (by rw [Hl.out]; omega)] at h
def IsText (xs : List Int) (w : World) (e : Ending) (w' : World) : Prop := e = .returned (.string (strOfNums xs)) ∧ New w w'
set_option maxHeartbeats 6400000 in
theorem text_any (x : Value) (z : Int) (w : World) (hx : BigAt w x z) : Calls Tryd.prog 37 #[x] w (IsText (textI z) w) := by
  obtain ⟨bx, Ax, nx, cx, rfl⟩ := hx.form
  obtain ⟨w1, hw1⟩ : ∃ w1, w1 = w.alloc (.cells #[.bool bx, .slice Ax nx cx] 26) := ⟨_, rfl⟩
  have hn1 : New w w1 := by rw [hw1]; exact (Upd.refl _ _).alloc _
  have hb1 : Blk w1 w.heap.size 26 [.bool bx, .slice Ax nx cx] := by rw [hw1]; exact Blk.new w _ _
  have hz := hx.new_ hn1
  have hzl := hx.lt
  have Hw := hide hw1
  clear hw1
  go_enter Tryd.func37, Tryd.ntmps37
  go_wp2_with fail
  rw [← Hw.out]
  refine (mag_any _ z _ hz).mono ?_
  rintro e w2 ⟨A, n, c, rfl, hl, ho, hm2⟩
  have hn2 := hn1.transNew hm2
  have hb2 := hb1.new_ hm2
  have hz2 := hz.new_ hm2
  have hsz : w.heap.size ≤ w1.heap.size := hn1.size
  have ho2 := ho.more hsz
  clear hn1 hb1 hz hm2 ho
  obtain ⟨V0, hV0⟩ : ∃ V0, V0 = z.natAbs := ⟨_, rfl⟩
  rw [← hV0] at hl ho2
  have hn8 : n ≤ 8 := by rw [hl, canon_len8, hV0]; exact hzl
  have hdl : (digs V0).length ≤ 78 := digs_big (by rw [hV0]; exact hzl)
  have Hl := hide (And.intro hl (And.intro hV0 hdl))
  have hzw := hx
  have H2 := hide (And.intro hb2 (And.intro hzw hn2))
  clear hl hV0 hdl hsz hzl hb2 hz2 hn2 hx hzw
  by_cases h0 : n = 0
  · subst h0
    have hz0 : z = 0 := by
      have h1 := canon_nil.1 (List.eq_nil_of_length_eq_zero Hl.out.1.symm)
      have := Hl.out.2.1
      omega
    have Hz := hide hz0
    clear hz0 ho2
    go_wp2
    go_ret
    refine ⟨?_, H2.out.2.2⟩
    rw [Hz.out]
    rfl
  · have hn0 : ((n : Int) == 0) = false := by simp; omega
    have hz0 : z ≠ 0 := by
      intro h
      refine h0 ?_
      rw [Hl.out.1, Hl.out.2.1, h, show (0 : Int).natAbs = 0 from rfl, canon_zero]; rfl
    have Hz := hide hz0
    clear h0 hz0
    go_wp2
    go_loopg [3, 4] V0 (fun gk m l wr => ∃ (A : Option Addr) (n c : Nat) (ds : List Int), m = .slice A n c ∧ n ≤ 8 ∧ ds.length ≤ 78 ∧ Hid (n = (canon gk).length ∧ (digs V0).map letter = ds ++ (digs gk).map letter) ∧ Own wr w.heap.size 53 1 (.slice A n c) n (encW (canon gk)) ∧ Own wr w.heap.size 5 1 l ds.length (encB ds) ∧ New w wr ∧ Hid (Blk wr w.heap.size 26 [.bool bx, .slice Ax nx cx]))
    case atStart => exact ⟨A, n, c, [], rfl, hn8, by simp, ⟨Hl.out.1, by simp⟩, ho2, Own.nil_ _ _ _ _, H2.out.2.2, H2.out.1⟩
    case round =>
      clear ho2 hn0
      obtain ⟨Am, nm, cm, ds, rfl, hnm8, hds, hd, hom, hol, hnew, hbox⟩ := hrel
      have Hd := hide (show nm = (canon gk).length ∧ (digs V0).map letter = ds ++ (digs gk).map letter from hd)
      clear hd
      by_cases hpos : 0 < nm
      · have hlc : (canon gk).length = nm := Hd.out.1.symm
        have hT := ten_start (limbs_canon gk)
        rw [hlc] at hT
        have Ho := hide (And.intro hom (And.intro hol (And.intro hnew (And.intro hT hbox))))
        clear hom hol hnew hT hlc hbox
        go_wp2
        go_loopw [5, 6] (fun r i wr => ∃ (k rr : Nat) (m2 : List Nat), k ≤ nm ∧ i = .int .i64 ((k : Int) - 1) ∧ r = .int .u64 (rr : Int) ∧ rr < 10 ∧ Hid (TenAt (canon gk) m2 k rr) ∧ Own wr w.heap.size 53 1 (.slice Am nm cm) nm (encW m2) ∧ Own wr w.heap.size 5 1 u4 ds.length (encB ds) ∧ New w wr ∧ Hid (Blk wr w.heap.size 26 [.bool bx, .slice Ax nx cx])) (fun _ i _ => (intOf i + 1).toNat)
        case atStart => exact ⟨nm, 0, canon gk, Nat.le_refl _, rfl, rfl, by omega, Ho.out.2.2.2.1, Ho.out.1, Ho.out.2.1, Ho.out.2.2.1, Ho.out.2.2.2.2⟩
        case round =>
          clear Ho
          obtain ⟨k, rr, m2, hk, rfl, rfl, hrr, hT, hom, hol, hnew, hbox⟩ := hrel
          rcases Nat.eq_zero_or_pos k with rfl | hk0
          · obtain ⟨he1, he2⟩ := ten_end (show TenAt (canon gk) m2 0 rr from hT)
            rw [val_canon] at he1 he2
            have hT' : TenAt (canon gk) m2 0 rr := hT
            have e1 : Value.int .u8 (48 + (rr : Int)) = .int .u8 (letter rr) := by simp [letter]
            have hgk : 0 < gk := by
              rcases Nat.eq_zero_or_pos gk with h | h
              · have := Hd.out.1
                rw [h, canon_zero] at this
                simp at this
                omega
              · exact h
            have hdg : (digs V0).map letter = (ds ++ [letter rr]) ++ (digs (gk / 10)).map letter := by
              rw [Hd.out.2, digs_pos hgk, List.map_cons, List.append_assoc, he2]
              rfl
            have hdsl : ds.length + 1 ≤ 78 := by
              have h1 := congrArg List.length hdg
              simp at h1
              have := Hl.out.2.2
              omega
            have hA : New wr (wr.alloc (.cells #[.int .u8 (letter rr)] 5)) := (Upd.refl _ _).alloc _
            have hrowl : RowAt (wr.alloc (.cells #[.int .u8 (letter rr)] 5)) 1 (.slice (some ⟨wr.heap.size, 0, none⟩) 1 1) 1 (encB [letter rr]) := RowAt.fresh wr _ (encB [letter rr]) 1 1 rfl (by omega) (by unfold maxLen; omega)
            have hbase : w.heap.size ≤ (wr.alloc (.cells #[.int .u8 (letter rr)] 5)).heap.size := (hnew.alloc _).size
            have P := hide (And.intro e1 (And.intro (hol.new_ hA) (And.intro hrowl (And.intro hbase (And.intro (hom.new_ hA) (And.intro (hnew.transNew hA) ((show Blk wr _ _ _ from hbox).new_ hA)))))))
            have Q := hide (And.intro he1 (And.intro hT' (And.intro hdg hgk)))
            clear e1 hA hrowl hbase hol hom hnew hbox he1 he2 hT hT' hdg hgk
            go_wp2_with (at_builtin; rw [P.out.1]; refine wpList_append_row _ rfl (.tmp 38) (.tmp 42) elB rfl w.heap.size u4 ds.length (encB ds) rfl P.out.2.1 (.slice (some ⟨wr.heap.size, 0, none⟩) 1 1) 1 (encB [letter rr]) rfl P.out.2.2.1 (encB_one _) (by omega) (by unfold maxLen; omega) P.out.2.2.2.1 ?_; intro v3 w3 hown3 hg3 _)
            have hu3 : Upd (fun q => ownB u4 = some q) (wr.alloc (.cells #[.int .u8 (letter rr)] 5)) w3 := (Upd.refl _ _).grown hg3 fun q hq => .inl hq
            have hom3 := P.out.2.2.2.2.1.upd hu3 fun q hq hq' => P.out.2.2.2.2.1.ne_own P.out.2.1 (by decide) q hq hq'
            have hbox3 := P.out.2.2.2.2.2.2.upd hu3 fun hq => P.out.2.1.ne_blk P.out.2.2.2.2.2.2 (by decide) _ hq rfl
            have hnew3 : New w w3 := P.out.2.2.2.2.2.1.grown hg3 fun q hq => .inr (P.out.2.1.lt q hq).1
            rw [← encB_app] at hown3
            have Q3 := hide (And.intro hom3 (And.intro hbox3 (And.intro hnew3 hown3)))
            clear hu3 hom3 hbox3 hnew3 hown3 hg3
            go_wp2_with fail
            refine (trim_any Am nm cm m2 _ Q3.out.1.row Q.out.2.1.limbs).mono ?_
            rintro e w4 ⟨rfl, rfl⟩
            have hot := Q3.out.1.trim Q.out.2.1.limbs
            rw [Q.out.1] at hot ⊢
            obtain ⟨nz, hnz⟩ : ∃ nz, nz = (canon (gk / 10)).length := ⟨_, rfl⟩
            rw [← hnz] at hot ⊢
            have hnz8 : nz ≤ 8 := by
              rw [hnz]
              refine Nat.le_trans (canon_len_le (k := (canon gk).length) ?_) (by rw [← Hd.out.1]; exact hnm8)
              have h := val_lt (limbs_canon gk)
              rw [val_canon] at h
              exact Nat.lt_of_le_of_lt (Nat.div_le_self _ _) h
            have Hot := hide (And.intro hot hnz)
            clear hot hnz
            go_wp2
            go_roundg (gk / 10)
            case measure => have := Q.out.2.2.2; omega
            case rel => exact ⟨Am, nz, cm, ds ++ [letter rr], rfl, hnz8, by simpa using hdsl, ⟨Hot.out.2, Q.out.2.2.1⟩, Hot.out.1, by simpa using Q3.out.2.2.2, Q3.out.2.2.1, Q3.out.2.1⟩
          · obtain ⟨p, rfl⟩ : ∃ p, k = p + 1 := ⟨k - 1, by omega⟩
            rw [show (((p + 1 : Nat) : Int) - 1) = (p : Int) by omega]
            obtain ⟨g, rfl, hnc, hcm, hbg, hgl, hcell, hfz, hset⟩ := hom.place (j := p) (by omega)
            have hT' : TenAt (canon gk) m2 (p + 1) rr := hT
            obtain ⟨hs1, hs2, hs3⟩ := ten_step (limbs_canon gk) hT' (by rw [← Hd.out.1]; omega)
            rw [encW_get _ _ (by rw [hT'.len, ← Hd.out.1]; omega), hT'.same p (by omega)] at hcell
            obtain ⟨y, hy⟩ : ∃ y, y = (canon gk).getD p 0 := ⟨_, rfl⟩
            rw [← hy] at hcell hs1 hs2
            have hyb : y < 4294967296 := by rw [hy]; exact (limbs_canon gk).at _
            have hor : bits .or .u64 ((rr : Int) * 4294967296) (y : Int) = ((rr * 4294967296 + y : Nat) : Int) := by
              have h1 : (rr : Int) * 4294967296 = ((rr * 4294967296 : Nat) : Int) := by simp
              rw [h1, bits_or_u64_nat _ _ (by omega) (by omega), or_word hyb]
            obtain ⟨s, hs⟩ : ∃ s, s = rr * 4294967296 + y := ⟨_, rfl⟩
            rw [← hs] at hor hs1 hs2
            have hsb : s < 42949672960 := by omega
            have hgq : g ≠ w.heap.size := fun h => hom.ne_blk (show Blk wr _ _ _ from hbox) (by decide) g (by
              obtain ⟨c', rfl⟩ : ∃ c', cm = c' + 1 := ⟨cm - 1, by omega⟩
              rfl) h
            have Hs := hide (And.intro hset (And.intro hs1 (And.intro hol (And.intro hnew (And.intro hom (And.intro hgq hbox))))))
            have Hor := hide hor
            clear hset hs1 hol hnew hom hT hT' hy hor hs hk0 hcm hgq hbox
            go_upto_region 11 with (fail)
            rw [Hor.out]
            go_wp2
            go_roundw
            case rel =>
              obtain ⟨hset, hs1, hol, hnew, hom, hgq, hbox⟩ := Hs.out
              have e2 : Value.int .u64 ((s : Int) % 10) = .int .u64 ((s % 10 : Nat) : Int) := by simp
              have e3 : Value.int .u32 ((s : Int) / 10) = .int .u32 ((s / 10 : Nat) : Int) := by simp
              refine ⟨p, s % 10, m2.set p (s / 10), by omega, rfl, e2, by omega, hs1, ?_, ?_, ?_, ?_⟩
              · rw [encW_set, ← e3]; exact hset _
              · exact hol.upd (Upd.cellAt wr ⟨g, p, none⟩ _) fun q hq hqg => hol.ne_own hom (by decide) q hq (by
                  have h1 : q = g := hqg
                  subst h1
                  obtain ⟨c', rfl⟩ : ∃ c', cm = c' + 1 := ⟨cm - 1, by omega⟩
                  rfl)
              · exact New.setAt hnew hbg _ _
              · exact (show Blk wr _ _ _ from hbox).far (p := ⟨g, p, none⟩) (Ne.symm hgq) _
            case measure => simp [intOf] <;> omega
      · obtain rfl : nm = 0 := by omega
        have hg0 : gk = 0 := canon_nil.1 (List.eq_nil_of_length_eq_zero Hd.out.1.symm)
        have hds0 : (digs V0).map letter = ds := by rw [Hd.out.2, hg0, digs_zero]; simp
        obtain ⟨Al, cl, rfl⟩ := hol.row.form
        have hb0 : wr.cell? ⟨w.heap.size, 0, none⟩ = some (.bool bx) := (show Blk wr _ _ _ from hbox).cell 0
        have hb1 : wr.cell? ⟨w.heap.size, 1, none⟩ = some (.slice Ax nx cx) := (show Blk wr _ _ _ from hbox).cell 1
        have hzr := H2.out.2.1.new_ hnew
        have hdn : 0 < ds.length := by
          rw [← hds0, List.length_map]
          rcases Nat.eq_zero_or_pos V0 with h | h
          · have := Hl.out.2.1
            exact absurd (show z = 0 by omega) Hz.out
          · rw [digs_pos h]; simp
        have hm0 : (0 : Int) < (ds.length : Int) := by omega
        have Q0 := hide (And.intro hol (And.intro hnew (And.intro hzr (And.intro hds0 (And.intro hdn hom)))))
        clear hol hnew hzr hds0 hdn hom hg0 hbox hpos
        go_wp2_with fail
        refine (neg_any _ z _ Q0.out.2.2.1).mono ?_
        rintro e w4 ⟨d, rfl, hd4, hn4⟩
        have hol := Q0.out.1.new_ hn4
        have hnew := Q0.out.2.1.transNew hn4
        have hds0 := Q0.out.2.2.2.1
        have hdn := Q0.out.2.2.2.2.1
        clear hb0 hb1
        cases hdd : d
        · subst hdd
          have hdsz : textI z = ds.reverse := by
            rw [textI_pos Hz.out, if_neg (by simpa using hd4.symm), List.append_nil, ← Hl.out.2.1, hds0]
          have hdsn : 0 < ds.length := hdn
          clear hds0 hdn hd4 hn4
          have Q3 := hide (And.intro hol (And.intro hnew (And.intro hdsz hdsn)))
          clear hol hnew hdsz hdsn
          go_wp2_with fail
          refine (reverse_any w.heap.size Al ds.length cl ds _ Q3.out.1 (by omega)).mono ?_
          rintro e w5 ⟨rfl, hrev, hu5⟩
          have hn5 : New w w5 := Q3.out.2.1.trans hu5 fun q hq hqo => by have := (Q3.out.1.lt q hqo).1; omega
          obtain ⟨g, rfl, -, -, -, -, -, -, -⟩ := Q3.out.1.place (j := 0) Q3.out.2.2.2
          have hlen5 : ds.reverse.length = ds.length := by simp
          have hconv := run_convert_bytes_arg (P := Tryd.prog) w5 78 5 Tryd.underlying78 Tryd.underlying5 g 0 ds.length cl ds.reverse hlen5 (fun i hi => by
            obtain ⟨g', hg', -, -, -, -, hcell, -, -⟩ := hrev.place (j := i) hi
            injection hg' with hg'
            injection hg' with hg' _ _
            subst hg'
            rw [Nat.zero_add, hcell, encB_get _ _ (by omega)]) 9 Tryd.underlying9
          rw [← Q3.out.2.2.1] at hconv
          have Hn5 := hide hn5
          clear hrev hu5 hn5 hlen5
          go_wp2
          go_ret
          exact ⟨rfl, Hn5.out⟩
        · subst hdd
          have hdsz : textI z = (ds ++ [45]).reverse := by
            rw [textI_pos Hz.out, if_pos (by simpa using hd4.symm), ← Hl.out.2.1, hds0]
          have hdsn : 0 < ds.length + 1 := by omega
          have hA : New w4 (w4.alloc (.cells #[.int .u8 45] 5)) := (Upd.refl _ _).alloc _
          have hrowl : RowAt (w4.alloc (.cells #[.int .u8 45] 5)) 1 (.slice (some ⟨w4.heap.size, 0, none⟩) 1 1) 1 (encB [45]) := RowAt.fresh w4 _ (encB [45]) 1 1 rfl (by omega) (by unfold maxLen; omega)
          have hbase : w.heap.size ≤ (w4.alloc (.cells #[.int .u8 45] 5)).heap.size := (hnew.alloc _).size
          have P := hide (And.intro (hol.new_ hA) (And.intro hrowl (And.intro hbase (And.intro (hnew.transNew hA) (And.intro hdsz hdsn)))))
          clear hds0 hdn hd4 hn4 hA hrowl hbase hol hnew hdsz hdsn
          go_wp2_with (at_builtin; refine wpList_append_row _ rfl (.tmp 48) (.tmp 49) elB rfl w.heap.size (.slice Al ds.length cl) ds.length (encB ds) rfl P.out.1 (.slice (some ⟨w4.heap.size, 0, none⟩) 1 1) 1 (encB [45]) rfl P.out.2.1 (encB_one _) (by omega) (by unfold maxLen; omega) P.out.2.2.1 ?_; intro v3 w3 hown3 hg3 _)
          have hnew : New w w3 := P.out.2.2.2.1.grown hg3 fun q hq => .inr (P.out.1.lt q hq).1
          rw [← encB_app] at hown3
          obtain ⟨Al2, cl2, rfl⟩ := hown3.row.form
          have hol := hown3
          have hdsz := P.out.2.2.2.2.1
          have hdsn := P.out.2.2.2.2.2
          clear hg3 hown3
          have Q3 := hide (And.intro hol (And.intro hnew (And.intro hdsz hdsn)))
          clear hol hnew hdsz hdsn
          go_wp2_with fail
          refine (reverse_any w.heap.size Al2 (ds.length + 1) cl2 (ds ++ [45]) _ Q3.out.1 (by omega)).mono ?_
          rintro e w5 ⟨rfl, hrev, hu5⟩
          have hn5 : New w w5 := Q3.out.2.1.trans hu5 fun q hq hqo => by have := (Q3.out.1.lt q hqo).1; omega
          obtain ⟨g, rfl, -, -, -, -, -, -, -⟩ := Q3.out.1.place (j := 0) Q3.out.2.2.2
          have hlen5 : (ds ++ [45]).reverse.length = (ds.length + 1) := by simp
          have hconv := run_convert_bytes_arg (P := Tryd.prog) w5 78 5 Tryd.underlying78 Tryd.underlying5 g 0 (ds.length + 1) cl2 (ds ++ [45]).reverse hlen5 (fun i hi => by
            obtain ⟨g', hg', -, -, -, -, hcell, -, -⟩ := hrev.place (j := i) hi
            injection hg' with hg'
            injection hg' with hg' _ _
            subst hg'
            rw [Nat.zero_add, hcell, encB_get _ _ (by omega)]) 9 Tryd.underlying9
          rw [← Q3.out.2.2.1] at hconv
          have Hn5 := hide hn5
          clear hrev hu5 hn5 hlen5
          go_wp2
          go_ret
          exact ⟨rfl, Hn5.out⟩
set_option maxHeartbeats 1600000 in
theorem digits_any (s : ByteArray) (w : World) (hs : s.size ≤ 100000) : Calls Tryd.prog 85 #[.string s] w fun e w' => e = .returned (.bool (digB s.data.toList)) ∧ w = w' := by
  go_enter Tryd.func85, Tryd.ntmps85
  go_wp2
  go_loop [6] (fun i => ∃ k : Nat, k ≤ s.size ∧ i = .int .i64 k ∧ Hid ((s.data.toList.take k).all isDig = true)) (fun i => s.size - (intOf i).toNat)
  case atStart => exact ⟨0, by omega, rfl, by show _ = _; simp⟩
  case round =>
    obtain ⟨k, hk, rfl, hno⟩ := hrel
    by_cases hlt : k < s.size
    · have hgk : s.data.toList[k]? = some s[k] := by
        have h : k < s.data.toList.length := by rw [len_data]; exact hlt
        rw [List.getElem?_eq_getElem h]
        rfl
      have hbad : isDig s[k] = false → digB s.data.toList = false := by
        intro h
        have : s.data.toList.all isDig = false := by
          rw [List.all_eq_false]
          exact ⟨s[k], List.mem_of_getElem? hgk, by rw [h]; simp⟩
        simp [digB, this]
      have hnext : isDig s[k] = true → (s.data.toList.take (k + 1)).all isDig = true := by
        intro h
        rw [List.take_add_one, hgk, List.all_append, (show (s.data.toList.take k).all isDig = true from hno)]
        simpa using h
      have Hb := hide (And.intro hbad hnext)
      clear hgk hbad hnext hno
      by_cases h1 : s[k].toNat < 48
      · have hb := Hb.out.1 (by simp [isDig]; omega)
        have HB := hide hb
        clear hb
        go_wp2
        go_ret
        exact ⟨by rw [HB.out]; rfl, rfl⟩
      · by_cases h2 : 57 < s[k].toNat
        · have hb := Hb.out.1 (by simp [isDig]; omega)
          have HB := hide hb
          clear hb
          go_wp2
          go_ret
          exact ⟨by rw [HB.out]; rfl, rfl⟩
        · have hb := Hb.out.2 (by simp [isDig]; omega)
          have HB := hide hb
          clear hb
          go_wp2
          go_round
          case rel => exact ⟨k + 1, by omega, by go_num, HB.out⟩
          case measure => simp [intOf] <;> omega
    · obtain rfl : k = s.size := by omega
      have hall : s.data.toList.all isDig = true := by
        have h : (s.data.toList.take s.size).all isDig = true := hno
        rwa [List.take_of_length_le (by rw [len_data]; exact Nat.le_refl _)] at h
      have Ha := hide hall
      clear hall hno hlt
      by_cases hl : s.toList = []
      · have hl2 : (!s.toList.isEmpty) = false := by rw [hl]; rfl
        have Hl := hide hl
        go_wp2
        go_ret
        refine ⟨?_, rfl⟩
        have := Hl.out
        rw [ByteArray.toList_eq] at this
        have hd : digB s.data.toList = false := by rw [this]; rfl
        rw [hd]; rfl
      · have hl2 : (!s.toList.isEmpty) = true := by
          cases h : s.toList
          · exact absurd h hl
          · rfl
        have hsz : 0 < s.size := by
          rcases Nat.eq_zero_or_pos s.size with h | h
          · exfalso
            apply hl
            rw [ByteArray.toList_eq]
            exact List.eq_nil_of_length_eq_zero (by rw [len_data]; exact h)
          · exact h
        have hhd : s.data.toList.head? = some s[0] := by
          have h : 0 < s.data.toList.length := by rw [len_data]; exact hsz
          rw [List.head?_eq_getElem?, List.getElem?_eq_getElem h]
          rfl
        have hne : s.data.toList ≠ [] := by rw [← ByteArray.toList_eq]; exact hl
        have HH := hide (And.intro hhd hne)
        clear hhd hne
        by_cases h0 : s[0].toNat = 48
        · have h0b : (((s[0].toNat : Nat) : Int) != 48) = false := by simp [h0]
          have H0 := hide h0
          clear h0
          go_wp2
          go_ret
          refine ⟨?_, rfl⟩
          have h48 : s[0] = 48 := UInt8.toNat_inj.1 H0.out
          have hd : digB s.data.toList = (s.toList == [48]) := by
            rw [ByteArray.toList_eq]
            simp only [digB, Ha.out, HH.out.1, h48]
            simp [HH.out.2]
          rw [hd]
          rfl
        · have h0b : (((s[0].toNat : Nat) : Int) != 48) = true := by simp; omega
          have H0 := hide h0
          clear h0
          go_wp2
          go_ret
          refine ⟨?_, rfl⟩
          have h48 : s[0] ≠ 48 := fun h => H0.out (by rw [h]; rfl)
          have hd : digB s.data.toList = true := by
            simp only [digB, Ha.out, HH.out.1]
            simp [HH.out.2, h48]
          rw [hd]
          rfl
def IsParse (p : Int × Int) (w : World) (e : Ending) (w' : World) : Prop := IsZE p.1 p.2 w e w'
set_option maxHeartbeats 6400000 in
theorem parse_any (s : ByteArray) (w : World) (hs : s.size ≤ 100000) : Calls Tryd.prog 72 #[.string s] w (IsParse (parseZ s.data.toList) w) := by
  obtain ⟨p, hp⟩ : ∃ p, p = parseZ s.data.toList := ⟨_, rfl⟩
  rw [← hp]
  by_cases hsz : 0 < s.size
  · have hhd : s.data.toList.head? = some s[0] := by
      have h : 0 < s.data.toList.length := by rw [len_data]; exact hsz
      rw [List.head?_eq_getElem?, List.getElem?_eq_getElem h]
      rfl
    by_cases h45 : s[0].toNat = 45
    · have h1 : s[0] = 45 := UInt8.toNat_inj.1 h45
      rw [h1] at hhd
      have hb : (((s[0].toNat : Nat) : Int) == 45) = true := by simp [h45]
      have hlz : s.data.toList = 45 :: s.data.toList.tail := by
        cases h : s.data.toList with
        | nil => rw [h] at hhd; cases hhd
        | cons c r =>
          rw [h] at hhd
          simp at hhd
          subst hhd
          rfl
      have hsp : (s.toList == [45, 48]) = decide (s.data.toList = [45, 48]) := by
        rw [ByteArray.toList_eq]
        by_cases h : s.data.toList = [45, 48]
        · rw [h]; rfl
        · rw [decide_eq_false h]
          simpa using h
      have hpz : p = if s.data.toList = [45, 48] then (0, 2) else parseD true s.data.toList.tail := by rw [hp, parseZ, if_pos hhd]
      have Hh := hide (And.intro hhd (And.intro h45 hpz))
      clear hp hhd h1 h45 hpz
      by_cases hm : s.data.toList = [45, 48]
      · have hm0 : (s.toList == [45, 48]) = true := by rw [hsp, decide_eq_true hm]
        have hdt : digB (s.extract 1 s.size).data.toList = true := by rw [ext_tail, hm]; rfl
        have Hm := hide (And.intro hm hdt)
        clear hsp hm hlz hdt
        go_enter Tryd.func72, Tryd.ntmps72
        go_wp2
        go_quiet (fail)
        go_wp2_with fail
        obtain ⟨d, hd⟩ : ∃ d, d = s.extract 1 s.size := ⟨_, rfl⟩
        rw [← hd]
        have hDs : d.size ≤ 100000 := by rw [hd]; simp [ByteArray.size_extract]; omega
        have hdt : digB d.data.toList = true := by rw [hd]; exact Hm.out.2
        have Hdt := hide hdt
        obtain ⟨w1, hw1⟩ : ∃ w1, w1 = (w.alloc (.cells #[.bool false, .slice none 0 0] 26)).drewN nq := ⟨_, rfl⟩
        have hn1 : New w w1 := by rw [hw1]; exact ((Upd.refl _ _).alloc _).drewN _
        have hb1 : Blk w1 w.heap.size 26 [.bool false, .slice none 0 0] := by rw [hw1]; exact Blk.new w _ _
        rw [← hw1]
        obtain ⟨w4, hw4, hcan4, hn4, g0, g1, -⟩ := (CanAt.zero w1).store hb1 hn1 (Nat.le_refl _)
        have r0 : w1.cell? ⟨w.heap.size, 0, none⟩ = some (.bool false) := hb1.cell 0
        have r1 : w1.cell? ⟨w.heap.size, 1, none⟩ = some (.slice none 0 0) := hb1.cell 1
        have f0 := hb1.frozen 0
        have f1 := hb1.frozen 1
        have H4 := hide (And.intro hcan4 (And.intro hn4 hw4))
        clear hcan4 hn4 hw4 hw1 hn1 hb1 hd hdt
        refine (digits_any d _ hDs).mono ?_
        rintro e w1' ⟨rfl, rfl⟩
        rw [Hdt.out]
        go_wp2
        rw [← H4.out.2.2]
        have hz : p = (0, 2) := by rw [Hh.out.2.2, if_pos Hm.out.1]
        refine bodyPost_ret (v := .tuple #[.agg #[.bool false, .slice none 0 0], .int .i64 2]) (by simp [results, Tryd.results72, go_sem, g0, g1]) rfl ⟨false, none, 0, 0, ?_, ?_, H4.out.2.1⟩
        · rw [hz]
        · rw [hz]; exact H4.out.1
      · have hm0 : (s.toList == [45, 48]) = false := by rw [hsp, decide_eq_false hm]
        have hpe : p = parseD true s.data.toList.tail := by rw [Hh.out.2.2, if_neg hm]
        have Hpe := hide hpe
        clear hsp hm hlz hpe
        go_enter Tryd.func72, Tryd.ntmps72
        go_wp2
        go_quiet (fail)
        go_wp2_with fail
        obtain ⟨d, hd⟩ : ∃ d, d = s.extract 1 s.size := ⟨_, rfl⟩
        rw [← hd]
        have hDs : d.size ≤ 100000 := by rw [hd]; simp [ByteArray.size_extract]; omega
        have hP : p = parseD true d.data.toList := by rw [Hpe.out, hd, ext_tail]
        have HP := hide hP
        obtain ⟨w1, hw1⟩ : ∃ w1, w1 = (w.alloc (.cells #[.bool false, .slice none 0 0] 26)).drewN nq := ⟨_, rfl⟩
        have hn1 : New w w1 := by rw [hw1]; exact ((Upd.refl _ _).alloc _).drewN _
        have hb1 : Blk w1 w.heap.size 26 [.bool false, .slice none 0 0] := by rw [hw1]; exact Blk.new w _ _
        rw [← hw1]
        have H1 := hide (And.intro hn1 (hide hb1))
        clear hw1 hn1 hb1 hd hP
        -- the sign is known: d, true
        by_cases hdg : digB d.data.toList = true
        · have Hdg := hide hdg
          have hDall : ∀ c ∈ d.data.toList, 48 ≤ c.toNat ∧ c.toNat ≤ 57 := fun c hc => by
            have h := hdg
            simp only [digB, Bool.and_eq_true] at h
            have := List.all_eq_true.1 h.1 c hc
            simpa [isDig] using this
          have HD := hide hDall
          clear hdg hDall
          refine (digits_any d _ hDs).mono ?_
          rintro e w1' ⟨rfl, rfl⟩
          rw [Hdg.out]
          go_wp2
          go_loopw [6, 33] (fun m i wr => ∃ (k V : Nat) (A : Option Addr) (n c : Nat), k ≤ d.size ∧ i = .int .i64 k ∧ m = .slice A n c ∧ n ≤ 8 ∧ Hid (n = (canon V).length ∧ V = decV (d.data.toList.take k)) ∧ Own wr w.heap.size 53 1 m n (encW (canon V)) ∧ New w wr ∧ Hid (Blk wr w.heap.size 26 [.bool false, .slice none 0 0])) (fun _ i _ => d.size - (intOf i).toNat)
          case atStart => exact ⟨0, 0, none, 0, 0, by omega, rfl, rfl, by omega, ⟨by rw [canon_zero]; rfl, rfl⟩, by rw [canon_zero]; exact Own.nil_ _ _ _ _, H1.out.1, H1.out.2⟩
          case round =>
            obtain ⟨k, V, A, n, c, hk, rfl, rfl, hn8, hV, hown, hnew, hbox⟩ := hrel
            have HV := hide (show n = (canon V).length ∧ V = decV (d.data.toList.take k) from hV)
            clear hV
            by_cases hlt : k < d.size
            · obtain ⟨x, hx⟩ : ∃ x, x = d[k].toNat := ⟨_, rfl⟩
              have hgk : d.data.toList[k]? = some d[k] := by
                have h : k < d.data.toList.length := by rw [len_data]; exact hlt
                rw [List.getElem?_eq_getElem h]
                rfl
              have hxr := HD.out d[k] (List.mem_of_getElem? hgk)
              rw [← hx] at hxr
              obtain ⟨hx1, hx2⟩ := hxr
              have hsucc : decV (d.data.toList.take (k + 1)) = 10 * V + (x - 48) := by
                rw [List.take_add_one, hgk]
                show decV (d.data.toList.take k ++ [d[k]]) = _
                rw [decV_snoc, ← HV.out.2, ← hx]
              have hM := mulTen_start (limbs_canon V) (x - 48)
              have hcast : (x : Int) - 48 = ((x - 48 : Nat) : Int) := by omega
              have H0 := hide (And.intro hown (And.intro hnew (And.intro hbox (And.intro hsucc (And.intro hM hcast)))))
              have hxk : d[k].toNat = x := hx.symm
              have hxlo : 48 ≤ d[k].toNat := by omega
              have hxhi : d[k].toNat ≤ 57 := by omega
              have Hxk := hide hxk
              clear hown hnew hbox hgk hsucc hM hcast hx hxk
              go_upto_region 11 with (fail)
              rw [Hxk.out, H0.out.2.2.2.2.2]
              clear hxlo hxhi
              obtain ⟨dg, hdgx⟩ : ∃ dg, dg = x - 48 := ⟨_, rfl⟩
              rw [← hdgx]
              have hd9 : dg ≤ 9 := by omega
              have H2 := hide (And.intro H0.out.1 (And.intro H0.out.2.1 (And.intro H0.out.2.2.1 (And.intro (by rw [hdgx]; exact H0.out.2.2.2.1 : decV (d.data.toList.take (k + 1)) = 10 * V + dg) (by rw [hdgx]; exact H0.out.2.2.2.2.1 : MulTen (canon V) (canon V) 0 dg dg)))))
              clear H0 hdgx
              go_wp2
              go_loopw [8, 43] (fun cv i wr => ∃ (t cc : Nat) (m2 : List Nat), t ≤ n ∧ i = .int .i64 t ∧ cv = .int .u64 (cc : Int) ∧ cc ≤ 9 ∧ Hid (MulTen (canon V) m2 t cc dg) ∧ Own wr w.heap.size 53 1 (.slice A n c) n (encW m2) ∧ New w wr ∧ Hid (Blk wr w.heap.size 26 [.bool false, .slice none 0 0])) (fun _ i _ => n - (intOf i).toNat)
              case atStart => exact ⟨0, dg, canon V, by omega, rfl, rfl, hd9, H2.out.2.2.2.2, H2.out.1, H2.out.2.1, H2.out.2.2.1⟩
              case round =>
                obtain ⟨t, cc, m2, ht, rfl, rfl, hcc, hM, hown, hnew, hbox⟩ := hrel
                have hM' : MulTen (canon V) m2 t cc dg := hM
                by_cases hlt2 : t < n
                · obtain ⟨g, rfl, hnc, hcm, hbg, hgl, hcell, hfz, hset⟩ := hown.place (j := t) hlt2
                  rw [encW_get _ _ (by rw [hM'.len, ← HV.out.1]; exact hlt2), hM'.same t (Nat.le_refl _)] at hcell
                  obtain ⟨hs1, hs2⟩ := mulTen_step (limbs_canon V) hM' (by rw [← HV.out.1]; exact hlt2) hcc
                  obtain ⟨y, hy⟩ : ∃ y, y = (canon V).getD t 0 := ⟨_, rfl⟩
                  rw [← hy] at hcell hs1 hs2
                  have hyb : y < 4294967296 := by rw [hy]; exact (limbs_canon V).at _
                  obtain ⟨s, hs⟩ : ∃ s, s = cc + 10 * y := ⟨_, rfl⟩
                  rw [← hs] at hs1 hs2
                  have e1 : Value.int .u32 (((cc : Int) + 10 * (y : Int)) % 4294967296) = .int .u32 ((s % 4294967296 : Nat) : Int) := by congr 1; rw [hs]; simp
                  have e2 : Value.int .u64 (((cc : Int) + 10 * (y : Int)) / 4294967296) = .int .u64 ((s / 4294967296 : Nat) : Int) := by congr 1; rw [hs]; simp
                  have hgq : g ≠ w.heap.size := fun h => hown.ne_blk (show Blk wr _ _ _ from hbox) (by decide) g (by
                    obtain ⟨c', rfl⟩ : ∃ c', c = c' + 1 := ⟨c - 1, by omega⟩
                    rfl) h
                  have Hs := hide (And.intro hset (And.intro hs1 (And.intro e1 (And.intro e2 (And.intro hnew (And.intro hgq hbox))))))
                  clear hset hs1 e1 e2 hnew hgq hbox hM hM' hy hs hown hcm
                  go_wp2
                  go_roundw
                  case rel =>
                    obtain ⟨hset, hs1, e1, e2, hnew, hgq, hbox⟩ := Hs.out
                    refine ⟨t + 1, s / 4294967296, m2.set t (s % 4294967296), by omega, by go_num, e2, hs2, hs1, ?_, New.setAt hnew hbg _ _, (show Blk wr _ _ _ from hbox).far (p := ⟨g, t, none⟩) (Ne.symm hgq) _⟩
                    rw [e1, encW_set]
                    exact hset _
                  case measure => simp [intOf] <;> omega
                · obtain rfl : t = n := by omega
                  have hend : val (m2 ++ [cc]) = 10 * V + dg := by
                    have h := hM'
                    rw [HV.out.1] at h
                    have := mulTen_end h
                    rwa [val_canon] at this
                  have hlm : Limbs (m2 ++ [cc]) := hM'.limbs.app (Limbs.cons (by omega) Limbs.nil)
                  have hA : New wr (wr.alloc (.cells #[.int .u32 (cc : Int)] 53)) := (Upd.refl _ _).alloc _
                  have P0 := push_limb hown hnew cc
                  have P := hide (And.intro P0.1 (And.intro P0.2.1 (And.intro P0.2.2.1 (And.intro P0.2.2.2 (And.intro ((show Blk wr _ _ _ from hbox).new_ hA) (And.intro hend hlm))))))
                  clear hown hnew hbox hM hM' hend hlm hA P0
                  go_wp2_with (at_builtin; refine wpList_append_row _ rfl (.tmp 61) (.tmp 64) elW rfl w.heap.size (.slice A t c) t (encW m2) rfl P.out.1 (.slice (some ⟨wr.heap.size, 0, none⟩) 1 1) 1 (encW [cc]) rfl P.out.2.1 (encW_one _) (by omega) (by unfold maxLen; omega) P.out.2.2.1 ?_; intro v2 w2 hown2 hg2 _)
                  have hn2 := push_new P.out.2.2.2.1 P.out.1 hg2
                  have hu2 : Upd (fun q => ownB (.slice A t c) = some q) (wr.alloc (.cells #[.int .u32 (cc : Int)] 53)) w2 := (Upd.refl _ _).grown hg2 fun q hq => .inl hq
                  have hbox2 := P.out.2.2.2.2.1.upd hu2 fun hq => P.out.1.ne_blk P.out.2.2.2.2.1 (by decide) _ hq rfl
                  rw [← encW_app] at hown2
                  obtain ⟨A2, c2, rfl⟩ := hown2.row.form
                  have Q := hide (And.intro hown2 (And.intro hn2 hbox2))
                  clear hu2 hbox2 hn2 hown2 hg2
                  go_wp2_with fail
                  refine (trim_any A2 (t + 1) c2 (m2 ++ [cc]) _ Q.out.1.row P.out.2.2.2.2.2.2).mono ?_
                  rintro e w3 ⟨rfl, rfl⟩
                  have hot := Q.out.1.trim P.out.2.2.2.2.2.2
                  rw [P.out.2.2.2.2.2.1] at hot ⊢
                  obtain ⟨nz, hnz⟩ : ∃ nz, nz = (canon (10 * V + dg)).length := ⟨_, rfl⟩
                  rw [← hnz] at hot ⊢
                  have hnzb : nz ≤ 9 := by
                    have h1 : (canon (10 * V + dg)).length ≤ t + 1 := by
                      have h := val_lt P.out.2.2.2.2.2.2
                      have hl : (m2 ++ [cc]).length = t + 1 := by have := Q.out.1.len; simpa [encW] using this
                      rw [P.out.2.2.2.2.2.1, hl] at h
                      exact canon_len_le h
                    omega
                  have Hot := hide (And.intro hot hnz)
                  clear hot hnz
                  by_cases hfit : nz ≤ 8
                  · go_wp2
                    go_roundw
                    case rel => exact ⟨k + 1, 10 * V + dg, A2, nz, c2, by omega, by go_num, rfl, hfit, ⟨Hot.out.2, H2.out.2.2.2.1.symm⟩, Hot.out.1, Q.out.2.1, Q.out.2.2⟩
                    case measure => simp [intOf] <;> omega
                  · have hbig : 2 ^ 256 ≤ decV d.data.toList := by
                      have h1 := decV_mono d.data.toList (k + 1)
                      rw [H2.out.2.2.2.1] at h1
                      have h2 : ¬ (10 * V + dg) < 2 ^ 256 := by
                        rw [← canon_len8, ← Hot.out.2]
                        exact hfit
                      omega
                    have hz : parseD true d.data.toList = (0, 3) := by rw [parseD, if_pos Hdg.out, if_pos hbig]
                    obtain ⟨w4, hw4, hcan4, hn4, g0, g1, -⟩ := (CanAt.zero w2).store Q.out.2.2 Q.out.2.1 (Nat.le_refl _)
                    have hb2 : Blk w2 w.heap.size 26 [.bool false, .slice none 0 0] := Q.out.2.2
                    have r0 : w2.cell? ⟨w.heap.size, 0, none⟩ = some (.bool false) := hb2.cell 0
                    have r1 : w2.cell? ⟨w.heap.size, 1, none⟩ = some (.slice none 0 0) := hb2.cell 1
                    have f0 := hb2.frozen 0
                    have f1 := hb2.frozen 1
                    have H4 := hide (And.intro hcan4 (And.intro hn4 (And.intro hw4 hz)))
                    clear hbig hz hcan4 hn4 hw4 hb2
                    go_wp2
                    rw [← H4.out.2.2.1]
                    refine bodyPost_ret (v := .tuple #[.agg #[.bool false, .slice none 0 0], .int .i64 3]) (by simp [results, Tryd.results72, go_sem, g0, g1]) rfl ⟨false, none, 0, 0, ?_, ?_, H4.out.2.1⟩
                    · rw [HP.out, H4.out.2.2.2]
                    · rw [HP.out, H4.out.2.2.2]; exact H4.out.1
            · obtain rfl : k = d.size := by omega
              have hVd : V = decV d.data.toList := by
                have h := HV.out.2
                rwa [List.take_of_length_le (by rw [len_data]; exact Nat.le_refl _)] at h
              have hVb : ¬ 2 ^ 256 ≤ decV d.data.toList := by
                rw [← hVd]
                have h := (canon_len8 V).1 (by rw [← HV.out.1]; exact hn8)
                omega
              have hz : parseD true d.data.toList = (sgn true V, 0) := by rw [parseD, if_pos Hdg.out, if_neg hVb, hVd]
              have Q := hide (And.intro hown (And.intro hnew (And.intro hbox hz)))
              clear hown hnew hbox hz hVb hVd
              go_wp2_with fail
              refine (made_any A n c _ true _ Q.out.1.row (limbs_canon _)).mono ?_
              rw [val_canon]
              rintro e w5 ⟨f, A5, n5, c5, rfl, hcan, hm5⟩
              have hb5 := (show Blk wr _ _ _ from Q.out.2.2.1).new_ hm5
              have f0 := hb5.frozen 0
              have f1 := hb5.frozen 1
              have r0 : w5.cell? ⟨w.heap.size, 0, none⟩ = some (.bool false) := hb5.cell 0
              have r1 : w5.cell? ⟨w.heap.size, 1, none⟩ = some (.slice none 0 0) := hb5.cell 1
              obtain ⟨w6, hw6, hcan6, hn6, g0, g1, -⟩ := hcan.store hb5 (Q.out.2.1.transNew hm5) (Nat.le_refl _)
              have H6 := hide (And.intro hcan6 (And.intro hn6 hw6))
              clear hb5 hcan hm5 hcan6 hn6 hw6
              go_wp2
              rw [← H6.out.2.2]
              refine bodyPost_ret (v := .tuple #[.agg #[.bool f, .slice A5 n5 c5], .int .i64 0]) (by simp [results, Tryd.results72, go_sem, g0, g1]) rfl ⟨f, A5, n5, c5, ?_, ?_, H6.out.2.1⟩
              · rw [HP.out, Q.out.2.2.2]
              · rw [HP.out, Q.out.2.2.2]; exact H6.out.1
        · have hdg' : digB d.data.toList = false := by simpa using hdg
          have hz : parseD true d.data.toList = (0, 2) := by rw [parseD, if_neg hdg]
          have Hdg := hide (And.intro hdg' hz)
          clear hdg hdg' hz
          obtain ⟨w4, hw4, hcan4, hn4, g0, g1, -⟩ := (CanAt.zero w1).store H1.out.2 H1.out.1 (Nat.le_refl _)
          have r0 : w1.cell? ⟨w.heap.size, 0, none⟩ = some (.bool false) := (show Blk w1 _ _ _ from H1.out.2).cell 0
          have r1 : w1.cell? ⟨w.heap.size, 1, none⟩ = some (.slice none 0 0) := (show Blk w1 _ _ _ from H1.out.2).cell 1
          have f0 := (show Blk w1 _ _ _ from H1.out.2).frozen 0
          have f1 := (show Blk w1 _ _ _ from H1.out.2).frozen 1
          have H4 := hide (And.intro hcan4 (And.intro hn4 hw4))
          clear hcan4 hn4 hw4
          refine (digits_any d _ hDs).mono ?_
          rintro e w1' ⟨rfl, rfl⟩
          rw [Hdg.out.1]
          go_wp2
          rw [← H4.out.2.2]
          refine bodyPost_ret (v := .tuple #[.agg #[.bool false, .slice none 0 0], .int .i64 2]) (by simp [results, Tryd.results72, go_sem, g0, g1]) rfl ⟨false, none, 0, 0, ?_, ?_, H4.out.2.1⟩
          · rw [HP.out, Hdg.out.2]
          · rw [HP.out, Hdg.out.2]; exact H4.out.1
    · have hb : (((s[0].toNat : Nat) : Int) == 45) = false := by simp; omega
      have hh2 : ¬ s.data.toList.head? = some 45 := by
        rw [hhd]
        intro h
        injection h with h
        exact h45 (by rw [h]; rfl)
      have hm0 : (s.toList == [45, 48]) = false := by
        rw [ByteArray.toList_eq]
        rw [beq_eq_false_iff_ne]
        intro h
        rw [h] at hh2
        exact hh2 rfl
      have hP : p = parseD false s.data.toList := by rw [hp, parseZ, if_neg hh2]
      have HP := hide hP
      have hDs := hs
      clear hp hhd h45 hh2 hP
      go_enter Tryd.func72, Tryd.ntmps72
      go_wp2
      go_quiet (fail)
      go_wp2_with fail
      obtain ⟨w1, hw1⟩ : ∃ w1, w1 = (w.alloc (.cells #[.bool false, .slice none 0 0] 26)).drewN nq := ⟨_, rfl⟩
      have hn1 : New w w1 := by rw [hw1]; exact ((Upd.refl _ _).alloc _).drewN _
      have hb1 : Blk w1 w.heap.size 26 [.bool false, .slice none 0 0] := by rw [hw1]; exact Blk.new w _ _
      rw [← hw1]
      have H1 := hide (And.intro hn1 (hide hb1))
      clear hw1 hn1 hb1
      -- the sign is known: s, false
      by_cases hdg : digB s.data.toList = true
      · have Hdg := hide hdg
        have hDall : ∀ c ∈ s.data.toList, 48 ≤ c.toNat ∧ c.toNat ≤ 57 := fun c hc => by
          have h := hdg
          simp only [digB, Bool.and_eq_true] at h
          have := List.all_eq_true.1 h.1 c hc
          simpa [isDig] using this
        have HD := hide hDall
        clear hdg hDall
        refine (digits_any s _ hDs).mono ?_
        rintro e w1' ⟨rfl, rfl⟩
        rw [Hdg.out]
        go_wp2
        go_loopw [6, 33] (fun m i wr => ∃ (k V : Nat) (A : Option Addr) (n c : Nat), k ≤ s.size ∧ i = .int .i64 k ∧ m = .slice A n c ∧ n ≤ 8 ∧ Hid (n = (canon V).length ∧ V = decV (s.data.toList.take k)) ∧ Own wr w.heap.size 53 1 m n (encW (canon V)) ∧ New w wr ∧ Hid (Blk wr w.heap.size 26 [.bool false, .slice none 0 0])) (fun _ i _ => s.size - (intOf i).toNat)
        case atStart => exact ⟨0, 0, none, 0, 0, by omega, rfl, rfl, by omega, ⟨by rw [canon_zero]; rfl, rfl⟩, by rw [canon_zero]; exact Own.nil_ _ _ _ _, H1.out.1, H1.out.2⟩
        case round =>
          obtain ⟨k, V, A, n, c, hk, rfl, rfl, hn8, hV, hown, hnew, hbox⟩ := hrel
          have HV := hide (show n = (canon V).length ∧ V = decV (s.data.toList.take k) from hV)
          clear hV
          by_cases hlt : k < s.size
          · obtain ⟨x, hx⟩ : ∃ x, x = s[k].toNat := ⟨_, rfl⟩
            have hgk : s.data.toList[k]? = some s[k] := by
              have h : k < s.data.toList.length := by rw [len_data]; exact hlt
              rw [List.getElem?_eq_getElem h]
              rfl
            have hxr := HD.out s[k] (List.mem_of_getElem? hgk)
            rw [← hx] at hxr
            obtain ⟨hx1, hx2⟩ := hxr
            have hsucc : decV (s.data.toList.take (k + 1)) = 10 * V + (x - 48) := by
              rw [List.take_add_one, hgk]
              show decV (s.data.toList.take k ++ [s[k]]) = _
              rw [decV_snoc, ← HV.out.2, ← hx]
            have hM := mulTen_start (limbs_canon V) (x - 48)
            have hcast : (x : Int) - 48 = ((x - 48 : Nat) : Int) := by omega
            have H0 := hide (And.intro hown (And.intro hnew (And.intro hbox (And.intro hsucc (And.intro hM hcast)))))
            have hxk : s[k].toNat = x := hx.symm
            have hxlo : 48 ≤ s[k].toNat := by omega
            have hxhi : s[k].toNat ≤ 57 := by omega
            have Hxk := hide hxk
            clear hown hnew hbox hgk hsucc hM hcast hx hxk
            go_upto_region 11 with (fail)
            rw [Hxk.out, H0.out.2.2.2.2.2]
            clear hxlo hxhi
            obtain ⟨dg, hdgx⟩ : ∃ dg, dg = x - 48 := ⟨_, rfl⟩
            rw [← hdgx]
            have hd9 : dg ≤ 9 := by omega
            have H2 := hide (And.intro H0.out.1 (And.intro H0.out.2.1 (And.intro H0.out.2.2.1 (And.intro (by rw [hdgx]; exact H0.out.2.2.2.1 : decV (s.data.toList.take (k + 1)) = 10 * V + dg) (by rw [hdgx]; exact H0.out.2.2.2.2.1 : MulTen (canon V) (canon V) 0 dg dg)))))
            clear H0 hdgx
            go_wp2
            go_loopw [8, 43] (fun cv i wr => ∃ (t cc : Nat) (m2 : List Nat), t ≤ n ∧ i = .int .i64 t ∧ cv = .int .u64 (cc : Int) ∧ cc ≤ 9 ∧ Hid (MulTen (canon V) m2 t cc dg) ∧ Own wr w.heap.size 53 1 (.slice A n c) n (encW m2) ∧ New w wr ∧ Hid (Blk wr w.heap.size 26 [.bool false, .slice none 0 0])) (fun _ i _ => n - (intOf i).toNat)
            case atStart => exact ⟨0, dg, canon V, by omega, rfl, rfl, hd9, H2.out.2.2.2.2, H2.out.1, H2.out.2.1, H2.out.2.2.1⟩
            case round =>
              obtain ⟨t, cc, m2, ht, rfl, rfl, hcc, hM, hown, hnew, hbox⟩ := hrel
              have hM' : MulTen (canon V) m2 t cc dg := hM
              by_cases hlt2 : t < n
              · obtain ⟨g, rfl, hnc, hcm, hbg, hgl, hcell, hfz, hset⟩ := hown.place (j := t) hlt2
                rw [encW_get _ _ (by rw [hM'.len, ← HV.out.1]; exact hlt2), hM'.same t (Nat.le_refl _)] at hcell
                obtain ⟨hs1, hs2⟩ := mulTen_step (limbs_canon V) hM' (by rw [← HV.out.1]; exact hlt2) hcc
                obtain ⟨y, hy⟩ : ∃ y, y = (canon V).getD t 0 := ⟨_, rfl⟩
                rw [← hy] at hcell hs1 hs2
                have hyb : y < 4294967296 := by rw [hy]; exact (limbs_canon V).at _
                obtain ⟨s, hs⟩ : ∃ s, s = cc + 10 * y := ⟨_, rfl⟩
                rw [← hs] at hs1 hs2
                have e1 : Value.int .u32 (((cc : Int) + 10 * (y : Int)) % 4294967296) = .int .u32 ((s % 4294967296 : Nat) : Int) := by congr 1; rw [hs]; simp
                have e2 : Value.int .u64 (((cc : Int) + 10 * (y : Int)) / 4294967296) = .int .u64 ((s / 4294967296 : Nat) : Int) := by congr 1; rw [hs]; simp
                have hgq : g ≠ w.heap.size := fun h => hown.ne_blk (show Blk wr _ _ _ from hbox) (by decide) g (by
                  obtain ⟨c', rfl⟩ : ∃ c', c = c' + 1 := ⟨c - 1, by omega⟩
                  rfl) h
                have Hs := hide (And.intro hset (And.intro hs1 (And.intro e1 (And.intro e2 (And.intro hnew (And.intro hgq hbox))))))
                clear hset hs1 e1 e2 hnew hgq hbox hM hM' hy hs hown hcm
                go_wp2
                go_roundw
                case rel =>
                  obtain ⟨hset, hs1, e1, e2, hnew, hgq, hbox⟩ := Hs.out
                  refine ⟨t + 1, s / 4294967296, m2.set t (s % 4294967296), by omega, by go_num, e2, hs2, hs1, ?_, New.setAt hnew hbg _ _, (show Blk wr _ _ _ from hbox).far (p := ⟨g, t, none⟩) (Ne.symm hgq) _⟩
                  rw [e1, encW_set]
                  exact hset _
                case measure => simp [intOf] <;> omega
              · obtain rfl : t = n := by omega
                have hend : val (m2 ++ [cc]) = 10 * V + dg := by
                  have h := hM'
                  rw [HV.out.1] at h
                  have := mulTen_end h
                  rwa [val_canon] at this
                have hlm : Limbs (m2 ++ [cc]) := hM'.limbs.app (Limbs.cons (by omega) Limbs.nil)
                have hA : New wr (wr.alloc (.cells #[.int .u32 (cc : Int)] 53)) := (Upd.refl _ _).alloc _
                have P0 := push_limb hown hnew cc
                have P := hide (And.intro P0.1 (And.intro P0.2.1 (And.intro P0.2.2.1 (And.intro P0.2.2.2 (And.intro ((show Blk wr _ _ _ from hbox).new_ hA) (And.intro hend hlm))))))
                clear hown hnew hbox hM hM' hend hlm hA P0
                go_wp2_with (at_builtin; refine wpList_append_row _ rfl (.tmp 61) (.tmp 64) elW rfl w.heap.size (.slice A t c) t (encW m2) rfl P.out.1 (.slice (some ⟨wr.heap.size, 0, none⟩) 1 1) 1 (encW [cc]) rfl P.out.2.1 (encW_one _) (by omega) (by unfold maxLen; omega) P.out.2.2.1 ?_; intro v2 w2 hown2 hg2 _)
                have hn2 := push_new P.out.2.2.2.1 P.out.1 hg2
                have hu2 : Upd (fun q => ownB (.slice A t c) = some q) (wr.alloc (.cells #[.int .u32 (cc : Int)] 53)) w2 := (Upd.refl _ _).grown hg2 fun q hq => .inl hq
                have hbox2 := P.out.2.2.2.2.1.upd hu2 fun hq => P.out.1.ne_blk P.out.2.2.2.2.1 (by decide) _ hq rfl
                rw [← encW_app] at hown2
                obtain ⟨A2, c2, rfl⟩ := hown2.row.form
                have Q := hide (And.intro hown2 (And.intro hn2 hbox2))
                clear hu2 hbox2 hn2 hown2 hg2
                go_wp2_with fail
                refine (trim_any A2 (t + 1) c2 (m2 ++ [cc]) _ Q.out.1.row P.out.2.2.2.2.2.2).mono ?_
                rintro e w3 ⟨rfl, rfl⟩
                have hot := Q.out.1.trim P.out.2.2.2.2.2.2
                rw [P.out.2.2.2.2.2.1] at hot ⊢
                obtain ⟨nz, hnz⟩ : ∃ nz, nz = (canon (10 * V + dg)).length := ⟨_, rfl⟩
                rw [← hnz] at hot ⊢
                have hnzb : nz ≤ 9 := by
                  have h1 : (canon (10 * V + dg)).length ≤ t + 1 := by
                    have h := val_lt P.out.2.2.2.2.2.2
                    have hl : (m2 ++ [cc]).length = t + 1 := by have := Q.out.1.len; simpa [encW] using this
                    rw [P.out.2.2.2.2.2.1, hl] at h
                    exact canon_len_le h
                  omega
                have Hot := hide (And.intro hot hnz)
                clear hot hnz
                by_cases hfit : nz ≤ 8
                · go_wp2
                  go_roundw
                  case rel => exact ⟨k + 1, 10 * V + dg, A2, nz, c2, by omega, by go_num, rfl, hfit, ⟨Hot.out.2, H2.out.2.2.2.1.symm⟩, Hot.out.1, Q.out.2.1, Q.out.2.2⟩
                  case measure => simp [intOf] <;> omega
                · have hbig : 2 ^ 256 ≤ decV s.data.toList := by
                    have h1 := decV_mono s.data.toList (k + 1)
                    rw [H2.out.2.2.2.1] at h1
                    have h2 : ¬ (10 * V + dg) < 2 ^ 256 := by
                      rw [← canon_len8, ← Hot.out.2]
                      exact hfit
                    omega
                  have hz : parseD false s.data.toList = (0, 3) := by rw [parseD, if_pos Hdg.out, if_pos hbig]
                  obtain ⟨w4, hw4, hcan4, hn4, g0, g1, -⟩ := (CanAt.zero w2).store Q.out.2.2 Q.out.2.1 (Nat.le_refl _)
                  have hb2 : Blk w2 w.heap.size 26 [.bool false, .slice none 0 0] := Q.out.2.2
                  have r0 : w2.cell? ⟨w.heap.size, 0, none⟩ = some (.bool false) := hb2.cell 0
                  have r1 : w2.cell? ⟨w.heap.size, 1, none⟩ = some (.slice none 0 0) := hb2.cell 1
                  have f0 := hb2.frozen 0
                  have f1 := hb2.frozen 1
                  have H4 := hide (And.intro hcan4 (And.intro hn4 (And.intro hw4 hz)))
                  clear hbig hz hcan4 hn4 hw4 hb2
                  go_wp2
                  rw [← H4.out.2.2.1]
                  refine bodyPost_ret (v := .tuple #[.agg #[.bool false, .slice none 0 0], .int .i64 3]) (by simp [results, Tryd.results72, go_sem, g0, g1]) rfl ⟨false, none, 0, 0, ?_, ?_, H4.out.2.1⟩
                  · rw [HP.out, H4.out.2.2.2]
                  · rw [HP.out, H4.out.2.2.2]; exact H4.out.1
          · obtain rfl : k = s.size := by omega
            have hVd : V = decV s.data.toList := by
              have h := HV.out.2
              rwa [List.take_of_length_le (by rw [len_data]; exact Nat.le_refl _)] at h
            have hVb : ¬ 2 ^ 256 ≤ decV s.data.toList := by
              rw [← hVd]
              have h := (canon_len8 V).1 (by rw [← HV.out.1]; exact hn8)
              omega
            have hz : parseD false s.data.toList = (sgn false V, 0) := by rw [parseD, if_pos Hdg.out, if_neg hVb, hVd]
            have Q := hide (And.intro hown (And.intro hnew (And.intro hbox hz)))
            clear hown hnew hbox hz hVb hVd
            go_wp2_with fail
            refine (made_any A n c _ false _ Q.out.1.row (limbs_canon _)).mono ?_
            rw [val_canon]
            rintro e w5 ⟨f, A5, n5, c5, rfl, hcan, hm5⟩
            have hb5 := (show Blk wr _ _ _ from Q.out.2.2.1).new_ hm5
            have f0 := hb5.frozen 0
            have f1 := hb5.frozen 1
            have r0 : w5.cell? ⟨w.heap.size, 0, none⟩ = some (.bool false) := hb5.cell 0
            have r1 : w5.cell? ⟨w.heap.size, 1, none⟩ = some (.slice none 0 0) := hb5.cell 1
            obtain ⟨w6, hw6, hcan6, hn6, g0, g1, -⟩ := hcan.store hb5 (Q.out.2.1.transNew hm5) (Nat.le_refl _)
            have H6 := hide (And.intro hcan6 (And.intro hn6 hw6))
            clear hb5 hcan hm5 hcan6 hn6 hw6
            go_wp2
            rw [← H6.out.2.2]
            refine bodyPost_ret (v := .tuple #[.agg #[.bool f, .slice A5 n5 c5], .int .i64 0]) (by simp [results, Tryd.results72, go_sem, g0, g1]) rfl ⟨f, A5, n5, c5, ?_, ?_, H6.out.2.1⟩
            · rw [HP.out, Q.out.2.2.2]
            · rw [HP.out, Q.out.2.2.2]; exact H6.out.1
      · have hdg' : digB s.data.toList = false := by simpa using hdg
        have hz : parseD false s.data.toList = (0, 2) := by rw [parseD, if_neg hdg]
        have Hdg := hide (And.intro hdg' hz)
        clear hdg hdg' hz
        obtain ⟨w4, hw4, hcan4, hn4, g0, g1, -⟩ := (CanAt.zero w1).store H1.out.2 H1.out.1 (Nat.le_refl _)
        have r0 : w1.cell? ⟨w.heap.size, 0, none⟩ = some (.bool false) := (show Blk w1 _ _ _ from H1.out.2).cell 0
        have r1 : w1.cell? ⟨w.heap.size, 1, none⟩ = some (.slice none 0 0) := (show Blk w1 _ _ _ from H1.out.2).cell 1
        have f0 := (show Blk w1 _ _ _ from H1.out.2).frozen 0
        have f1 := (show Blk w1 _ _ _ from H1.out.2).frozen 1
        have H4 := hide (And.intro hcan4 (And.intro hn4 hw4))
        clear hcan4 hn4 hw4
        refine (digits_any s _ hDs).mono ?_
        rintro e w1' ⟨rfl, rfl⟩
        rw [Hdg.out.1]
        go_wp2
        rw [← H4.out.2.2]
        refine bodyPost_ret (v := .tuple #[.agg #[.bool false, .slice none 0 0], .int .i64 2]) (by simp [results, Tryd.results72, go_sem, g0, g1]) rfl ⟨false, none, 0, 0, ?_, ?_, H4.out.2.1⟩
        · rw [HP.out, Hdg.out.2]
        · rw [HP.out, Hdg.out.2]; exact H4.out.1
  · have hnil : s.data.toList = [] := List.eq_nil_of_length_eq_zero (by rw [len_data]; omega)
    obtain rfl : s = ⟨#[]⟩ := by
      cases s with
      | mk d =>
        have : d = #[] := Array.ext' hnil
        subst this
        rfl
    have hP : p = (0, 2) := by rw [hp]; rfl
    have HP := hide hP
    have hdg : digB (⟨#[]⟩ : ByteArray).data.toList = false := rfl
    have Hdg := hide hdg
    clear hp hP hnil hsz hdg
    go_enter Tryd.func72, Tryd.ntmps72
    go_wp2
    go_quiet (fail)
    go_wp2_with fail
    obtain ⟨w1, hw1⟩ : ∃ w1, w1 = (w.alloc (.cells #[.bool false, .slice none 0 0] 26)).drewN nq := ⟨_, rfl⟩
    have hn1 : New w w1 := by rw [hw1]; exact ((Upd.refl _ _).alloc _).drewN _
    have hb1 : Blk w1 w.heap.size 26 [.bool false, .slice none 0 0] := by rw [hw1]; exact Blk.new w _ _
    rw [← hw1]
    obtain ⟨w4, hw4, hcan4, hn4, g0, g1, -⟩ := (CanAt.zero w1).store hb1 hn1 (Nat.le_refl _)
    have r0 : w1.cell? ⟨w.heap.size, 0, none⟩ = some (.bool false) := hb1.cell 0
    have r1 : w1.cell? ⟨w.heap.size, 1, none⟩ = some (.slice none 0 0) := hb1.cell 1
    have f0 := hb1.frozen 0
    have f1 := hb1.frozen 1
    have H4 := hide (And.intro hcan4 (And.intro hn4 hw4))
    clear hcan4 hn4 hw4 hw1 hn1 hb1
    refine (digits_any _ _ hs).mono ?_
    rintro e w1' ⟨rfl, rfl⟩
    rw [Hdg.out]
    go_wp2
    rw [← H4.out.2.2]
    refine bodyPost_ret (v := .tuple #[.agg #[.bool false, .slice none 0 0], .int .i64 2]) (by simp [results, Tryd.results72, go_sem, g0, g1]) rfl ⟨false, none, 0, 0, ?_, ?_, H4.out.2.1⟩
    · rw [HP.out]
    · rw [HP.out]; exact H4.out.1

theorem big_in {w : World} {b : Bool} {A : Option Addr} {m : List Nat} {c : Nat} (hr : SRow w .u32 A m c) (hl : Limbs m) : BigAt w (.agg #[.bool b, sv A m c]) (goodI b m) := ⟨b, _, m, rfl, hr, hl, rfl⟩
theorem trim_len (u : List Nat) : (trimN u).length ≤ u.length := by
  unfold trimN rtrimN
  rw [List.length_reverse]
  have h1 := (List.dropWhile_sublist blankN (l := (u.dropWhile blankN).reverse)).length_le
  have h2 := (List.dropWhile_sublist blankN (l := u)).length_le
  rw [List.length_reverse] at h1
  omega
theorem bText_c (a : Bool) (Aa : Option Addr) (ma : List Nat) (ca : Nat) (w : World) (hra : SRow w .u32 Aa ma ca) (ha : Limbs ma) : Calls Tryd.prog 37 #[.agg #[.bool a, sv Aa ma ca]] w (IsRet (.string (strOfNums (textI (goodI a ma)))) w) := text_any _ _ w (big_in hra ha)
def bParse_c_P (s : ByteArray) (w : World) (en : Ending) (w' : World) : Prop := ∃ (Ar0 : Option Addr) (cr0 : Nat), en = .returned (.tuple #[.agg #[.bool (decide ((parseZ s.data.toList).1 < 0)), sv Ar0 (canon ((parseZ s.data.toList).1).natAbs) cr0], iv ((parseZ s.data.toList).2)]) ∧ SRow w' .u32 Ar0 (canon ((parseZ s.data.toList).1).natAbs) cr0 ∧ New w w'
theorem bParse_c (s : ByteArray) (w : World) (hs : s.size ≤ 100000) : Calls Tryd.prog 72 #[.string s] w (bParse_c_P s w) := by
  refine (parse_any s w hs).mono fun e w' h => ?_
  obtain ⟨f, A', n', c', rfl, hc, hn⟩ := h
  obtain ⟨rfl, rfl, hr'⟩ := hc.parts
  exact ⟨A', c', rfl, hr', hn⟩
def cparsed_c_P (Au : Option Addr) (u : List Nat) (cu : Nat) (w : World) (en : Ending) (w' : World) : Prop := ∃ (Ar0 : Option Addr) (cr0 : Nat), en = .returned (.tuple #[.agg #[.bool (decide ((parsedZ u).1 < 0)), sv Ar0 (canon ((parsedZ u).1).natAbs) cr0], iv ((parsedZ u).2)]) ∧ SRow w' .u32 Ar0 (canon ((parsedZ u).1).natAbs) cr0 ∧ New w w'
theorem cparsed_c (Au : Option Addr) (u : List Nat) (cu : Nat) (w : World) (hru : SRow w .u16 Au u cu) (hu : U16s u) (hs : u.length ≤ 20000) : Calls Tryd.prog 44 #[sv Au u cu] w (cparsed_c_P Au u cu w) := by
 refine enter_abs Tryd.func44 rfl fun a0 bG il hp => ?_
 have bG : a0.tmps.size = 66 := bG
 have gk : New w w := Upd.refl _ _
 have hp0 : a0.eval (.tmp 0) = sv Au u cu := hp 0 _ rfl
 have hut := hu.trim
 have htl := trim_len u
 have hb := hut.at16 0
 refine wp_seq_k fun K1 im => ?_
 refine wp_g [true, true] [] [] 66
   [IsNew w 26 [.bool false, sv none ([]) 0], ve (iv 0)]
   [0] (newsCons (fun v w h => IsNew.old h) newsNil) bG (.nw (.eq (.nil))) ?_ (fun i h => by cases h) ?_
 exact .o2 (step_allocN (cs := [.bool false, sv none ([]) 0]) (t := 26) rfl (noG rfl) (fun _ w hn k => rfl) (fun q _ hq hb => ⟨q, rfl, hq, hb⟩)) <| .t (fun _ w hn k => ⟨_, v_assign rfl rfl, rfl⟩) .nil
 refine aftI bG il gk fun a2 w3 gl io cX kT gn => ?_
 have h8 := gn.fx 0 hp0
 obtain ⟨aX, h9, gy, gz⟩ : IsNew _ _ _ _ _ := gn.got 0 2 rfl (by kernel_rfl)
 have jz := Nat.le_trans gk.size gy
 refine st_nil (im _ _ (wp_seq_k fun kU gA => ?_))
 refine wp_g0 [true, true, false] [(2, true)] 66
   [ve (sv Au u cu),
    (RP .u16 (trimN u)), vt] gl (.eq (.cons (fun _ _ _ n ⟨_, _, e, h⟩ => ⟨_, _, e, h.new_ n⟩) (.tt (.nil)))) ?_ ?_
 refine .m (fun k => k.fx 0 h8) ?_
 refine .o1 (tkC rfl (noG rfl) rfl fun _ w hn k => (by
       refine ⟨#[sv Au u cu], _, args1 (k.eq1 0 10 rfl), fun w => by kernel_rfl, ctrim_c _ u _ _ (hru.new_ (cX.transNew hn)) hu, ?_⟩
       rintro e w' ⟨A1, c2, rfl, hmo0, hm⟩
       exact ⟨_, rfl, hm, ⟨A1, c2, rfl, hmo0⟩⟩)) ?_
 exact .off .nil
 refine aftI gl io cX fun cY kV cZ gB gC gD bv => ?_
 have kW := bv.fx 0 h8
 have ip := bv.fx 2 h9
 obtain ⟨ag, ac, bH, gE⟩ : (RP .u16 (trimN u)) _ _ := bv.got 1 11 rfl (by kernel_rfl)
 have bH : cY.eval (.tmp 11) = sv ag (trimN u) ac := bH
 have gF := gz.new_ gD
 refine st_take rfl rfl (y_assign (v := sv ag (trimN u) ac) rfl bH) rfl ?_
 obtain ⟨iq, aH⟩ : ∃ a', a' = cY.put (some 0) (sv ag (trimN u) ac) := ⟨_, rfl⟩
 have c0 := pz aH cZ
 have gG := pd aH gB
 have ir := pn aH ip (by decide)
 have kX := pn aH bH (by decide)
 have go : iq.eval (.tmp 0) = sv ag (trimN u) ac := by rw [aH]; exact put_same _ _ _ (by rw [cZ]; decide)
 show stepsTo _ _ _ _ _ (cY.put (some 0) (sv ag (trimN u) ac)) _
 rw [← aH]
 refine st_nil (gA _ _ (wp_seq_k fun kY gH => ?_))
 refine wp_seq_k fun kZ gI => ?_
 refine wp_g0 [true, true, true] [] 66
   [ve (sv ag (trimN u) ac), ve (iv ((trimN u).length : Int)), ve (.bool (decide (((trimN u).length : Int) = 0)))] c0 (.eq (.eq (.eq (.nil)))) ?_ ?_
 exact .m (fun k => k.fx 0 go) <| .t (fun _ w hn k => ⟨_, v_lenR rfl elU (k.eq1 0 12 rfl), rfl⟩) <| .t (fun _ w hn k => ⟨_, v_bin rfl (k.eq1 1 13 rfl) rfl (fun _ => rfl) (r_eql rfl), rfl⟩) .nil
 refine aftI c0 gG gC fun k0 k1 a7 c1 c3 c7 bw => ?_
 have gp := bw.fx 2 ir
 have c9 := bw.fx 0 go
 have gq := bw.ge 2 14 rfl
 have da := gF.new_ c7
 have db := gE.new_ c7
 refine st_nil (gI _ _ ?_)
 rcases bc (decide (((trimN u).length : Int) = 0)) with ab | ab
 have ec := oT ab
 have gJ := hB gq ab
 refine wp_cond_true gJ ?_
 refine wp_seq_k fun k2 gK => ?_
 refine wp_g0 [true, false, false] [(1, false), (2, true)] 66
   [ve (.agg #[.bool false, sv none ([]) 0]), vt, vt] a7 (.eq (.tt (.tt (.nil)))) ?_ ?_
 exact .t (fun _ w hn k => ⟨_, v_build (ps := []) rfl parts0 (by kernel_rfl), rfl⟩) <| .off <| .off .nil
 refine aftI a7 c1 c3 fun gr k3 dc gL gM gN de => ?_
 have gs := de.fx 2 gp
 have gt := de.ge 0 15 rfl
 have gO := da.new_ gN
 obtain ⟨k4, -, ed, gP, gQ, jA⟩ := s_two (v0 := .bool false) (v1 := sv none ([]) 0) Tryd.sizeOf26 rfl rfl rfl gO
 refine st_act rfl rfl fun k5 gR => a_store' rfl gs gt ed (gR _ _ trivial ?_)
 have gS := gM.trans gQ (fun _ h b => by subst b; omega)
 refine st_take rfl rfl (y_assign (v := iv 0) rfl rfl) rfl ?_
 obtain ⟨it, aI⟩ : ∃ a', a' = gr.put (some 3) (iv 0) := ⟨_, rfl⟩
 have jB := pz aI dc
 have gT := pd aI gL
 have iu := pn aI gs (by decide)
 have k6 := pn aI gt (by decide)
 have iw : it.eval (.tmp 3) = iv 0 := by rw [aI]; exact put_same _ _ _ (by rw [dc]; decide)
 show stepsTo _ _ _ _ _ (gr.put (some 3) (iv 0)) _
 rw [← aI]
 refine st_nil (gK _ _ ?_)
 refine wp_ret (ret_k gT (v := .tuple #[.agg #[.bool false, sv none ([]) 0], iv 0]) (res_ct rfl iu iw (l_two Tryd.isAgg26 Tryd.sizeOf26 gP)) ?_)
 have ah : (canon ((parsedZ u).1).natAbs) = [] := by first | rfl | (simp only [parsedZ, parsedB, Int.natAbs_zero, canon_zero, ab, bsm] <;> rfl) | (exfalso; omega)
 exact ⟨none, 0, (by show Ending.returned (.tuple #[.agg #[.bool false, sv none ([]) 0], iv 0]) = Ending.returned (.tuple #[.agg #[.bool (decide ((parsedZ u).1 < 0)), sv none (canon ((parsedZ u).1).natAbs) 0], iv ((parsedZ u).2)]); (first | rfl | (simp only [parsedZ, parsedB, Int.natAbs_zero, canon_zero, ab, ah, bsm] <;> rfl) | (exfalso; omega))), (by rw [ah]; exact (SRow.nil _ _)), gS⟩
 have ec := oF ab
 have gU := hB gq ab
 refine wp_cond_false gU ?_
 refine wp_skip ?_
 refine gH _ _ ?_
 refine wp_seq_k fun k7 gV => ?_
 refine wp_g0 [true, true, true, true, true, true, true] [] 66
   [ve (sv ag (trimN u) ac), ve (sv ag (trimN u) ac),
    (EP (.int .u16 (((trimN u).getD 0 0 : Nat) : Int))), ve (.int .u16 (((trimN u).getD 0 0 : Nat) : Int)), ve (.bool (decide ((((trimN u).getD 0 0 : Nat) : Int) = 45))), ve (sv ag (trimN u) ac), ve (.bool (decide ((((trimN u).getD 0 0 : Nat) : Int) = 45)))] a7 (.eq (.eq (.cons (fun _ _ _ n ⟨_, _, e, h⟩ => ⟨_, _, e, h.new_ n⟩) (.eq (.eq (.eq (.eq (.nil)))))))) ?_ ?_
 refine .m (fun k => k.fx 0 c9) <| .m (fun k => k.fx 0 c9) ?_
 refine .o1 (tk rfl rfl fun _ w hn k => (by
       exact x_eaddr (k := .u16) rfl elU (k.eq1 1 17 rfl) rfl (db.new_ hn) (by omega) fun iz iA hme => ⟨iz, iA, rfl, hme⟩)) ?_
 refine .o1 (tk rfl rfl fun _ w hn k => (by
       obtain ⟨k8, k9, iB, gW⟩ : (EP (.int .u16 (((trimN u).getD 0 0 : Nat) : Int))) _ _ := k.dep 2 18 (by kernel_rfl) (by kernel_rfl)
       exact ⟨_, v_load rfl iB (l_one Tryd.isAgg64 gW.1), rfl⟩)) ?_
 exact .t (fun _ w hn k => ⟨_, v_bin rfl (k.eq1 3 19 rfl) rfl (fun _ => rfl) (r_eql rfl), rfl⟩) <| .a (fun k => k.eq1 0 16 rfl) <| .a (fun k => k.eq1 4 20 rfl) .nil
 refine aftI a7 c1 c3 fun la lc a8 df dg dh a9 => ?_
 have gu := a9.fx 2 gp
 have di := a9.fx 0 c9
 have gv := a9.ge 5 4 rfl
 have gw := a9.ge 6 5 rfl
 have dj := da.new_ dh
 have bx := db.new_ dh
 refine st_nil (gV _ _ ?_)
 refine wp_seq_j (fun (aa : Act) (ww : World) => ∃ (ng : Bool), ∃ (dd : List Nat), ∃ (A5 : Option Addr), ∃ (c5 : Nat), aa.tmps.size = 66 ∧ aa.defers = [] ∧ New w ww ∧ aa.eval (.tmp 4) = sv A5 dd c5 ∧ aa.eval (.tmp 5) = .bool ng ∧ aa.eval (.tmp 0) = sv ag (trimN u) ac ∧ aa.eval (.tmp 2) = pv aX ∧ Blk ww aX 26 [.bool false, sv none ([]) 0] ∧ SRow ww .u16 A5 dd c5 ∧ SRow ww .u16 ag (trimN u) ac ∧ (parsedZ u = parsedB (trimN u) dd ng) ∧ (U16s dd) ∧ (dd.length ≤ 20000)) ?_ ?_
 rintro ld le ⟨ng, dd, A5, c5, dk, gX, gY, gx, gZ, g0, g1, ee, bI, ef, hbody, hdd, hdl⟩
 refine wp_seq_k fun jC eg => ?_
 refine wp_block ?_
 refine wp_seq_k fun jD eh => ?_
 refine wp_g0 [true, true, true] [] 66
   [ve (sv A5 dd c5), ve (.bool (digitsT dd)), ve (.bool (digitsT dd))] dk (.eq (.eq (.eq (.nil)))) ?_ ?_
 exact .m (fun k => k.fx 4 gx) <| .o1 (ck rfl rfl rfl (fun _ w hn k => ⟨#[sv A5 dd c5], args1 (k.eq1 0 31 rfl), fun _ => by kernel_rfl, cdigits_c _ dd _ _ (bI.new_ hn) hdd⟩) fun _ => rfl) <| .a (fun k => k.eq1 1 32 rfl) .nil
 refine aftI dk gX gY fun jE jF ba bJ bK bb aD => ?_
 have g2 := aD.fx 4 gx
 have g3 := aD.fx 5 gZ
 have g4 := aD.fx 0 g0
 have dl := aD.fx 2 g1
 have dm := aD.ge 2 30 rfl
 have bL := ee.new_ bb
 have ei := bI.new_ bb
 have ej := ef.new_ bb
 refine st_nil (eh _ _ ?_)
 rcases bc (digitsT dd) with ad | ad
 have ek := hB dm ad
 refine wp_cond_true ek ?_
 refine wp_seq_j (fun (aa : Act) (ww : World) => ∃ (A8 : Option Addr), ∃ (c8 : Nat), aa.tmps.size = 66 ∧ aa.defers = [] ∧ New w ww ∧ aa.eval (.tmp 4) = sv A8 (stripN dd) c8 ∧ aa.eval (.tmp 2) = pv aX ∧ aa.eval (.tmp 5) = .bool ng ∧ Blk ww aX 26 [.bool false, sv none ([]) 0] ∧ SRow ww .u16 A8 (stripN dd) c8 ∧ (U16s (stripN dd)) ∧ ((stripN dd).length ≤ 20000)) ?_ ?_
 rintro jG jH ⟨A8, c8, bM, el, em, g5, g6, g7, en, eo, hsu, hsl⟩
 refine wp_seq_k fun jI ep => ?_
 refine wp_g0 [true, true, true, true, true, true, true] [] 66
   [ve (sv A8 (stripN dd) c8), ve (.tuple #[.string ((plainT (stripN dd)).1), .bool ((plainT (stripN dd)).2)]), ve (.tuple #[.string ((plainT (stripN dd)).1), .bool ((plainT (stripN dd)).2)]), ve (.string ((plainT (stripN dd)).1)), ve (.bool ((plainT (stripN dd)).2)), ve (.string ((plainT (stripN dd)).1)), ve (.bool ((plainT (stripN dd)).2))] bM (.eq (.eq (.eq (.eq (.eq (.eq (.eq (.nil)))))))) ?_ ?_
 exact .m (fun k => k.fx 4 g5) <| .o1 (ck rfl rfl rfl (fun _ w hn k => ⟨#[sv A8 (stripN dd) c8], args1 (k.eq1 0 45 rfl), fun _ => by kernel_rfl, plain_c _ (stripN dd) _ _ (eo.new_ hn) hsu (by omega)⟩) fun _ => rfl) <| .m (fun k => k.eq1 1 46 rfl) <| .t (fun _ w hn k => ⟨_, v_extract rfl (k.eq1 2 44 rfl) rfl, rfl⟩) <| .t (fun _ w hn k => ⟨_, v_extract rfl (k.eq1 2 44 rfl) rfl, rfl⟩) <| .a (fun k => k.eq1 3 47 rfl) <| .a (fun k => k.eq1 4 48 rfl) .nil
 refine aftI bM el em fun jJ g8 bN er bO es bd => ?_
 have g9 := bd.fx 2 g6
 have ha := bd.fx 5 g7
 have hc := bd.ge 5 6 rfl
 have bP := en.new_ es
 refine st_nil (ep _ _ (wp_seq_k fun jK et => ?_))
 have hps := plainT_size (stripN dd)
 refine wp_gS (fun W => True) (fun W W' hn h => trivial) trivial [true, true, true, true, true, true, false, false] [4] [(6, false), (7, true)] 66
   [ve (.string ((plainT (stripN dd)).1)), (fun (v_ : Value) (W : World) => ∃ (aY : Option Addr) (aZ : Nat), v_ = .tuple #[.agg #[.bool (decide ((parseZ ((plainT (stripN dd)).1).data.toList).1 < 0)), sv aY (canon ((parseZ ((plainT (stripN dd)).1).data.toList).1).natAbs) aZ], iv ((parseZ ((plainT (stripN dd)).1).data.toList).2)] ∧ SRow W .u32 aY (canon ((parseZ ((plainT (stripN dd)).1).data.toList).1).natAbs) aZ), (fun (v_ : Value) (W : World) => ∃ (aB : Option Addr) (aC : Nat), v_ = .tuple #[.agg #[.bool (decide ((parseZ ((plainT (stripN dd)).1).data.toList).1 < 0)), sv aB (canon ((parseZ ((plainT (stripN dd)).1).data.toList).1).natAbs) aC], iv ((parseZ ((plainT (stripN dd)).1).data.toList).2)] ∧ SRow W .u32 aB (canon ((parseZ ((plainT (stripN dd)).1).data.toList).1).natAbs) aC), (fun (v_ : Value) (W : World) => ∃ (a1 : Option Addr) (a3 : Nat), v_ = .agg #[.bool (decide ((parseZ ((plainT (stripN dd)).1).data.toList).1 < 0)), sv a1 (canon ((parseZ ((plainT (stripN dd)).1).data.toList).1).natAbs) a3] ∧ SRow W .u32 a1 (canon ((parseZ ((plainT (stripN dd)).1).data.toList).1).natAbs) a3), ve (iv ((parseZ ((plainT (stripN dd)).1).data.toList).2)), IsNew g8 26 [.bool false, sv none ([]) 0], vt, vt]
   [5] (newsCons (fun v w h => IsNew.old h) newsNil) bN (.eq (.cons (fun _ _ _ n ⟨_, _, e, h⟩ => ⟨_, _, e, h.new_ n⟩) (.cons (fun v W W' hn ⟨aB, aC, he, h0⟩ => ⟨aB, aC, he, h0.new_ hn⟩) (.cons (fun _ _ _ n ⟨_, _, e, h⟩ => ⟨_, _, e, h.new_ n⟩) (.eq (.nw (.tt (.tt (.nil))))))))) ?_ ?_ ?_
 refine .m (fun k => k.fx 6 hc) ?_
 refine .o1 (tkC rfl (noG rfl) rfl fun _ w hn k => (by
       refine ⟨#[.string ((plainT (stripN dd)).1)], _, args1 (k.eq1 0 50 rfl), fun w => by kernel_rfl, bParse_c ((plainT (stripN dd)).1) _ (by omega), ?_⟩
       rintro e w' ⟨iC, iD, rfl, hmo0, hm⟩
       exact ⟨_, rfl, hm, ⟨iC, iD, rfl, hmo0⟩⟩)) ?_
 refine .o1 (tk rfl rfl fun _ w hn k => (by
       obtain ⟨iE, iF, iG, hd⟩ : (fun (v_ : Value) (W : World) => ∃ (aY : Option Addr) (aZ : Nat), v_ = .tuple #[.agg #[.bool (decide ((parseZ ((plainT (stripN dd)).1).data.toList).1 < 0)), sv aY (canon ((parseZ ((plainT (stripN dd)).1).data.toList).1).natAbs) aZ], iv ((parseZ ((plainT (stripN dd)).1).data.toList).2)] ∧ SRow W .u32 aY (canon ((parseZ ((plainT (stripN dd)).1).data.toList).1).natAbs) aZ) _ _ := k.dep 1 51 (by kernel_rfl) (by kernel_rfl)
       exact ⟨_, v_move rfl iG, ⟨iE, iF, rfl, hd⟩⟩)) ?_
 refine .o1 (tk rfl rfl fun _ w hn k => (by
       obtain ⟨iH, iI, iJ, hf⟩ : (fun (v_ : Value) (W : World) => ∃ (aB : Option Addr) (aC : Nat), v_ = .tuple #[.agg #[.bool (decide ((parseZ ((plainT (stripN dd)).1).data.toList).1 < 0)), sv aB (canon ((parseZ ((plainT (stripN dd)).1).data.toList).1).natAbs) aC], iv ((parseZ ((plainT (stripN dd)).1).data.toList).2)] ∧ SRow W .u32 aB (canon ((parseZ ((plainT (stripN dd)).1).data.toList).1).natAbs) aC) _ _ := k.dep 2 49 (by kernel_rfl) (by kernel_rfl)
       exact ⟨_, v_extract rfl iJ rfl, ⟨iH, iI, rfl, hf⟩⟩)) ?_
 refine .o3 ?_
 exact .o2 (step_allocN (cs := [.bool false, sv none ([]) 0]) (t := 26) rfl (noG rfl) (fun _ w hn k => rfl) (fun q _ hq hb => ⟨q, rfl, hq, hb⟩)) <| .off <| .off .nil
 intro i h
 simp only [List.contains_eq_mem, List.mem_cons, List.not_mem_nil, or_false, decide_eq_true_eq] at h
 subst h
 exact eager_takeG rfl (noG rfl) fun _ w hn k => (by
     obtain ⟨lf, lg, iK, jL⟩ : (fun (v_ : Value) (W : World) => ∃ (aB : Option Addr) (aC : Nat), v_ = .tuple #[.agg #[.bool (decide ((parseZ ((plainT (stripN dd)).1).data.toList).1 < 0)), sv aB (canon ((parseZ ((plainT (stripN dd)).1).data.toList).1).natAbs) aC], iv ((parseZ ((plainT (stripN dd)).1).data.toList).2)] ∧ SRow W .u32 aB (canon ((parseZ ((plainT (stripN dd)).1).data.toList).1).natAbs) aC) _ _ := k.dep 2 49 (by kernel_rfl) (by kernel_rfl)
     exact ⟨_, fun w hS => v_extract rfl iK rfl, rfl⟩)
 intro bz jM _ bQ au
 obtain ⟨bR, eu, ev⟩ := aft au bN er bO bQ
 have hg := au.fx 2 g9
 have hh := au.fx 5 ha
 obtain ⟨al, af, be, ew⟩ : (fun (v_ : Value) (W : World) => ∃ (a1 : Option Addr) (a3 : Nat), v_ = .agg #[.bool (decide ((parseZ ((plainT (stripN dd)).1).data.toList).1 < 0)), sv a1 (canon ((parseZ ((plainT (stripN dd)).1).data.toList).1).natAbs) a3] ∧ SRow W .u32 a1 (canon ((parseZ ((plainT (stripN dd)).1).data.toList).1).natAbs) a3) _ _ := au.got 3 52 rfl (by kernel_rfl)
 have be : bz.eval (.tmp 52) = .agg #[.bool (decide ((parseZ ((plainT (stripN dd)).1).data.toList).1 < 0)), sv al (canon ((parseZ ((plainT (stripN dd)).1).data.toList).1).natAbs) af] := be
 have dn := au.ge 4 53 rfl
 obtain ⟨hi, dp, bS, bT⟩ : IsNew _ _ _ _ _ := au.got 5 8 rfl (by kernel_rfl)
 have ex := bP.new_ bQ
 have hne166 : aX ≠ hi := by have h1 := bP.lt; have h2 := bS; omega
 have jk := Nat.le_trans bO.size bS
 obtain ⟨jN, -, dq, bU, bV, ey⟩ := s_two (v0 := .bool (decide ((parseZ ((plainT (stripN dd)).1).data.toList).1 < 0))) (v1 := sv al (canon ((parseZ ((plainT (stripN dd)).1).data.toList).1).natAbs) af) Tryd.sizeOf26 rfl rfl rfl bT
 refine st_act rfl rfl fun jO ez => a_store' rfl dp be dq (ez _ _ trivial ?_)
 have bW := ew.far bT bV (by first | rfl | decide | simp [notK])
 have bX := ey _ _ _ (hne166) ex
 have bY := ev.trans bV (fun _ h b => by subst b; omega)
 refine st_take rfl rfl (y_assign (v := iv ((parseZ ((plainT (stripN dd)).1).data.toList).2)) rfl dn) rfl ?_
 obtain ⟨hj, ai⟩ : ∃ a', a' = bz.put (some 9) (iv ((parseZ ((plainT (stripN dd)).1).data.toList).2)) := ⟨_, rfl⟩
 have aK := pz ai bR
 have bZ := pd ai eu
 have dr := pn ai hg (by decide)
 have ds := pn ai hh (by decide)
 have jP := pn ai be (by decide)
 have jQ := pn ai dn (by decide)
 have dt := pn ai dp (by decide)
 have du : hj.eval (.tmp 9) = iv ((parseZ ((plainT (stripN dd)).1).data.toList).2) := by rw [ai]; exact put_same _ _ _ (by rw [bR]; decide)
 show stepsTo _ _ _ _ _ (bz.put (some 9) (iv ((parseZ ((plainT (stripN dd)).1).data.toList).2))) _
 rw [← ai]
 refine st_nil (et _ _ (wp_seq_k fun jR eA => ?_))
 refine wp_seq_k fun jS b0 => ?_
 rcases bc (decide (((parseZ ((plainT (stripN dd)).1).data.toList).2) = 0)) with ae | ae
 have dv := oT ae
 refine wp_g0 [true, true] [] 66
   [ve (iv ((parseZ ((plainT (stripN dd)).1).data.toList).2)), vF] aK (.eq (.eq (.nil))) ?_ ?_
 exact .m (fun k => k.fx 9 du) <| .t (fun _ w hn k => ⟨_, v_bin rfl (k.eq1 0 54 rfl) rfl (fun _ => rfl) (r_neq ae), rfl⟩) .nil
 refine aftI aK bZ bY fun jT jU b1 eB eC bf aL => ?_
 have hl := aL.fx 2 dr
 have ho := aL.fx 5 ds
 have hr := aL.fx 8 dt
 have ht := aL.ge 1 55 rfl
 have eD := bX.new_ bf
 have eE := bU.new_ bf
 have eF := bW.new_ bf
 refine st_nil (b0 _ _ ?_)
 refine wp_cond_false ht ?_
 refine wp_skip ?_
 refine eA _ _ ?_
 refine wp_seq_k fun jV b2 => ?_
 refine wp_seq_k fun jW eG => ?_
 refine wp_g0 [true] [] 66
   [ve (.bool ng)] b1 (.eq (.nil)) ?_ ?_
 exact .m (fun k => k.fx 5 ho) .nil
 refine aftI b1 eB eC fun jX jY aM b3 b4 bg bh => ?_
 have dw := bh.fx 2 hl
 have bA := bh.fx 8 hr
 have dx := bh.ge 0 57 rfl
 have b5 := eD.new_ bg
 have bi := eE.new_ bg
 have bj := eF.new_ bg
 refine st_nil (eG _ _ ?_)
 rcases bc (ng) with am | am
 have eH := hB dx am
 refine wp_cond_true eH ?_
 have hp8 := (canon_len8 _).2 (parseZ_lt (plainT (stripN dd)).1.data.toList)
 refine wp_g0 [true, true, false] [(2, false)] 66
   [ve (.agg #[.bool (decide ((parseZ ((plainT (stripN dd)).1).data.toList).1 < 0)), sv al (canon ((parseZ ((plainT (stripN dd)).1).data.toList).1).natAbs) af]), (fun (v_ : Value) (W : World) => ∃ (a4 : Option Addr) (a5 : Nat), v_ = .agg #[.bool (decide (-(goodI (decide ((parseZ ((plainT (stripN dd)).1).data.toList).1 < 0)) (canon ((parseZ ((plainT (stripN dd)).1).data.toList).1).natAbs)) < 0)), sv a4 (canon (-(goodI (decide ((parseZ ((plainT (stripN dd)).1).data.toList).1 < 0)) (canon ((parseZ ((plainT (stripN dd)).1).data.toList).1).natAbs))).natAbs) a5] ∧ SRow W .u32 a4 (canon (-(goodI (decide ((parseZ ((plainT (stripN dd)).1).data.toList).1 < 0)) (canon ((parseZ ((plainT (stripN dd)).1).data.toList).1).natAbs))).natAbs) a5), vt] aM (.eq (.cons (fun _ _ _ n ⟨_, _, e, h⟩ => ⟨_, _, e, h.new_ n⟩) (.tt (.nil)))) ?_ ?_
 refine .t (fun _ w hn k => ⟨_, v_load rfl (k.fx 8 bA) (l_two Tryd.isAgg26 Tryd.sizeOf26 (bi.new_ hn)), rfl⟩) ?_
 refine .o1 (tkC rfl (noG rfl) rfl fun _ w hn k => (by
       refine ⟨#[.agg #[.bool (decide ((parseZ ((plainT (stripN dd)).1).data.toList).1 < 0)), sv al (canon ((parseZ ((plainT (stripN dd)).1).data.toList).1).natAbs) af]], _, args1 (k.eq1 0 58 rfl), fun w => by kernel_rfl, bNeg_c (decide ((parseZ ((plainT (stripN dd)).1).data.toList).1 < 0)) _ (canon ((parseZ ((plainT (stripN dd)).1).data.toList).1).natAbs) _ _ (bj.new_ hn) (limbs_canon _) (by first | omega | (simp only [List.length_nil, List.length_take, List.length_drop]; omega) | (simp only [List.length_cons, List.length_nil]; omega)), ?_⟩
       rintro e w' ⟨iL, iM, rfl, hmo0, hm⟩
       exact ⟨_, rfl, hm, ⟨iL, iM, rfl, hmo0⟩⟩)) ?_
 exact .off .nil
 refine aftI aM b3 b4 fun hv jZ b6 eI eJ bk bl => ?_
 have hw := bl.fx 2 dw
 have dy := bl.fx 8 bA
 obtain ⟨ar, aj, bB, eK⟩ : (fun (v_ : Value) (W : World) => ∃ (a4 : Option Addr) (a5 : Nat), v_ = .agg #[.bool (decide (-(goodI (decide ((parseZ ((plainT (stripN dd)).1).data.toList).1 < 0)) (canon ((parseZ ((plainT (stripN dd)).1).data.toList).1).natAbs)) < 0)), sv a4 (canon (-(goodI (decide ((parseZ ((plainT (stripN dd)).1).data.toList).1 < 0)) (canon ((parseZ ((plainT (stripN dd)).1).data.toList).1).natAbs))).natAbs) a5] ∧ SRow W .u32 a4 (canon (-(goodI (decide ((parseZ ((plainT (stripN dd)).1).data.toList).1 < 0)) (canon ((parseZ ((plainT (stripN dd)).1).data.toList).1).natAbs))).natAbs) a5) _ _ := bl.got 1 59 rfl (by kernel_rfl)
 have bB : hv.eval (.tmp 59) = .agg #[.bool (decide (-(goodI (decide ((parseZ ((plainT (stripN dd)).1).data.toList).1 < 0)) (canon ((parseZ ((plainT (stripN dd)).1).data.toList).1).natAbs)) < 0)), sv ar (canon (-(goodI (decide ((parseZ ((plainT (stripN dd)).1).data.toList).1 < 0)) (canon ((parseZ ((plainT (stripN dd)).1).data.toList).1).natAbs))).natAbs) aj] := bB
 have eL := b5.new_ bk
 have bm := bi.new_ bk
 have eM := bj.new_ bk
 obtain ⟨j0, -, dz, eN, bn, eO⟩ := s_two (v0 := .bool (decide (-(goodI (decide ((parseZ ((plainT (stripN dd)).1).data.toList).1 < 0)) (canon ((parseZ ((plainT (stripN dd)).1).data.toList).1).natAbs)) < 0))) (v1 := sv ar (canon (-(goodI (decide ((parseZ ((plainT (stripN dd)).1).data.toList).1 < 0)) (canon ((parseZ ((plainT (stripN dd)).1).data.toList).1).natAbs))).natAbs) aj) Tryd.sizeOf26 rfl rfl rfl bm
 refine st_act rfl rfl fun j1 eP => a_store' rfl dy bB dz (eP _ _ trivial ?_)
 have jl := eM.far bm bn (by first | rfl | decide | simp [notK])
 have eQ := eK.far bm bn (by first | rfl | decide | simp [notK])
 have eR := eO _ _ _ (hne166) eL
 have eS := eJ.trans bn (fun _ h b => by subst b; omega)
 refine st_nil (b2 _ _ (wp_seq_k fun j2 eT => ?_))
 refine wp_g0 [true, false, false] [(1, false), (2, true)] 66
   [ve (.agg #[.bool (decide (-(goodI (decide ((parseZ ((plainT (stripN dd)).1).data.toList).1 < 0)) (canon ((parseZ ((plainT (stripN dd)).1).data.toList).1).natAbs)) < 0)), sv ar (canon (-(goodI (decide ((parseZ ((plainT (stripN dd)).1).data.toList).1 < 0)) (canon ((parseZ ((plainT (stripN dd)).1).data.toList).1).natAbs))).natAbs) aj]), vt, vt] b6 (.eq (.tt (.tt (.nil)))) ?_ ?_
 exact .t (fun _ w hn k => ⟨_, v_load rfl (k.fx 8 dy) (l_two Tryd.isAgg26 Tryd.sizeOf26 (eN.new_ hn)), rfl⟩) <| .off <| .off .nil
 refine aftI b6 eI eS fun dA j3 b7 eU eV b8 b9 => ?_
 have dB := b9.fx 2 hw
 have dC := b9.ge 0 60 rfl
 have ca := eR.new_ b8
 have eW := eQ.new_ b8
 obtain ⟨j4, -, dD, eX, cb, jm⟩ := s_two (v0 := .bool (decide (-(goodI (decide ((parseZ ((plainT (stripN dd)).1).data.toList).1 < 0)) (canon ((parseZ ((plainT (stripN dd)).1).data.toList).1).natAbs)) < 0))) (v1 := sv ar (canon (-(goodI (decide ((parseZ ((plainT (stripN dd)).1).data.toList).1 < 0)) (canon ((parseZ ((plainT (stripN dd)).1).data.toList).1).natAbs))).natAbs) aj) Tryd.sizeOf26 rfl rfl rfl ca
 refine st_act rfl rfl fun j5 eY => a_store' rfl dB dC dD (eY _ _ trivial ?_)
 have eZ := eW.far ca cb (by first | rfl | decide | simp [notK])
 have e0 := eV.trans cb (fun _ h b => by subst b; omega)
 refine st_take rfl rfl (y_assign (v := iv 0) rfl rfl) rfl ?_
 obtain ⟨hx, av⟩ : ∃ a', a' = dA.put (some 3) (iv 0) := ⟨_, rfl⟩
 have jn := pz av b7
 have e1 := pd av eU
 have hy := pn av dB (by decide)
 have j6 := pn av dC (by decide)
 have hz : hx.eval (.tmp 3) = iv 0 := by rw [av]; exact put_same _ _ _ (by rw [b7]; decide)
 show stepsTo _ _ _ _ _ (dA.put (some 3) (iv 0)) _
 rw [← av]
 refine st_nil (eT _ _ ?_)
 refine wp_ret (ret_k e1 (v := .tuple #[.agg #[.bool (decide (-(goodI (decide ((parseZ ((plainT (stripN dd)).1).data.toList).1 < 0)) (canon ((parseZ ((plainT (stripN dd)).1).data.toList).1).natAbs)) < 0)), sv ar (canon (-(goodI (decide ((parseZ ((plainT (stripN dd)).1).data.toList).1 < 0)) (canon ((parseZ ((plainT (stripN dd)).1).data.toList).1).natAbs))).natAbs) aj], iv 0]) (res_ct rfl hy hz (l_two Tryd.isAgg26 Tryd.sizeOf26 eX)) ?_)
 have ah : (canon ((parsedZ u).1).natAbs) = (canon (-(goodI (decide ((parseZ ((plainT (stripN dd)).1).data.toList).1 < 0)) (canon ((parseZ ((plainT (stripN dd)).1).data.toList).1).natAbs))).natAbs) := by first | rfl | (simp only [hbody, parsedB, good_parse, Int.natAbs_zero, canon_zero, ab, ad, ae, am, bsm] <;> rfl) | (exfalso; omega)
 exact ⟨ar, aj, (by show Ending.returned (.tuple #[.agg #[.bool (decide (-(goodI (decide ((parseZ ((plainT (stripN dd)).1).data.toList).1 < 0)) (canon ((parseZ ((plainT (stripN dd)).1).data.toList).1).natAbs)) < 0)), sv ar (canon (-(goodI (decide ((parseZ ((plainT (stripN dd)).1).data.toList).1 < 0)) (canon ((parseZ ((plainT (stripN dd)).1).data.toList).1).natAbs))).natAbs) aj], iv 0]) = Ending.returned (.tuple #[.agg #[.bool (decide ((parsedZ u).1 < 0)), sv ar (canon ((parsedZ u).1).natAbs) aj], iv ((parsedZ u).2)]); (first | rfl | (simp only [hbody, parsedB, good_parse, Int.natAbs_zero, canon_zero, ab, ad, ae, am, ah, bsm] <;> rfl) | (exfalso; omega))), (by rw [ah]; exact eZ), e0⟩
 have e2 := hB dx am
 refine wp_cond_false e2 ?_
 refine wp_skip ?_
 refine b2 _ _ ?_
 refine wp_seq_k fun j7 e3 => ?_
 refine wp_g0 [true, false, false] [(1, false), (2, true)] 66
   [ve (.agg #[.bool (decide ((parseZ ((plainT (stripN dd)).1).data.toList).1 < 0)), sv al (canon ((parseZ ((plainT (stripN dd)).1).data.toList).1).natAbs) af]), vt, vt] aM (.eq (.tt (.tt (.nil)))) ?_ ?_
 exact .t (fun _ w hn k => ⟨_, v_load rfl (k.fx 8 bA) (l_two Tryd.isAgg26 Tryd.sizeOf26 (bi.new_ hn)), rfl⟩) <| .off <| .off .nil
 refine aftI aM b3 b4 fun dE j8 cc e4 e5 cd ce => ?_
 have dF := ce.fx 2 dw
 have dG := ce.ge 0 60 rfl
 have cf := b5.new_ cd
 have e6 := bj.new_ cd
 obtain ⟨j9, -, dH, e7, ch, jo⟩ := s_two (v0 := .bool (decide ((parseZ ((plainT (stripN dd)).1).data.toList).1 < 0))) (v1 := sv al (canon ((parseZ ((plainT (stripN dd)).1).data.toList).1).natAbs) af) Tryd.sizeOf26 rfl rfl rfl cf
 refine st_act rfl rfl fun ka e8 => a_store' rfl dF dG dH (e8 _ _ trivial ?_)
 have e9 := e6.far cf ch (by first | rfl | decide | simp [notK])
 have fa := e5.trans ch (fun _ h b => by subst b; omega)
 refine st_take rfl rfl (y_assign (v := iv 0) rfl rfl) rfl ?_
 obtain ⟨hA, aw⟩ : ∃ a', a' = dE.put (some 3) (iv 0) := ⟨_, rfl⟩
 have jp := pz aw cc
 have fb := pd aw e4
 have hC := pn aw dF (by decide)
 have kb := pn aw dG (by decide)
 have hD : hA.eval (.tmp 3) = iv 0 := by rw [aw]; exact put_same _ _ _ (by rw [cc]; decide)
 show stepsTo _ _ _ _ _ (dE.put (some 3) (iv 0)) _
 rw [← aw]
 refine st_nil (e3 _ _ ?_)
 refine wp_ret (ret_k fb (v := .tuple #[.agg #[.bool (decide ((parseZ ((plainT (stripN dd)).1).data.toList).1 < 0)), sv al (canon ((parseZ ((plainT (stripN dd)).1).data.toList).1).natAbs) af], iv 0]) (res_ct rfl hC hD (l_two Tryd.isAgg26 Tryd.sizeOf26 e7)) ?_)
 have ah : (canon ((parsedZ u).1).natAbs) = (canon ((parseZ ((plainT (stripN dd)).1).data.toList).1).natAbs) := by first | rfl | (simp only [hbody, parsedB, good_parse, Int.natAbs_zero, canon_zero, ab, ad, ae, am, bsm] <;> rfl) | (exfalso; omega)
 exact ⟨al, af, (by show Ending.returned (.tuple #[.agg #[.bool (decide ((parseZ ((plainT (stripN dd)).1).data.toList).1 < 0)), sv al (canon ((parseZ ((plainT (stripN dd)).1).data.toList).1).natAbs) af], iv 0]) = Ending.returned (.tuple #[.agg #[.bool (decide ((parsedZ u).1 < 0)), sv al (canon ((parsedZ u).1).natAbs) af], iv ((parsedZ u).2)]); (first | rfl | (simp only [hbody, parsedB, good_parse, Int.natAbs_zero, canon_zero, ab, ad, ae, am, ah, bsm] <;> rfl) | (exfalso; omega))), (by rw [ah]; exact e9), fa⟩
 have dv := oF ae
 refine wp_g0 [true, true] [] 66
   [ve (iv ((parseZ ((plainT (stripN dd)).1).data.toList).2)), vT] aK (.eq (.eq (.nil))) ?_ ?_
 exact .m (fun k => k.fx 9 du) <| .t (fun _ w hn k => ⟨_, v_bin rfl (k.eq1 0 54 rfl) rfl (fun _ => rfl) (r_neq ae), rfl⟩) .nil
 refine aftI aK bZ bY fun kc kd ci fc fd bo aN => ?_
 have hE := aN.fx 2 dr
 have ke := aN.fx 5 ds
 have kf := aN.fx 8 dt
 have hF := aN.ge 1 55 rfl
 have fe := bX.new_ bo
 have jq := bU.new_ bo
 have jr := bW.new_ bo
 refine st_nil (b0 _ _ ?_)
 refine wp_cond_true hF ?_
 refine wp_seq_k fun kg ff => ?_
 refine wp_g0 [true, false, false] [(1, false), (2, true)] 66
   [ve (.agg #[.bool false, sv none ([]) 0]), vt, vt] ci (.eq (.tt (.tt (.nil)))) ?_ ?_
 exact .t (fun _ w hn k => ⟨_, v_build (ps := []) rfl parts0 (by kernel_rfl), rfl⟩) <| .off <| .off .nil
 refine aftI ci fc fd fun dI kh cj fg fh fi cl => ?_
 have dJ := cl.fx 2 hE
 have dK := cl.ge 0 56 rfl
 have fj := fe.new_ fi
 obtain ⟨ki, -, dL, fk, fl, js⟩ := s_two (v0 := .bool false) (v1 := sv none ([]) 0) Tryd.sizeOf26 rfl rfl rfl fj
 refine st_act rfl rfl fun kj fm => a_store' rfl dJ dK dL (fm _ _ trivial ?_)
 have fn := fh.trans fl (fun _ h b => by subst b; omega)
 refine st_take rfl rfl (y_assign (v := iv 3) rfl rfl) rfl ?_
 obtain ⟨hG, ax⟩ : ∃ a', a' = dI.put (some 3) (iv 3) := ⟨_, rfl⟩
 have jt := pz ax cj
 have fo := pd ax fg
 have hH := pn ax dJ (by decide)
 have kk := pn ax dK (by decide)
 have hI : hG.eval (.tmp 3) = iv 3 := by rw [ax]; exact put_same _ _ _ (by rw [cj]; decide)
 show stepsTo _ _ _ _ _ (dI.put (some 3) (iv 3)) _
 rw [← ax]
 refine st_nil (ff _ _ ?_)
 refine wp_ret (ret_k fo (v := .tuple #[.agg #[.bool false, sv none ([]) 0], iv 3]) (res_ct rfl hH hI (l_two Tryd.isAgg26 Tryd.sizeOf26 fk)) ?_)
 have ah : (canon ((parsedZ u).1).natAbs) = [] := by first | rfl | (simp only [hbody, parsedB, good_parse, Int.natAbs_zero, canon_zero, ab, ad, ae, bsm] <;> rfl) | (exfalso; omega)
 exact ⟨none, 0, (by show Ending.returned (.tuple #[.agg #[.bool false, sv none ([]) 0], iv 3]) = Ending.returned (.tuple #[.agg #[.bool (decide ((parsedZ u).1 < 0)), sv none (canon ((parsedZ u).1).natAbs) 0], iv ((parsedZ u).2)]); (first | rfl | (simp only [hbody, parsedB, good_parse, Int.natAbs_zero, canon_zero, ab, ad, ae, ah, bsm] <;> rfl) | (exfalso; omega))), (by rw [ah]; exact (SRow.nil _ _)), fn⟩
 intro kl cm
 refine wp_block ?_
 refine wp_loopX (fun (mm : Nat) (aa : Act) (ww : World) => ∃ (cur : List Nat) (A6 : Option Addr) (c6 : Nat), mm = cur.length ∧ aa.tmps.size = 66 ∧ aa.defers = [] ∧ New w ww ∧ aa.eval (.tmp 4) = sv A6 cur c6 ∧ aa.eval (.tmp 2) = pv aX ∧ aa.eval (.tmp 5) = .bool ng ∧ Blk ww aX 26 [.bool false, sv none ([]) 0] ∧ SRow ww .u16 A6 cur c6 ∧ (stripN cur = stripN dd) ∧ (U16s cur) ∧ (cur.length ≤ 20000)) (fun mm => mm) ⟨_, ⟨dd, A5, c5, rfl, ba, bJ, bK, g2, dl, g3, bL, ei, rfl, hdd, hdl⟩⟩ ?_
 rintro mm km kn ⟨cur, A6, c6, hmm, aO, cn, co, a6, dM, dN, cp, bp, hst, hcu, hcl⟩
 refine wp_seq_k fun ko fp => ?_
 refine wp_seq_k fun kp cq => ?_
 rcases bc (decide ((cur.length : Int) ≤ 1)) with aE | aE
 have dO := oT aE
 have iN := hcu.at16 0
 refine wp_g0 (.replicate 9 true) [] 66
   [ve (sv A6 cur c6), ve (iv (cur.length : Int)), vF, vF, vU, vU, vU, vU, vF] aO (.eq (.eq (.eq (.eq (.eq (.eq (.eq (.eq (.eq (.nil)))))))))) ?_ ?_
 exact .m (fun k => k.fx 4 a6) <| .t (fun _ w hn k => ⟨_, v_lenR rfl elU (k.eq1 0 33 rfl), rfl⟩) <| .t (fun _ w hn k => ⟨_, v_bin rfl (k.eq1 1 34 rfl) rfl (fun _ => rfl) (r_gtrK aE), rfl⟩) <| .m (fun k => k.eq1 2 35 rfl) <| .s (fun k => k.eq1 3 36 rfl) <| .s (fun k => k.eq1 3 36 rfl) <| .s (fun k => k.eq1 3 36 rfl) <| .s (fun k => k.eq1 3 36 rfl) <| .t (fun _ w hn k => ⟨_, v_pickF rfl (k.eq1 3 36 rfl) rfl, rfl⟩) .nil
 refine aftI aO cn co fun kq kr fq fr fs cr aP => ?_
 have dP := aP.fx 4 a6
 have hJ := aP.fx 2 dM
 have hK := aP.fx 5 dN
 have hL := aP.ge 8 41 rfl
 have ft := cp.new_ cr
 have ct := bp.new_ cr
 refine st_nil (cq _ _ ?_)
 refine wp_cond_false hL ?_
 refine wp_exit ?_
 have hse := strip_end (l := cur) (Or.inl (by omega))
 have he374 : cur = (stripN dd) := hse.symm.trans hst
 rw [he374] at dP
 rw [he374] at ct
 exact cm _ _ ⟨A6, c6, fq, fr, fs, dP, hJ, hK, ft, ct, (by rw [← hst, hse]; exact hcu), (by rw [← hst, hse]; exact hcl)⟩
 have dO := oF aE
 have iN := hcu.at16 0
 refine wp_g0 (.replicate 9 true) [] 66
   [ve (sv A6 cur c6), ve (iv (cur.length : Int)), vT, vT, ve (sv A6 cur c6),
    (EP (.int .u16 ((cur.getD 0 0 : Nat) : Int))), ve (.int .u16 ((cur.getD 0 0 : Nat) : Int)), ve (.bool (decide (((cur.getD 0 0 : Nat) : Int) = 48))), ve (.bool (decide (((cur.getD 0 0 : Nat) : Int) = 48)))] aO (.eq (.eq (.eq (.eq (.eq (.cons (fun _ _ _ n ⟨_, _, e, h⟩ => ⟨_, _, e, h.new_ n⟩) (.eq (.eq (.eq (.nil)))))))))) ?_ ?_
 refine .m (fun k => k.fx 4 a6) <| .t (fun _ w hn k => ⟨_, v_lenR rfl elU (k.eq1 0 33 rfl), rfl⟩) <| .t (fun _ w hn k => ⟨_, v_bin rfl (k.eq1 1 34 rfl) rfl (fun _ => rfl) (r_gtrK aE), rfl⟩) <| .m (fun k => k.eq1 2 35 rfl) <| .gm (fun k => k.eq1 3 36 rfl) (fun k => k.fx 4 a6) ?_
 refine .o1 (tg rfl rfl rfl (fun _ _ k => k.eq1 3 36 rfl) fun _ w hn k => (by
       exact x_eaddr (k := .u16) rfl elU (k.eq1 4 37 rfl) rfl (bp.new_ hn) (by omega) fun iQ iR hme => ⟨iQ, iR, rfl, hme⟩)) ?_
 refine .o1 (tg rfl rfl rfl (fun _ _ k => k.eq1 3 36 rfl) fun _ w hn k => (by
       obtain ⟨lh, li, iS, hM⟩ : (EP (.int .u16 ((cur.getD 0 0 : Nat) : Int))) _ _ := k.dep 5 38 (by kernel_rfl) (by kernel_rfl)
       exact ⟨_, v_load rfl iS (l_one Tryd.isAgg64 hM.1), rfl⟩)) ?_
 exact .g (fun k => k.eq1 3 36 rfl) (fun _ w hn k => ⟨_, v_bin rfl (k.eq1 6 39 rfl) rfl (fun _ => rfl) (r_eql rfl), rfl⟩) <| .t (fun _ w hn k => ⟨_, v_pickT rfl (k.eq1 3 36 rfl) (k.eq1 7 40 rfl), rfl⟩) .nil
 refine aftI aO cn co fun ks kt bq cv cw cx aQ => ?_
 have br := aQ.fx 4 a6
 have dQ := aQ.fx 2 dM
 have dR := aQ.fx 5 dN
 have dS := aQ.ge 8 41 rfl
 have cy := cp.new_ cx
 have aR := bp.new_ cx
 refine st_nil (cq _ _ ?_)
 rcases bc (decide (((cur.getD 0 0 : Nat) : Int) = 48)) with an | an
 have dT := oT an
 have fu := hB dS an
 refine wp_cond_true fu ?_
 refine wp_skip ?_
 refine fp _ _ ?_
 refine wp_block ?_
 refine wp_g0 [true, true, false] [(2, true)] 66
   [ve (sv A6 cur c6),
    (RP .u16 (cur.drop 1)), vt] bq (.eq (.cons (fun _ _ _ n ⟨_, _, e, h⟩ => ⟨_, _, e, h.new_ n⟩) (.tt (.nil)))) ?_ ?_
 refine .m (fun k => k.fx 4 br) ?_
 refine .o1 (tk rfl rfl fun _ w hn k => (by
       exact x_cutL (k := .u16) rfl elU (k.eq1 0 42 rfl) rfl (aR.new_ hn) (by omega) fun iV iW hmr => ⟨iV, iW, rfl, hmr⟩)) ?_
 exact .off .nil
 refine aftI bq cv cw fun bC ku cz fv fw cA aS => ?_
 have kv := aS.fx 4 br
 have hN := aS.fx 2 dQ
 have hO := aS.fx 5 dR
 obtain ⟨aJ, ay, bs, fy⟩ : (RP .u16 (cur.drop 1)) _ _ := aS.got 1 43 rfl (by kernel_rfl)
 have bs : bC.eval (.tmp 43) = sv aJ (cur.drop 1) ay := bs
 have fz := cy.new_ cA
 have ju := aR.new_ cA
 refine st_take rfl rfl (y_assign (v := sv aJ (cur.drop 1) ay) rfl bs) rfl ?_
 obtain ⟨hP, ao⟩ : ∃ a', a' = bC.put (some 4) (sv aJ (cur.drop 1) ay) := ⟨_, rfl⟩
 have fA := pz ao cz
 have fB := pd ao fv
 have hQ := pn ao hN (by decide)
 have hR := pn ao hO (by decide)
 have kw := pn ao bs (by decide)
 have hT : hP.eval (.tmp 4) = sv aJ (cur.drop 1) ay := by rw [ao]; exact put_same _ _ _ (by rw [cz]; decide)
 show stepsTo _ _ _ _ _ (bC.put (some 4) (sv aJ (cur.drop 1) ay)) _
 rw [← ao]
 refine st_nil ?_
 refine blk_n ?_
 refine then_n ?_
 exact ⟨_, ⟨(cur.drop 1), aJ, ay, rfl, fA, fB, fw, hT, hQ, hR, fz, fy, ((strip_step (by omega) an).trans hst), (hcu.drop 1), (by rw [List.length_drop]; omega)⟩, (by rw [List.length_drop]; omega)⟩
 have dT := oF an
 have fC := hB dS an
 refine wp_cond_false fC ?_
 refine wp_exit ?_
 have hse := strip_end (l := cur) (Or.inr an)
 have he415 : cur = (stripN dd) := hse.symm.trans hst
 rw [he415] at br
 rw [he415] at aR
 exact cm _ _ ⟨A6, c6, bq, cv, cw, br, dQ, dR, cy, aR, (by rw [← hst, hse]; exact hcu), (by rw [← hst, hse]; exact hcl)⟩
 have fD := hB dm ad
 refine wp_cond_false fD ?_
 refine wp_seq_k fun kx fE => ?_
 refine wp_g0 [true, true, true] [] 66
   [ve (sv ag (trimN u) ac), ve (.bool (numericN ⟨#[120, 88, 111, 79]⟩ (trimN u))), ve (.bool (numericN ⟨#[120, 88, 111, 79]⟩ (trimN u)))] ba (.eq (.eq (.eq (.nil)))) ?_ ?_
 exact .m (fun k => k.fx 0 g4) <| .o1 (ck rfl rfl rfl (fun _ w hn k => ⟨#[sv ag (trimN u) ac], args1 (k.eq1 0 62 rfl), fun _ => by kernel_rfl, cstrange_c _ (trimN u) _ _ (ej.new_ hn) hut⟩) fun _ => rfl) <| .a (fun k => k.eq1 1 63 rfl) .nil
 refine aftI ba bJ bK fun ky kz aT cB cC fF cD => ?_
 have dU := cD.fx 2 dl
 have dV := cD.ge 2 61 rfl
 have cE := bL.new_ fF
 refine st_nil (fE _ _ ?_)
 rcases bc (numericN ⟨#[120, 88, 111, 79]⟩ (trimN u)) with ap | ap
 have fG := hB dV ap
 refine wp_cond_true fG ?_
 refine wp_seq_k fun kA fH => ?_
 refine wp_g0 [true, false, false] [(1, false), (2, true)] 66
   [ve (.agg #[.bool false, sv none ([]) 0]), vt, vt] aT (.eq (.tt (.tt (.nil)))) ?_ ?_
 exact .t (fun _ w hn k => ⟨_, v_build (ps := []) rfl parts0 (by kernel_rfl), rfl⟩) <| .off <| .off .nil
 refine aftI aT cB cC fun dW kB cF fI fJ fK cG => ?_
 have dX := cG.fx 2 dU
 have dY := cG.ge 0 64 rfl
 have fL := cE.new_ fK
 obtain ⟨kC, -, dZ, fM, fN, jv⟩ := s_two (v0 := .bool false) (v1 := sv none ([]) 0) Tryd.sizeOf26 rfl rfl rfl fL
 refine st_act rfl rfl fun kD fO => a_store' rfl dX dY dZ (fO _ _ trivial ?_)
 have fP := fJ.trans fN (fun _ h b => by subst b; omega)
 refine st_take rfl rfl (y_assign (v := iv 3) rfl rfl) rfl ?_
 obtain ⟨hU, az⟩ : ∃ a', a' = dW.put (some 3) (iv 3) := ⟨_, rfl⟩
 have jw := pz az cF
 have fQ := pd az fI
 have hV := pn az dX (by decide)
 have kE := pn az dY (by decide)
 have hW : hU.eval (.tmp 3) = iv 3 := by rw [az]; exact put_same _ _ _ (by rw [cF]; decide)
 show stepsTo _ _ _ _ _ (dW.put (some 3) (iv 3)) _
 rw [← az]
 refine st_nil (fH _ _ ?_)
 refine wp_ret (ret_k fQ (v := .tuple #[.agg #[.bool false, sv none ([]) 0], iv 3]) (res_ct rfl hV hW (l_two Tryd.isAgg26 Tryd.sizeOf26 fM)) ?_)
 have ah : (canon ((parsedZ u).1).natAbs) = [] := by first | rfl | (simp only [hbody, parsedB, good_parse, Int.natAbs_zero, canon_zero, ab, ad, ap, bsm] <;> rfl) | (exfalso; omega)
 exact ⟨none, 0, (by show Ending.returned (.tuple #[.agg #[.bool false, sv none ([]) 0], iv 3]) = Ending.returned (.tuple #[.agg #[.bool (decide ((parsedZ u).1 < 0)), sv none (canon ((parsedZ u).1).natAbs) 0], iv ((parsedZ u).2)]); (first | rfl | (simp only [hbody, parsedB, good_parse, Int.natAbs_zero, canon_zero, ab, ad, ap, ah, bsm] <;> rfl) | (exfalso; omega))), (by rw [ah]; exact (SRow.nil _ _)), fP⟩
 have fR := hB dV ap
 refine wp_cond_false fR ?_
 refine wp_skip ?_
 refine eg _ _ ?_
 refine wp_seq_k fun kF fS => ?_
 refine wp_g0 [true, false, false] [(1, false), (2, true)] 66
   [ve (.agg #[.bool false, sv none ([]) 0]), vt, vt] aT (.eq (.tt (.tt (.nil)))) ?_ ?_
 exact .t (fun _ w hn k => ⟨_, v_build (ps := []) rfl parts0 (by kernel_rfl), rfl⟩) <| .off <| .off .nil
 refine aftI aT cB cC fun d0 kG cH fT fU fV cI => ?_
 have d1 := cI.fx 2 dU
 have d2 := cI.ge 0 65 rfl
 have fW := cE.new_ fV
 obtain ⟨kH, -, d3, fX, fY, jx⟩ := s_two (v0 := .bool false) (v1 := sv none ([]) 0) Tryd.sizeOf26 rfl rfl rfl fW
 refine st_act rfl rfl fun kI fZ => a_store' rfl d1 d2 d3 (fZ _ _ trivial ?_)
 have f0 := fU.trans fY (fun _ h b => by subst b; omega)
 refine st_take rfl rfl (y_assign (v := iv 5) rfl rfl) rfl ?_
 obtain ⟨hX, aA⟩ : ∃ a', a' = d0.put (some 3) (iv 5) := ⟨_, rfl⟩
 have jy := pz aA cH
 have f1 := pd aA fT
 have hY := pn aA d1 (by decide)
 have kJ := pn aA d2 (by decide)
 have hZ : hX.eval (.tmp 3) = iv 5 := by rw [aA]; exact put_same _ _ _ (by rw [cH]; decide)
 show stepsTo _ _ _ _ _ (d0.put (some 3) (iv 5)) _
 rw [← aA]
 refine st_nil (fS _ _ ?_)
 refine wp_ret (ret_k f1 (v := .tuple #[.agg #[.bool false, sv none ([]) 0], iv 5]) (res_ct rfl hY hZ (l_two Tryd.isAgg26 Tryd.sizeOf26 fX)) ?_)
 have ah : (canon ((parsedZ u).1).natAbs) = [] := by first | rfl | (simp only [hbody, parsedB, good_parse, Int.natAbs_zero, canon_zero, ab, ad, ap, bsm] <;> rfl) | (exfalso; omega)
 exact ⟨none, 0, (by show Ending.returned (.tuple #[.agg #[.bool false, sv none ([]) 0], iv 5]) = Ending.returned (.tuple #[.agg #[.bool (decide ((parsedZ u).1 < 0)), sv none (canon ((parsedZ u).1).natAbs) 0], iv ((parsedZ u).2)]); (first | rfl | (simp only [hbody, parsedB, good_parse, Int.natAbs_zero, canon_zero, ab, ad, ap, ah, bsm] <;> rfl) | (exfalso; omega))), (by rw [ah]; exact (SRow.nil _ _)), f0⟩
 intro kK bt
 refine wp_seq_k fun kL cJ => ?_
 rcases bc (decide ((((trimN u).getD 0 0 : Nat) : Int) = 45)) with ak | ak
 have d4 := oT ak
 have cK := hB gw ak
 refine wp_g0 [true, true, true, true, true, true, true] [] 66
   [vT, vT, vU, vU, vU, vU, vT] a8 (.eq (.eq (.eq (.eq (.eq (.eq (.eq (.nil)))))))) ?_ ?_
 exact .m (fun k => k.fx 5 cK) <| .m (fun k => k.eq1 0 21 rfl) <| .s (fun k => k.eq1 1 22 rfl) <| .s (fun k => k.eq1 1 22 rfl) <| .s (fun k => k.eq1 1 22 rfl) <| .s (fun k => k.eq1 1 22 rfl) <| .t (fun _ w hn k => ⟨_, v_pickT rfl (k.eq1 1 22 rfl) rfl, rfl⟩) .nil
 refine aftI a8 df dg fun kM kN cL f2 f3 cM aF => ?_
 have h3 := aF.fx 2 gu
 have d5 := aF.fx 0 di
 have kO := aF.fx 4 gv
 have h4 := aF.fx 5 cK
 have h5 := aF.ge 6 27 rfl
 have f4 := dj.new_ cM
 have cN := bx.new_ cM
 refine st_nil (cJ _ _ ?_)
 refine wp_cond_true h5 ?_
 refine wp_g0 [true, true, true] [] 66
   [ve (sv ag (trimN u) ac),
    (RP .u16 ((trimN u).drop 1)),
    (RP .u16 ((trimN u).drop 1))] cL (.eq (.cons (fun _ _ _ n ⟨_, _, e, h⟩ => ⟨_, _, e, h.new_ n⟩) (.cons (fun v W W' hn ⟨iZ, i0, he, h0⟩ => ⟨iZ, i0, he, h0.new_ hn⟩) (.nil)))) ?_ ?_
 refine .m (fun k => k.fx 0 d5) ?_
 refine .o1 (tk rfl rfl fun _ w hn k => (by
       exact x_cutL (k := .u16) rfl elU (k.eq1 0 28 rfl) rfl (cN.new_ hn) (by omega) fun i1 i2 hmr => ⟨i1, i2, rfl, hmr⟩)) ?_
 refine .o1 (tk rfl rfl fun _ w hn k => (by
       obtain ⟨i3, i4, i5, h6⟩ : (RP .u16 ((trimN u).drop 1)) _ _ := k.dep 1 29 (by kernel_rfl) (by kernel_rfl)
       exact ⟨_, v_assign rfl i5, ⟨i3, i4, rfl, h6⟩⟩)) ?_
 exact .nil
 refine aftI cL f2 f3 fun h7 kP f5 f6 f7 cO aU => ?_
 have ia := aU.fx 2 h3
 have ib := aU.fx 0 d5
 have ic := aU.fx 5 h4
 obtain ⟨d6, cP, bD, f8⟩ : (RP .u16 ((trimN u).drop 1)) _ _ := aU.got 2 4 rfl (by kernel_rfl)
 have bD : h7.eval (.tmp 4) = sv d6 ((trimN u).drop 1) cP := bD
 have f9 := f4.new_ cO
 have ga := cN.new_ cO
 refine st_nil ?_
 exact bt _ _ ⟨true, ((trimN u).drop 1), d6, cP, f5, f6, f7, bD, ic, ib, ia, f9, f8, ga, (by unfold parsedZ; simp only [ab, ak, bsm]), (hut.drop 1), (by first | omega | (rw [List.length_drop]; omega))⟩
 have d4 := oF ak
 have cQ := hB gw ak
 refine wp_g0 [true, true, true, true, true, true, true] [] 66
   [vF, vF, ve (sv ag (trimN u) ac),
    (EP (.int .u16 (((trimN u).getD 0 0 : Nat) : Int))), ve (.int .u16 (((trimN u).getD 0 0 : Nat) : Int)), ve (.bool (decide ((((trimN u).getD 0 0 : Nat) : Int) = 43))), ve (.bool (decide ((((trimN u).getD 0 0 : Nat) : Int) = 43)))] a8 (.eq (.eq (.eq (.cons (fun _ _ _ n ⟨_, _, e, h⟩ => ⟨_, _, e, h.new_ n⟩) (.eq (.eq (.eq (.nil)))))))) ?_ ?_
 refine .m (fun k => k.fx 5 cQ) <| .m (fun k => k.eq1 0 21 rfl) <| .gm (fun k => k.eq1 1 22 rfl) (fun k => k.fx 0 di) ?_
 refine .o1 (tg rfl rfl rfl (fun _ _ k => k.eq1 1 22 rfl) fun _ w hn k => (by
       exact x_eaddr (k := .u16) rfl elU (k.eq1 2 23 rfl) rfl (bx.new_ hn) (by omega) fun i8 i9 hme => ⟨i8, i9, rfl, hme⟩)) ?_
 refine .o1 (tg rfl rfl rfl (fun _ _ k => k.eq1 1 22 rfl) fun _ w hn k => (by
       obtain ⟨lj, lk, ja, id⟩ : (EP (.int .u16 (((trimN u).getD 0 0 : Nat) : Int))) _ _ := k.dep 3 24 (by kernel_rfl) (by kernel_rfl)
       exact ⟨_, v_load rfl ja (l_one Tryd.isAgg64 id.1), rfl⟩)) ?_
 exact .g (fun k => k.eq1 1 22 rfl) (fun _ w hn k => ⟨_, v_bin rfl (k.eq1 4 25 rfl) rfl (fun _ => rfl) (r_eql rfl), rfl⟩) <| .t (fun _ w hn k => ⟨_, v_pickF rfl (k.eq1 1 22 rfl) (k.eq1 5 26 rfl), rfl⟩) .nil
 refine aftI a8 df dg fun kQ kR bu cR cS cT aG => ?_
 have d7 := aG.fx 2 gu
 have bE := aG.fx 0 di
 have ie := aG.fx 4 gv
 have d8 := aG.fx 5 cQ
 have d9 := aG.ge 6 27 rfl
 have cU := dj.new_ cT
 have aV := bx.new_ cT
 refine st_nil (cJ _ _ ?_)
 rcases bc (decide ((((trimN u).getD 0 0 : Nat) : Int) = 43)) with aq | aq
 have ea := oT aq
 have gb := hB d9 aq
 refine wp_cond_true gb ?_
 refine wp_g0 [true, true, true] [] 66
   [ve (sv ag (trimN u) ac),
    (RP .u16 ((trimN u).drop 1)),
    (RP .u16 ((trimN u).drop 1))] bu (.eq (.cons (fun _ _ _ n ⟨_, _, e, h⟩ => ⟨_, _, e, h.new_ n⟩) (.cons (fun v W W' hn ⟨jd, je, he, h0⟩ => ⟨jd, je, he, h0.new_ hn⟩) (.nil)))) ?_ ?_
 refine .m (fun k => k.fx 0 bE) ?_
 refine .o1 (tk rfl rfl fun _ w hn k => (by
       exact x_cutL (k := .u16) rfl elU (k.eq1 0 28 rfl) rfl (aV.new_ hn) (by omega) fun jf jg hmr => ⟨jf, jg, rfl, hmr⟩)) ?_
 refine .o1 (tk rfl rfl fun _ w hn k => (by
       obtain ⟨jh, ji, jj, ig⟩ : (RP .u16 ((trimN u).drop 1)) _ _ := k.dep 1 29 (by kernel_rfl) (by kernel_rfl)
       exact ⟨_, v_assign rfl jj, ⟨jh, ji, rfl, ig⟩⟩)) ?_
 exact .nil
 refine aftI bu cR cS fun ih kS gc gd gf cV aW => ?_
 have ii := aW.fx 2 d7
 have ij := aW.fx 0 bE
 have ik := aW.fx 5 d8
 obtain ⟨eb, cW, bF, gg⟩ : (RP .u16 ((trimN u).drop 1)) _ _ := aW.got 2 4 rfl (by kernel_rfl)
 have bF : ih.eval (.tmp 4) = sv eb ((trimN u).drop 1) cW := bF
 have gh := cU.new_ cV
 have gi := aV.new_ cV
 refine st_nil ?_
 exact bt _ _ ⟨false, ((trimN u).drop 1), eb, cW, gc, gd, gf, bF, ik, ij, ii, gh, gg, gi, (by unfold parsedZ; simp only [ab, ak, aq, bsm]), (hut.drop 1), (by first | omega | (rw [List.length_drop]; omega))⟩
 have ea := oF aq
 have gj := hB d9 aq
 refine wp_cond_false gj ?_
 refine wp_skip ?_
 exact bt _ _ ⟨false, (trimN u), ag, ac, bu, cR, cS, ie, d8, bE, d7, cU, aV, aV, (by unfold parsedZ; simp only [ab, ak, aq, bsm]), hut, (by first | omega | (rw [List.length_drop]; omega))⟩
def cbigint_c_P (v : Vl) (Av : Option Addr) (cv : Nat) (Bv : Option Addr) (dv : Nat) (w : World) (en : Ending) (w' : World) : Prop := ∃ (Ar0 : Option Addr) (cr0 : Nat), en = .returned (.tuple #[.agg #[.bool ((bigintV v).1), sv Ar0 ((bigintV v).2.1) cr0], iv ((bigintV v).2.2)]) ∧ SRow w' .u32 Ar0 ((bigintV v).2.1) cr0 ∧ New w w'
theorem cbigint_c (v : Vl) (Av : Option Addr) (cv : Nat) (Bv : Option Addr) (dv : Nat) (w : World) (hmv : SRow w .u32 Av v.mag cv) (hsv : SRow w .u16 Bv v.s dv) (hvv : VOk v) : Calls Tryd.prog 20 #[vv v Av cv Bv dv] w (cbigint_c_P v Av cv Bv dv w) := by
 refine enter_abs Tryd.func20 rfl fun a0 aZ ef hp => ?_
 have aZ : a0.tmps.size = 29 := aZ
 have bs : New w w := Upd.refl _ _
 have hp0 : a0.eval (.tmp 0) = vv v Av cv Bv dv := hp 0 _ rfl
 have hm := hvv.clean.mlen
 have hsl := hvv.clean.slen
 have fj := hvv.clean.rlo
 have fk := hvv.clean.rhi
 refine wp_seq_k fun K1 eg => ?_
 refine wp_g [true, true, true] [] [] 29
   [IsNew w 29 [iv v.k, iv v.nk, iv v.nn, .bool v.neg, sv Av v.mag cv, sv Bv v.s dv, iv v.ref], IsNew w 26 [.bool false, sv none ([]) 0], ve (iv 0)]
   [0, 1] (newsCons (fun v w h => IsNew.old h) (newsCons (fun v w h => IsNew.old h) newsNil)) aZ (.nw (.nw (.eq (.nil)))) ?_ (fun i h => by cases h) ?_
 exact .o2 (step_allocN (cs := [iv v.k, iv v.nk, iv v.nn, .bool v.neg, sv Av v.mag cv, sv Bv v.s dv, iv v.ref]) (t := 29) rfl (noG rfl) (fun _ w hn k => v_box rfl (k.fx 0 hp0) (fun w => rfl)) (fun q _ hq hb => ⟨q, rfl, hq, hb⟩)) <| .o2 (step_allocN (cs := [.bool false, sv none ([]) 0]) (t := 26) rfl (noG rfl) (fun _ w hn k => rfl) (fun q _ hq hb => ⟨q, rfl, hq, hb⟩)) <| .t (fun _ w hn k => ⟨_, v_assign rfl rfl, rfl⟩) .nil
 refine aftI aZ ef bs fun a2 w3 dh eh aS fl bt => ?_
 obtain ⟨q9, h8, dq, bu⟩ : IsNew _ _ _ _ _ := bt.got 0 1 rfl (by kernel_rfl)
 obtain ⟨ei, di, dr, ds⟩ : IsNew _ _ _ _ _ := bt.got 1 2 rfl (by kernel_rfl)
 have hne16 : q9 ≠ ei := bt.ne 0 1 1 2 h8 di
 have eK := Nat.le_trans bs.size dq
 have eL := Nat.le_trans bs.size dr
 refine st_nil (eg _ _ (wp_seq_k fun fm dt => ?_))
 refine wp_g0 [true, true, false] [(2, false)] 29
   [ve (vv v Av cv Bv dv),
    (VP (cleanV v)), vt] dh (.eq (.cons (fun v W W' hn ⟨A5, c6, A7, c8, he, h0, h1⟩ => ⟨A5, c6, A7, c8, he, h0.new_ hn, h1.new_ hn⟩) (.tt (.nil)))) ?_ ?_
 refine .t (fun _ w hn k => ⟨_, v_load rfl (k.fx 1 h8) (l_agg Tryd.isAgg29 Tryd.sizeOf29 (bu.new_ hn) rfl), rfl⟩) ?_
 refine .o1 (tkC rfl (noG rfl) rfl fun _ w hn k => (by
       refine ⟨#[vv v Av cv Bv dv], _, args1 (k.eq1 0 4 rfl), fun w => by kernel_rfl, clean_c v _ _ _ _ _ (hmv.new_ (aS.transNew hn)) (hsv.new_ (aS.transNew hn)), ?_⟩
       rintro e w' ⟨A1, c2, A3, c4, rfl, hmo0, hmo1, hm⟩
       exact ⟨_, rfl, hm, ⟨A1, c2, A3, c4, rfl, hmo0, hmo1⟩⟩)) ?_
 exact .off .nil
 refine aftI dh eh aS fun ej fn bv du dw bw aT => ?_
 have bx := aT.fx 1 h8
 have ek := aT.fx 2 di
 obtain ⟨aQ, aA, aR, aB, bz, dx, dy⟩ : (VP (cleanV v)) _ _ := aT.got 1 5 rfl (by kernel_rfl)
 have bz : ej.eval (.tmp 5) = vv (cleanV v) aQ aA aR aB := bz
 have aU := bu.new_ bw
 have dz := ds.new_ bw
 obtain ⟨el, b8, b9, aV, dA⟩ := s_many (P := Tryd.prog) (t := 29) (i := 0) [iv ((cleanV v).k), iv ((cleanV v).nk), iv ((cleanV v).nn), .bool ((cleanV v).neg), sv aQ ((cleanV v).mag) aA, sv aR ((cleanV v).s) aB, iv ((cleanV v).ref)] Tryd.sizeOf29 rfl rfl rfl aU lb
 have bA : Blk el q9 29 [iv ((cleanV v).k), iv ((cleanV v).nk), iv ((cleanV v).nn), .bool ((cleanV v).neg), sv aQ ((cleanV v).mag) aA, sv aR ((cleanV v).s) aB, iv ((cleanV v).ref)] := b9
 refine st_act rfl rfl fun fo dB => a_store' rfl bx bz b8 (dB _ _ trivial ?_)
 have dC := dx.far aU aV (by first | rfl | decide | simp [notK])
 have dD := dy.far aU aV (by first | rfl | decide | simp [notK])
 have dE := dA _ _ _ (fun h => hne16 h.symm) dz
 have dF := dw.trans aV (fun _ h b => by subst b; omega)
 refine st_nil (dt _ _ (wp_seq_k fun fp dG => ?_))
 refine wp_seq_k fun fq dH => ?_
 refine wp_g0 [true, true] [] 29
   [ve (pv q9), ve (iv ((cleanV v).k))] bv (.eq (.eq (.nil))) ?_ ?_
 exact .f (fun k => k.fx 1 bx) <| .t (fun _ w hn k => ⟨_, v_load rfl (k.eq1 0 6 rfl) (l_one Tryd.isAgg3 ((bA.new_ hn).cell 0)), rfl⟩) .nil
 refine aftI bv du dF fun fr fs bB dI dJ aJ aW => ?_
 have em := aW.fx 1 bx
 have en := aW.fx 2 ek
 have dj := aW.ge 1 7 rfl
 have dK := bA.new_ aJ
 have dL := dE.new_ aJ
 have dM := dC.new_ aJ
 have dN := dD.new_ aJ
 refine st_nil (dH _ _ ?_)
 refine wp_block ?_
 refine wp_seq_k fun ft dO => ?_
 refine wp_g0 [true, true] [] 29
   [ve (.bool (decide (((cleanV v).k) = 2))), ve (.bool (decide (((cleanV v).k) = 2)))] bB (.eq (.eq (.nil))) ?_ ?_
 exact .t (fun _ w hn k => ⟨_, v_bin rfl (k.fx 7 dj) rfl (fun _ => rfl) (r_eql rfl), rfl⟩) <| .a (fun k => k.eq1 0 9 rfl) .nil
 refine aftI bB dI dJ fun fu fv aK bC bD aL aM => ?_
 have dk := aM.fx 1 em
 have dl := aM.fx 2 en
 have dm := aM.fx 7 dj
 have dn := aM.ge 1 8 rfl
 have bE := dK.new_ aL
 have bF := dL.new_ aL
 have dP := dM.new_ aL
 have dQ := dN.new_ aL
 refine st_nil (dO _ _ ?_)
 rcases bc (decide (((cleanV v).k) = 2)) with ab | ab
 have ca := oT ab
 have dR := hB dn ab
 refine wp_cond_true dR ?_
 refine wp_seq_k fun fw dS => ?_
 refine wp_g0 [true, true, true, false, false] [(3, false), (4, true)] 29
   [ve (.pointer (some ⟨q9, 6, none⟩)), ve (iv ((cleanV v).ref)), (fun (v_ : Value) (W : World) => ∃ (aC : Option Addr) (aD : Nat), v_ = .agg #[.bool (decide (((cleanV v).ref) < 0)), sv aC (canon (((cleanV v).ref)).natAbs) aD] ∧ SRow W .u32 aC (canon (((cleanV v).ref)).natAbs) aD), vt, vt] aK (.eq (.eq (.cons (fun _ _ _ n ⟨_, _, e, h⟩ => ⟨_, _, e, h.new_ n⟩) (.tt (.tt (.nil)))))) ?_ ?_
 refine .f (fun k => k.fx 1 dk) <| .t (fun _ w hn k => ⟨_, v_load rfl (k.eq1 0 10 rfl) (l_one Tryd.isAgg3 ((bE.new_ hn).cell 6)), rfl⟩) ?_
 refine .o1 (tkC rfl (noG rfl) rfl fun _ w hn k => (by
       refine ⟨#[iv ((cleanV v).ref)], _, args1 (k.eq1 1 11 rfl), fun w => by kernel_rfl, bOf_c ((cleanV v).ref) _ (by omega) (by omega), ?_⟩
       rintro e w' ⟨eo, ep, rfl, hmo0, hm⟩
       exact ⟨_, rfl, hm, ⟨eo, ep, rfl, hmo0⟩⟩)) ?_
 exact .off <| .off .nil
 refine aftI aK bC bD fun bG fy bH dT dU dV bI => ?_
 have dp := bI.fx 2 dl
 obtain ⟨aI, ao, a1, dW⟩ : (fun (v_ : Value) (W : World) => ∃ (aC : Option Addr) (aD : Nat), v_ = .agg #[.bool (decide (((cleanV v).ref) < 0)), sv aC (canon (((cleanV v).ref)).natAbs) aD] ∧ SRow W .u32 aC (canon (((cleanV v).ref)).natAbs) aD) _ _ := bI.got 2 12 rfl (by kernel_rfl)
 have a1 : bG.eval (.tmp 12) = .agg #[.bool (decide (((cleanV v).ref) < 0)), sv aI (canon (((cleanV v).ref)).natAbs) ao] := a1
 have bJ := bF.new_ dV
 obtain ⟨fz, -, cb, cc, a3, ez⟩ := s_two (v0 := .bool (decide (((cleanV v).ref) < 0))) (v1 := sv aI (canon (((cleanV v).ref)).natAbs) ao) Tryd.sizeOf26 rfl rfl rfl bJ
 refine st_act rfl rfl fun eM cd => a_store' rfl dp a1 cb (cd _ _ trivial ?_)
 have ce := dW.far bJ a3 (by first | rfl | decide | simp [notK])
 have cf := dU.trans a3 (fun _ h b => by subst b; omega)
 refine st_take rfl rfl (y_assign (v := iv 0) rfl rfl) rfl ?_
 obtain ⟨dX, ag⟩ : ∃ a', a' = bG.put (some 3) (iv 0) := ⟨_, rfl⟩
 have eA := pz ag bH
 have ch := pd ag dT
 have dY := pn ag dp (by decide)
 have eN := pn ag a1 (by decide)
 have dZ : dX.eval (.tmp 3) = iv 0 := by rw [ag]; exact put_same _ _ _ (by rw [bH]; decide)
 show stepsTo _ _ _ _ _ (bG.put (some 3) (iv 0)) _
 rw [← ag]
 refine st_nil (dS _ _ ?_)
 refine wp_ret (ret_k ch (v := .tuple #[.agg #[.bool (decide (((cleanV v).ref) < 0)), sv aI (canon (((cleanV v).ref)).natAbs) ao], iv 0]) (res_ct rfl dY dZ (l_two Tryd.isAgg26 Tryd.sizeOf26 cc)) ?_)
 have ae : (bigintV v).2.1 = (canon (((cleanV v).ref)).natAbs) := by first | rfl | (simp only [bigintV, ab, bsm] <;> rfl) | (exfalso; omega)
 exact ⟨aI, ao, (by show Ending.returned (.tuple #[.agg #[.bool (decide (((cleanV v).ref) < 0)), sv aI (canon (((cleanV v).ref)).natAbs) ao], iv 0]) = Ending.returned (.tuple #[.agg #[.bool ((bigintV v).1), sv aI ((bigintV v).2.1) ao], iv ((bigintV v).2.2)]); (first | rfl | (simp only [bigintV, ab, ae, bsm] <;> rfl) | (exfalso; omega))), (by rw [ae]; exact ce), cf⟩
 have ca := oF ab
 have ci := hB dn ab
 refine wp_cond_false ci ?_
 refine wp_seq_k fun eO cj => ?_
 refine wp_g0 [true, true] [] 29
   [ve (.bool (decide (((cleanV v).k) = 4))), ve (.bool (decide (((cleanV v).k) = 4)))] aK (.eq (.eq (.nil))) ?_ ?_
 exact .t (fun _ w hn k => ⟨_, v_bin rfl (k.fx 7 dm) rfl (fun _ => rfl) (r_eql rfl), rfl⟩) <| .a (fun k => k.eq1 0 14 rfl) .nil
 refine aftI aK bC bD fun eP eQ ar a4 a5 au av => ?_
 have bK := av.fx 1 dk
 have bL := av.fx 2 dl
 have bM := av.fx 7 dm
 have bN := av.ge 1 13 rfl
 have a6 := bE.new_ au
 have a7 := bF.new_ au
 have a8 := dP.new_ au
 have cl := dQ.new_ au
 refine st_nil (cj _ _ ?_)
 rcases bc (decide (((cleanV v).k) = 4)) with aa | aa
 have bO := oT aa
 have cm := hB bN aa
 refine wp_cond_true cm ?_
 refine wp_seq_k fun eR cn => ?_
 refine wp_g0 [true, true, true, false, false] [(3, false), (4, true)] 29
   [ve (.pointer (some ⟨q9, 3, none⟩)), ve (.agg #[.bool ((cleanV v).neg), sv aQ ((cleanV v).mag) aA]), (fun (v_ : Value) (W : World) => ∃ (aE : Option Addr) (aF : Nat), v_ = .agg #[.bool ((cleanV v).neg), sv aE ((cleanV v).mag) aF] ∧ SRow W .u32 aE ((cleanV v).mag) aF), vt, vt] ar (.eq (.eq (.cons (fun _ _ _ n ⟨_, _, e, h⟩ => ⟨_, _, e, h.new_ n⟩) (.tt (.tt (.nil)))))) ?_ ?_
 refine .f (fun k => k.fx 1 bK) <| .t (fun _ w hn k => ⟨_, v_load rfl (k.eq1 0 15 rfl) (l_part Tryd.isAgg26 Tryd.sizeOf26 (a6.new_ hn) lb), rfl⟩) ?_
 refine .o1 (tkC rfl (noG rfl) rfl fun _ w hn k => (by
       refine ⟨#[.agg #[.bool ((cleanV v).neg), sv aQ ((cleanV v).mag) aA]], _, args1 (k.eq1 1 16 rfl), fun w => by kernel_rfl, cown_c ((cleanV v).neg) _ ((cleanV v).mag) _ _ (a8.new_ hn) (by first | omega | (simp only [List.length_nil, List.length_take, List.length_drop]; omega) | (simp only [List.length_cons, List.length_nil]; omega)), ?_⟩
       rintro e w' ⟨er, es, rfl, hmo0, hm⟩
       exact ⟨_, rfl, hm, ⟨er, es, rfl, hmo0⟩⟩)) ?_
 exact .off <| .off .nil
 refine aftI ar a4 a5 fun aX eS a9 co cp cq ba => ?_
 have bP := ba.fx 2 bL
 obtain ⟨ap, ah, aN, cr⟩ : (fun (v_ : Value) (W : World) => ∃ (aE : Option Addr) (aF : Nat), v_ = .agg #[.bool ((cleanV v).neg), sv aE ((cleanV v).mag) aF] ∧ SRow W .u32 aE ((cleanV v).mag) aF) _ _ := ba.got 2 17 rfl (by kernel_rfl)
 have aN : aX.eval (.tmp 17) = .agg #[.bool ((cleanV v).neg), sv ap ((cleanV v).mag) ah] := aN
 have bb := a7.new_ cq
 obtain ⟨eT, -, bQ, ct, bd, eB⟩ := s_two (v0 := .bool ((cleanV v).neg)) (v1 := sv ap ((cleanV v).mag) ah) Tryd.sizeOf26 rfl rfl rfl bb
 refine st_act rfl rfl fun eU cu => a_store' rfl bP aN bQ (cu _ _ trivial ?_)
 have cw := cr.far bb bd (by first | rfl | decide | simp [notK])
 have cx := cp.trans bd (fun _ h b => by subst b; omega)
 refine st_take rfl rfl (y_assign (v := iv 0) rfl rfl) rfl ?_
 obtain ⟨d0, ai⟩ : ∃ a', a' = aX.put (some 3) (iv 0) := ⟨_, rfl⟩
 have eC := pz ai a9
 have cy := pd ai co
 have d1 := pn ai bP (by decide)
 have eV := pn ai aN (by decide)
 have d2 : d0.eval (.tmp 3) = iv 0 := by rw [ai]; exact put_same _ _ _ (by rw [a9]; decide)
 show stepsTo _ _ _ _ _ (aX.put (some 3) (iv 0)) _
 rw [← ai]
 refine st_nil (cn _ _ ?_)
 refine wp_ret (ret_k cy (v := .tuple #[.agg #[.bool ((cleanV v).neg), sv ap ((cleanV v).mag) ah], iv 0]) (res_ct rfl d1 d2 (l_two Tryd.isAgg26 Tryd.sizeOf26 ct)) ?_)
 have ae : (bigintV v).2.1 = ((cleanV v).mag) := by first | rfl | (simp only [bigintV, ab, aa, bsm] <;> rfl) | (exfalso; omega)
 exact ⟨ap, ah, (by show Ending.returned (.tuple #[.agg #[.bool ((cleanV v).neg), sv ap ((cleanV v).mag) ah], iv 0]) = Ending.returned (.tuple #[.agg #[.bool ((bigintV v).1), sv ap ((bigintV v).2.1) ah], iv ((bigintV v).2.2)]); (first | rfl | (simp only [bigintV, ab, aa, ae, bsm] <;> rfl) | (exfalso; omega))), (by rw [ae]; exact cw), cx⟩
 have bO := oF aa
 have cz := hB bN aa
 refine wp_cond_false cz ?_
 refine wp_seq_k fun eW cA => ?_
 refine wp_g0 [true, true] [] 29
   [ve (.bool (decide (((cleanV v).k) = 5))), ve (.bool (decide (((cleanV v).k) = 5)))] ar (.eq (.eq (.nil))) ?_ ?_
 exact .t (fun _ w hn k => ⟨_, v_bin rfl (k.fx 7 bM) rfl (fun _ => rfl) (r_eql rfl), rfl⟩) <| .a (fun k => k.eq1 0 19 rfl) .nil
 refine aftI ar a4 a5 fun eX eY aw be bf ax ay => ?_
 have d3 := ay.fx 1 bK
 have bR := ay.fx 2 bL
 have d4 := ay.fx 7 bM
 have bS := ay.ge 1 18 rfl
 have cB := a6.new_ ax
 have bg := a7.new_ ax
 have eD := a8.new_ ax
 have cC := cl.new_ ax
 refine st_nil (cA _ _ ?_)
 rcases bc (decide (((cleanV v).k) = 5)) with ac | ac
 have bT := oT ac
 have cD := hB bS ac
 refine wp_cond_true cD ?_
 refine wp_seq_k fun eZ cE => ?_
 refine wp_g0 [true, true, true, true, true, false, false] [(5, false), (6, true)] 29
   [ve (.pointer (some ⟨q9, 5, none⟩)), ve (sv aR ((cleanV v).s) aB), (fun (v_ : Value) (W : World) => ∃ (am : Option Addr) (an : Nat), v_ = .tuple #[.agg #[.bool (decide ((parsedZ ((cleanV v).s)).1 < 0)), sv am (canon ((parsedZ ((cleanV v).s)).1).natAbs) an], iv ((parsedZ ((cleanV v).s)).2)] ∧ SRow W .u32 am (canon ((parsedZ ((cleanV v).s)).1).natAbs) an), (fun (v_ : Value) (W : World) => ∃ (aG : Option Addr) (aH : Nat), v_ = .agg #[.bool (decide ((parsedZ ((cleanV v).s)).1 < 0)), sv aG (canon ((parsedZ ((cleanV v).s)).1).natAbs) aH] ∧ SRow W .u32 aG (canon ((parsedZ ((cleanV v).s)).1).natAbs) aH), ve (iv ((parsedZ ((cleanV v).s)).2)), vt, vt] aw (.eq (.eq (.cons (fun _ _ _ n ⟨_, _, e, h⟩ => ⟨_, _, e, h.new_ n⟩) (.cons (fun v W W' hn ⟨aG, aH, he, h0⟩ => ⟨aG, aH, he, h0.new_ hn⟩) (.eq (.tt (.tt (.nil)))))))) ?_ ?_
 refine .f (fun k => k.fx 1 d3) <| .t (fun _ w hn k => ⟨_, v_load rfl (k.eq1 0 20 rfl) (l_one Tryd.isAgg27 ((cB.new_ hn).cell 5)), rfl⟩) ?_
 refine .o1 (tkC rfl (noG rfl) rfl fun _ w hn k => (by
       refine ⟨#[sv aR ((cleanV v).s) aB], _, args1 (k.eq1 1 21 rfl), fun w => by kernel_rfl, cparsed_c _ ((cleanV v).s) _ _ (cC.new_ hn) hvv.clean.units (by first | omega | (simp only [List.length_nil, List.length_take, List.length_drop]; omega) | (simp only [List.length_cons, List.length_nil]; omega)), ?_⟩
       rintro e w' ⟨et, eu, rfl, hmo0, hm⟩
       exact ⟨_, rfl, hm, ⟨et, eu, rfl, hmo0⟩⟩)) ?_
 refine .o1 (tk rfl rfl fun _ w hn k => (by
       obtain ⟨ev, ew, ex, d5⟩ : (fun (v_ : Value) (W : World) => ∃ (am : Option Addr) (an : Nat), v_ = .tuple #[.agg #[.bool (decide ((parsedZ ((cleanV v).s)).1 < 0)), sv am (canon ((parsedZ ((cleanV v).s)).1).natAbs) an], iv ((parsedZ ((cleanV v).s)).2)] ∧ SRow W .u32 am (canon ((parsedZ ((cleanV v).s)).1).natAbs) an) _ _ := k.dep 2 22 (by kernel_rfl) (by kernel_rfl)
       exact ⟨_, v_extract rfl ex rfl, ⟨ev, ew, rfl, d5⟩⟩)) ?_
 refine .o1 (tk rfl rfl fun _ w hn k => (by
       obtain ⟨fA, fB, ey, e0⟩ : (fun (v_ : Value) (W : World) => ∃ (am : Option Addr) (an : Nat), v_ = .tuple #[.agg #[.bool (decide ((parsedZ ((cleanV v).s)).1 < 0)), sv am (canon ((parsedZ ((cleanV v).s)).1).natAbs) an], iv ((parsedZ ((cleanV v).s)).2)] ∧ SRow W .u32 am (canon ((parsedZ ((cleanV v).s)).1).natAbs) an) _ _ := k.dep 2 22 (by kernel_rfl) (by kernel_rfl)
       exact ⟨_, v_extract rfl ey rfl, rfl⟩)) ?_
 exact .off <| .off .nil
 refine aftI aw be bf fun aY e1 bh cF cG cH aO => ?_
 have bU := aO.fx 2 bR
 obtain ⟨aq, aj, aP, cI⟩ : (fun (v_ : Value) (W : World) => ∃ (aG : Option Addr) (aH : Nat), v_ = .agg #[.bool (decide ((parsedZ ((cleanV v).s)).1 < 0)), sv aG (canon ((parsedZ ((cleanV v).s)).1).natAbs) aH] ∧ SRow W .u32 aG (canon ((parsedZ ((cleanV v).s)).1).natAbs) aH) _ _ := aO.got 3 23 rfl (by kernel_rfl)
 have aP : aY.eval (.tmp 23) = .agg #[.bool (decide ((parsedZ ((cleanV v).s)).1 < 0)), sv aq (canon ((parsedZ ((cleanV v).s)).1).natAbs) aj] := aP
 have bV := aO.ge 4 24 rfl
 have bi := bg.new_ cH
 obtain ⟨e2, -, bW, cJ, bj, eE⟩ := s_two (v0 := .bool (decide ((parsedZ ((cleanV v).s)).1 < 0))) (v1 := sv aq (canon ((parsedZ ((cleanV v).s)).1).natAbs) aj) Tryd.sizeOf26 rfl rfl rfl bi
 refine st_act rfl rfl fun e3 cK => a_store' rfl bU aP bW (cK _ _ trivial ?_)
 have cL := cI.far bi bj (by first | rfl | decide | simp [notK])
 have cM := cG.trans bj (fun _ h b => by subst b; omega)
 refine st_take rfl rfl (y_assign (v := iv ((parsedZ ((cleanV v).s)).2)) rfl bV) rfl ?_
 obtain ⟨d6, af⟩ : ∃ a', a' = aY.put (some 3) (iv ((parsedZ ((cleanV v).s)).2)) := ⟨_, rfl⟩
 have eF := pz af bh
 have cN := pd af cF
 have d7 := pn af bU (by decide)
 have e4 := pn af aP (by decide)
 have e5 := pn af bV (by decide)
 have d8 : d6.eval (.tmp 3) = iv ((parsedZ ((cleanV v).s)).2) := by rw [af]; exact put_same _ _ _ (by rw [bh]; decide)
 show stepsTo _ _ _ _ _ (aY.put (some 3) (iv ((parsedZ ((cleanV v).s)).2))) _
 rw [← af]
 refine st_nil (cE _ _ ?_)
 refine wp_ret (ret_k cN (v := .tuple #[.agg #[.bool (decide ((parsedZ ((cleanV v).s)).1 < 0)), sv aq (canon ((parsedZ ((cleanV v).s)).1).natAbs) aj], iv ((parsedZ ((cleanV v).s)).2)]) (res_ct rfl d7 d8 (l_two Tryd.isAgg26 Tryd.sizeOf26 cJ)) ?_)
 have ae : (bigintV v).2.1 = (canon ((parsedZ ((cleanV v).s)).1).natAbs) := by first | rfl | (simp only [bigintV, ab, aa, ac, bsm] <;> rfl) | (exfalso; omega)
 exact ⟨aq, aj, (by show Ending.returned (.tuple #[.agg #[.bool (decide ((parsedZ ((cleanV v).s)).1 < 0)), sv aq (canon ((parsedZ ((cleanV v).s)).1).natAbs) aj], iv ((parsedZ ((cleanV v).s)).2)]) = Ending.returned (.tuple #[.agg #[.bool ((bigintV v).1), sv aq ((bigintV v).2.1) aj], iv ((bigintV v).2.2)]); (first | rfl | (simp only [bigintV, ab, aa, ac, ae, bsm] <;> rfl) | (exfalso; omega))), (by rw [ae]; exact cL), cM⟩
 have bT := oF ac
 have cO := hB bS ac
 refine wp_cond_false cO ?_
 refine wp_seq_k fun e6 cP => ?_
 refine wp_g0 [true, true] [] 29
   [ve (.bool (decide (((cleanV v).k) = 6))), ve (.bool (decide (((cleanV v).k) = 6)))] aw (.eq (.eq (.nil))) ?_ ?_
 exact .t (fun _ w hn k => ⟨_, v_bin rfl (k.fx 7 d4) rfl (fun _ => rfl) (r_eql rfl), rfl⟩) <| .a (fun k => k.eq1 0 26 rfl) .nil
 refine aftI aw be bf fun e7 e8 az bk bl cQ bm => ?_
 have bX := bm.fx 2 bR
 have bY := bm.ge 1 25 rfl
 have bn := bg.new_ cQ
 refine st_nil (cP _ _ ?_)
 rcases bc (decide (((cleanV v).k) = 6)) with ad | ad
 have bZ := oT ad
 have cR := hB bY ad
 refine wp_cond_true cR ?_
 refine wp_seq_k fun e9 cS => ?_
 refine wp_g0 [true, false, false] [(1, false), (2, true)] 29
   [ve (.agg #[.bool false, sv none ([]) 0]), vt, vt] az (.eq (.tt (.tt (.nil)))) ?_ ?_
 exact .t (fun _ w hn k => ⟨_, v_build (ps := []) rfl parts0 (by kernel_rfl), rfl⟩) <| .off <| .off .nil
 refine aftI az bk bl fun b0 fa bo cT cU cV bp => ?_
 have b1 := bp.fx 2 bX
 have b2 := bp.ge 0 27 rfl
 have cW := bn.new_ cV
 obtain ⟨fb, -, b3, cX, cY, eG⟩ := s_two (v0 := .bool false) (v1 := sv none ([]) 0) Tryd.sizeOf26 rfl rfl rfl cW
 refine st_act rfl rfl fun fc cZ => a_store' rfl b1 b2 b3 (cZ _ _ trivial ?_)
 have c0 := cU.trans cY (fun _ h b => by subst b; omega)
 refine st_take rfl rfl (y_assign (v := iv 3) rfl rfl) rfl ?_
 obtain ⟨d9, ak⟩ : ∃ a', a' = b0.put (some 3) (iv 3) := ⟨_, rfl⟩
 have eH := pz ak bo
 have c1 := pd ak cT
 have ea := pn ak b1 (by decide)
 have fd := pn ak b2 (by decide)
 have eb : d9.eval (.tmp 3) = iv 3 := by rw [ak]; exact put_same _ _ _ (by rw [bo]; decide)
 show stepsTo _ _ _ _ _ (b0.put (some 3) (iv 3)) _
 rw [← ak]
 refine st_nil (cS _ _ ?_)
 refine wp_ret (ret_k c1 (v := .tuple #[.agg #[.bool false, sv none ([]) 0], iv 3]) (res_ct rfl ea eb (l_two Tryd.isAgg26 Tryd.sizeOf26 cX)) ?_)
 have ae : (bigintV v).2.1 = [] := by first | rfl | (simp only [bigintV, ab, aa, ac, ad, bsm] <;> rfl) | (exfalso; omega)
 exact ⟨none, 0, (by show Ending.returned (.tuple #[.agg #[.bool false, sv none ([]) 0], iv 3]) = Ending.returned (.tuple #[.agg #[.bool ((bigintV v).1), sv none ((bigintV v).2.1) 0], iv ((bigintV v).2.2)]); (first | rfl | (simp only [bigintV, ab, aa, ac, ad, ae, bsm] <;> rfl) | (exfalso; omega))), (by rw [ae]; exact (SRow.nil _ _)), c0⟩
 have bZ := oF ad
 have c3 := hB bY ad
 refine wp_cond_false c3 ?_
 refine wp_skip ?_
 refine dG _ _ ?_
 refine wp_seq_k fun fe c5 => ?_
 refine wp_g0 [true, false, false] [(1, false), (2, true)] 29
   [ve (.agg #[.bool false, sv none ([]) 0]), vt, vt] az (.eq (.tt (.tt (.nil)))) ?_ ?_
 exact .t (fun _ w hn k => ⟨_, v_build (ps := []) rfl parts0 (by kernel_rfl), rfl⟩) <| .off <| .off .nil
 refine aftI az bk bl fun b4 ff bq c7 c9 da br => ?_
 have b5 := br.fx 2 bX
 have b6 := br.ge 0 28 rfl
 have db := bn.new_ da
 obtain ⟨fg, -, b7, dc, dd, eI⟩ := s_two (v0 := .bool false) (v1 := sv none ([]) 0) Tryd.sizeOf26 rfl rfl rfl db
 refine st_act rfl rfl fun fh de => a_store' rfl b5 b6 b7 (de _ _ trivial ?_)
 have df := c9.trans dd (fun _ h b => by subst b; omega)
 refine st_take rfl rfl (y_assign (v := iv 1) rfl rfl) rfl ?_
 obtain ⟨ec, al⟩ : ∃ a', a' = b4.put (some 3) (iv 1) := ⟨_, rfl⟩
 have eJ := pz al bq
 have dg := pd al c7
 have ed := pn al b5 (by decide)
 have fi := pn al b6 (by decide)
 have ee : ec.eval (.tmp 3) = iv 1 := by rw [al]; exact put_same _ _ _ (by rw [bq]; decide)
 show stepsTo _ _ _ _ _ (b4.put (some 3) (iv 1)) _
 rw [← al]
 refine st_nil (c5 _ _ ?_)
 refine wp_ret (ret_k dg (v := .tuple #[.agg #[.bool false, sv none ([]) 0], iv 1]) (res_ct rfl ed ee (l_two Tryd.isAgg26 Tryd.sizeOf26 dc)) ?_)
 have ae : (bigintV v).2.1 = [] := by first | rfl | (simp only [bigintV, ab, aa, ac, ad, bsm] <;> rfl) | (exfalso; omega)
 exact ⟨none, 0, (by show Ending.returned (.tuple #[.agg #[.bool false, sv none ([]) 0], iv 1]) = Ending.returned (.tuple #[.agg #[.bool ((bigintV v).1), sv none ((bigintV v).2.1) 0], iv ((bigintV v).2.2)]); (first | rfl | (simp only [bigintV, ab, aa, ac, ad, ae, bsm] <;> rfl) | (exfalso; omega))), (by rw [ae]; exact (SRow.nil _ _)), df⟩
def ctext_c_P (v : Vl) (Av : Option Addr) (cv : Nat) (Bv : Option Addr) (dv : Nat) (w : World) (en : Ending) (w' : World) : Prop := ∃ (Ar0 : Option Addr) (cr0 : Nat), en = .returned (.tuple #[sv Ar0 ((textV v).1) cr0, iv ((textV v).2)]) ∧ SRow w' .u16 Ar0 ((textV v).1) cr0 ∧ New w w'
end Go.Proofs.YtecgdgjlmlpcnaaDoor
