/- Package num: products, quotients, rests, order, 32 bits, indices. -/
import Derived.Test.YtldakajmhfdfgaaDoorNumL
namespace Go.Proofs.YtldakajmhfdfgaaDoor
open Go.RowKit
set_option linter.unusedSimpArgs false
set_option linter.unusedVariables false
set_option maxHeartbeats 4000000 in
set_option maxRecDepth 100000 in
theorem size_c (n : Int) (w : World) (h : -9007199254740991 ≤ n ∧ n ≤ 9007199254740991) : Calls Tryd.prog 71 #[iv n] w (IsRet (.int .u64 (sizeI n)) w) := by
  refine enter_abs Tryd.func71 rfl fun a0 hs0 hd0 hp => ?_
  have hs0 : a0.tmps.size = 8 := hs0
  have hN0 : New w w := Upd.refl _ _
  have hp0 : a0.eval (.tmp 0) = iv n := hp 0 _ rfl
  clear hp
  refine wp_seq_k fun K hK => ?_
  refine wp_g0 [true] [] 8
    [ve (.int .u64 0)] hs0 (.eq (.nil)) ?_ ?_
  · skip
    refine .o1 (tk rfl rfl fun _ w hn k => ⟨_, v_assign rfl rfl, rfl⟩) ?_
    exact .nil
  intro a1 w2 hn3 ha4
  have hs5 := ha4.size.trans hs0
  have hd6 := ha4.defers.trans hd0
  have h7 := ha4.fx 0 hp0
  have h8 := ha4.ge 0 2 rfl
  have hN9 := hN0.transNew hn3
  clear hs0 hd0 hp0 hN0 ha4 hn3
  refine st_nil ?_
  refine hK _ _ ?_
  clear hK K
  refine wp_seq_k fun K hK => ?_
  refine wp_g0 [true, true, true, true, true, true] [] 8
    [ve (iv n),
     ve (iv n),
     ve (iv (-n)),
     ve (iv (max n (-n))),
     ve (.int .u64 (max n (-n))),
     ve (.int .u64 (max n (-n)))] hs5 (.eq (.eq (.eq (.eq (.eq (.eq (.nil))))))) ?_ ?_
  · skip
    refine .o1 (tk rfl rfl fun _ w hn k => ⟨_, v_move rfl (k.fx 0 h7), rfl⟩) ?_
    refine .o1 (tk rfl rfl fun _ w hn k => ⟨_, v_move rfl (k.fx 0 h7), rfl⟩) ?_
    refine .o1 (tk rfl rfl fun _ w hn k => ⟨_, v_neg rfl (k.eq1 1 4 rfl) (by omega), rfl⟩) ?_
    refine .o1 (tk rfl rfl fun _ w hn k => ⟨_, v_max rfl (k.eq1 0 3 rfl) (k.eq1 2 5 rfl), rfl⟩) ?_
    refine .o1 (tk rfl rfl fun _ w hn k => ⟨_, v_conv rfl (k.eq1 3 6 rfl) (run_conv (by kernel_rfl) (by kernel_rfl) (by kernel_rfl) (IntWalk.u64_in _ (by omega))), rfl⟩) ?_
    refine .o1 (tk rfl rfl fun _ w hn k => ⟨_, v_assign rfl (k.eq1 4 7 rfl), rfl⟩) ?_
    exact .nil
  intro a10 w11 hn12 ha13
  have hs14 := ha13.size.trans hs5
  have hd15 := ha13.defers.trans hd6
  have h16 := ha13.ge 5 2 rfl
  have hN17 := hN9.transNew hn12
  clear hs5 hd6 h7 h8 hN9 ha13 hn12
  refine st_nil ?_
  refine hK _ _ ?_
  clear hK K
  refine wp_ret (ret_k hd15 (v := .int .u64 (max n (-n))) (res_t rfl h16 _) ?_)
  refine ⟨?_, hN17⟩
  show Ending.returned (.int .u64 (max n (-n))) = Ending.returned (.int .u64 (sizeI n))
  first | rfl | (simp [])
set_option maxHeartbeats 4000000 in
set_option maxRecDepth 100000 in
theorem signed_c (n : Int) (d : Bool) (w : World) (h : 0 ≤ n ∧ n ≤ 9007199254740991) : Calls Tryd.prog 72 #[.int .u64 n, .bool d] w (IsRet (nv (signedM n d)) w) := by
  refine enter_abs Tryd.func72 rfl fun a0 hs0 hd0 hp => ?_
  have hs0 : a0.tmps.size = 13 := hs0
  have hN0 : New w w := Upd.refl _ _
  have hp0 : a0.eval (.tmp 0) = .int .u64 n := hp 0 _ rfl
  have hp1 : a0.eval (.tmp 1) = .bool d := hp 1 _ rfl
  clear hp
  refine wp_seq_k fun K hK => ?_
  refine wp_g [true] [] [] 13
    [IsNew w 23 [iv 0, iv 0]]
    [0] (newsCons (fun v w h => IsNew.old h) newsNil) hs0 (.nw (.nil)) ?_ (fun i h => by cases h) ?_
  · skip
    refine .o2 (step_allocN (cs := [iv 0, iv 0]) (t := 23) rfl (noG rfl) (fun _ w hn k => rfl) (fun q _ hq hb => ⟨q, rfl, hq, hb⟩)) ?_
    exact .nil
  intro a1 w2 hn3 ha4
  have hs5 := ha4.size.trans hs0
  have hd6 := ha4.defers.trans hd0
  have h7 := ha4.fx 0 hp0
  have h8 := ha4.fx 1 hp1
  obtain ⟨q10, h9, hq11, hb12⟩ : IsNew _ _ _ _ _ := ha4.got 0 4 rfl (by kernel_rfl)
  have hq13 := Nat.le_trans hN0.size hq11
  have hN14 := hN0.transNew hn3
  clear hs0 hd0 hp0 hp1 hq11 hN0 ha4 hn3
  refine st_nil ?_
  refine hK _ _ ?_
  clear hK K
  refine wp_seq_k fun K hK => ?_
  refine wp_seq_k fun K hK => ?_
  refine wp_g0 [true] [] 13
    [ve (.bool d)] hs5 (.eq (.nil)) ?_ ?_
  · skip
    refine .o1 (tk rfl rfl fun _ w hn k => ⟨_, v_move rfl (k.fx 1 h8), rfl⟩) ?_
    exact .nil
  intro a15 w16 hn17 ha18
  have hs19 := ha18.size.trans hs5
  have hd20 := ha18.defers.trans hd6
  have h21 := ha18.fx 0 h7
  have h22 := ha18.fx 4 h9
  have h23 := ha18.ge 0 5 rfl
  have hb24 := hb12.new_ hn17
  have hN25 := hN14.transNew hn17
  clear hs5 hd6 h7 h8 h9 hb12 hN14 ha18 hn17
  refine st_nil ?_
  refine hK _ _ ?_
  clear hK K
  rcases Bool.eq_false_or_eq_true (d) with ht26 | ht26
  · skip
    have hv27 : a15.eval (.tmp 5) = .bool true := h23.trans (congrArg Value.bool ht26)
    clear h23
    refine wp_cond_true hv27 ?_
    refine wp_seq_k fun K hK => ?_
    refine wp_g0 [true, true, true, true, false] [(4, false)] 13
      [ve (.int .u64 n),
       ve (iv n),
       ve (iv (-n)),
       ve (nv (Nm.mk 0 (-n))),
       vt] hs19 (.eq (.eq (.eq (.eq (.tt (.nil)))))) ?_ ?_
    · skip
      refine .o1 (tk rfl rfl fun _ w hn k => ⟨_, v_move rfl (k.fx 0 h21), rfl⟩) ?_
      refine .o1 (tk rfl rfl fun _ w hn k => ⟨_, v_conv rfl (k.eq1 0 6 rfl) (run_conv (by kernel_rfl) (by kernel_rfl) (by kernel_rfl) (IntWalk.i64_in _ (by omega))), rfl⟩) ?_
      refine .o1 (tk rfl rfl fun _ w hn k => ⟨_, v_neg rfl (k.eq1 1 7 rfl) (by omega), rfl⟩) ?_
      refine .o1 (ck rfl rfl rfl (fun _ w hn k => ⟨#[iv (-n)], args1 (k.eq1 2 8 rfl), fun _ => by kernel_rfl, whole_c (-n) _⟩) fun _ => rfl) ?_
      refine .off ?_
      exact .nil
    intro a28 w29 hn30 ha31
    have hs32 := ha31.size.trans hs19
    have hd33 := ha31.defers.trans hd20
    have h34 := ha31.fx 0 h21
    have h35 := ha31.fx 4 h22
    have h36 := ha31.ge 3 9 rfl
    have hb37 := hb24.new_ hn30
    have hN38 := hN25.transNew hn30
    clear hs19 hd20 h21 h22 hv27 hb24 hN25 ha31 hn30
    obtain ⟨w39, -, hst40, hb41, hu42, hf43⟩ := s_two (v0 := iv 0) (v1 := iv (-n)) Tryd.sizeOf23 rfl rfl rfl hb37
    refine st_act rfl rfl fun K44 hL45 => a_store' rfl h35 h36 hst40 (hL45 _ _ trivial ?_)
    have hN46 := hN38.trans hu42 (fun k hk hkb => by subst hkb; omega)
    clear hb37 hst40 K44 hL45 hN38 hu42 hf43
    refine st_nil ?_
    clear h36
    refine hK _ _ ?_
    clear hK K
    refine wp_ret (ret_k hd33 (v := nv (Nm.mk 0 (-n))) (res_c rfl h35 (l_two Tryd.isAgg23 Tryd.sizeOf23 hb41)) ?_)
    refine ⟨?_, hN46⟩
    show Ending.returned (nv (Nm.mk 0 (-n))) = Ending.returned (nv (signedM n d))
    first | rfl | (simp [signedM, ht26])
  have hv47 : a15.eval (.tmp 5) = .bool false := h23.trans (congrArg Value.bool ht26)
  clear h23
  refine wp_cond_false hv47 ?_
  refine wp_skip ?_
  refine hK _ _ ?_
  clear hK K
  refine wp_seq_k fun K hK => ?_
  refine wp_g0 [true, true, true, false] [(3, false)] 13
    [ve (.int .u64 n),
     ve (iv n),
     ve (nv (Nm.mk 0 n)),
     vt] hs19 (.eq (.eq (.eq (.tt (.nil))))) ?_ ?_
  · skip
    refine .o1 (tk rfl rfl fun _ w hn k => ⟨_, v_move rfl (k.fx 0 h21), rfl⟩) ?_
    refine .o1 (tk rfl rfl fun _ w hn k => ⟨_, v_conv rfl (k.eq1 0 10 rfl) (run_conv (by kernel_rfl) (by kernel_rfl) (by kernel_rfl) (IntWalk.i64_in _ (by omega))), rfl⟩) ?_
    refine .o1 (ck rfl rfl rfl (fun _ w hn k => ⟨#[iv n], args1 (k.eq1 1 11 rfl), fun _ => by kernel_rfl, whole_c n _⟩) fun _ => rfl) ?_
    refine .off ?_
    exact .nil
  intro a48 w49 hn50 ha51
  have hs52 := ha51.size.trans hs19
  have hd53 := ha51.defers.trans hd20
  have h54 := ha51.fx 4 h22
  have h55 := ha51.ge 2 12 rfl
  have hb56 := hb24.new_ hn50
  have hN57 := hN25.transNew hn50
  clear hs19 hd20 h21 h22 hv47 hb24 hN25 ha51 hn50
  obtain ⟨w58, -, hst59, hb60, hu61, hf62⟩ := s_two (v0 := iv 0) (v1 := iv n) Tryd.sizeOf23 rfl rfl rfl hb56
  refine st_act rfl rfl fun K63 hL64 => a_store' rfl h54 h55 hst59 (hL64 _ _ trivial ?_)
  have hN65 := hN57.trans hu61 (fun k hk hkb => by subst hkb; omega)
  clear hb56 hst59 K63 hL64 hN57 hu61 hf62
  refine st_nil ?_
  clear h55
  refine hK _ _ ?_
  clear hK K
  refine wp_ret (ret_k hd53 (v := nv (Nm.mk 0 n)) (res_c rfl h54 (l_two Tryd.isAgg23 Tryd.sizeOf23 hb60)) ?_)
  refine ⟨?_, hN65⟩
  show Ending.returned (nv (Nm.mk 0 n)) = Ending.returned (nv (signedM n d))
  first | rfl | (simp [signedM, ht26])
set_option maxHeartbeats 8000000 in
set_option maxRecDepth 100000 in
theorem mul_c (a : Nm) (b : Nm) (w : World) : Calls Tryd.prog 29 #[nv a, nv b] w (IsRet (.tuple #[nv ((mulM a b).1), .bool ((mulM a b).2)]) w) := by
  refine enter_abs Tryd.func29 rfl fun a0 hs0 hd0 hp => ?_
  have hs0 : a0.tmps.size = 80 := hs0
  have hN0 : New w w := Upd.refl _ _
  have hp0 : a0.eval (.tmp 0) = nv a := hp 0 _ rfl
  have hp1 : a0.eval (.tmp 1) = nv b := hp 1 _ rfl
  clear hp
  refine wp_seq_k fun K hK => ?_
  refine wp_g [true, true, true, true] [] [] 80
    [IsNew w 23 [iv a.k, iv a.n],
     IsNew w 23 [iv b.k, iv b.n],
     IsNew w 23 [iv 0, iv 0],
     ve (.bool false)]
    [0, 1, 2] (newsCons (fun v w h => IsNew.old h) (newsCons (fun v w h => IsNew.old h) (newsCons (fun v w h => IsNew.old h) newsNil))) hs0 (.nw (.nw (.nw (.eq (.nil))))) ?_ (fun i h => by cases h) ?_
  · skip
    refine .o2 (step_allocN (cs := [iv a.k, iv a.n]) (t := 23) rfl (noG rfl) (fun _ w hn k => v_box rfl (k.fx 0 hp0) (fun w => rfl)) (fun q _ hq hb => ⟨q, rfl, hq, hb⟩)) ?_
    refine .o2 (step_allocN (cs := [iv b.k, iv b.n]) (t := 23) rfl (noG rfl) (fun _ w hn k => v_box rfl (k.fx 1 hp1) (fun w => rfl)) (fun q _ hq hb => ⟨q, rfl, hq, hb⟩)) ?_
    refine .o2 (step_allocN (cs := [iv 0, iv 0]) (t := 23) rfl (noG rfl) (fun _ w hn k => rfl) (fun q _ hq hb => ⟨q, rfl, hq, hb⟩)) ?_
    refine .o1 (tk rfl rfl fun _ w hn k => ⟨_, v_assign rfl rfl, rfl⟩) ?_
    exact .nil
  intro a1 w2 hn3 ha4
  have hs5 := ha4.size.trans hs0
  have hd6 := ha4.defers.trans hd0
  obtain ⟨q8, h7, hq9, hb10⟩ : IsNew _ _ _ _ _ := ha4.got 0 2 rfl (by kernel_rfl)
  obtain ⟨q12, h11, hq13, hb14⟩ : IsNew _ _ _ _ _ := ha4.got 1 3 rfl (by kernel_rfl)
  obtain ⟨q16, h15, hq17, hb18⟩ : IsNew _ _ _ _ _ := ha4.got 2 4 rfl (by kernel_rfl)
  have h19 := ha4.ge 3 5 rfl
  have hne20 : q8 ≠ q12 := ha4.ne 0 1 2 3 h7 h11
  have hne21 : q8 ≠ q16 := ha4.ne 0 2 2 4 h7 h15
  have hne22 : q12 ≠ q16 := ha4.ne 1 2 3 4 h11 h15
  have hq23 := Nat.le_trans hN0.size hq9
  have hq24 := Nat.le_trans hN0.size hq13
  have hq25 := Nat.le_trans hN0.size hq17
  have hN26 := hN0.transNew hn3
  clear hs0 hd0 hp0 hp1 hq9 hq13 hq17 hN0 ha4 hn3
  refine st_nil ?_
  refine hK _ _ ?_
  clear hK K
  refine wp_seq_k fun K hK => ?_
  refine wp_g0 [true, true, true, true, false, false] [(4, false), (5, false)] 80
    [ve (nv a),
     ve (nv (asM a)),
     ve (nv b),
     ve (nv (asM b)),
     vt,
     vt] hs5 (.eq (.eq (.eq (.eq (.tt (.tt (.nil))))))) ?_ ?_
  · skip
    refine .o1 (tk rfl rfl fun _ w hn k => ⟨_, v_load rfl (k.fx 2 h7) (l_two Tryd.isAgg23 Tryd.sizeOf23 (hb10.new_ hn)), rfl⟩) ?_
    refine .o1 (ck rfl rfl rfl (fun _ w hn k => ⟨#[nv a], args1 (k.eq1 0 9 rfl), fun _ => by kernel_rfl, as_c a _⟩) fun _ => rfl) ?_
    refine .o1 (tk rfl rfl fun _ w hn k => ⟨_, v_load rfl (k.fx 3 h11) (l_two Tryd.isAgg23 Tryd.sizeOf23 (hb14.new_ hn)), rfl⟩) ?_
    refine .o1 (ck rfl rfl rfl (fun _ w hn k => ⟨#[nv b], args1 (k.eq1 2 11 rfl), fun _ => by kernel_rfl, as_c b _⟩) fun _ => rfl) ?_
    refine .off ?_
    refine .off ?_
    exact .nil
  intro a27 w28 hn29 ha30
  have hs31 := ha30.size.trans hs5
  have hd32 := ha30.defers.trans hd6
  have h33 := ha30.fx 2 h7
  have h34 := ha30.fx 3 h11
  have h35 := ha30.fx 4 h15
  have h36 := ha30.fx 5 h19
  have h37 := ha30.ge 1 10 rfl
  have h38 := ha30.ge 3 12 rfl
  have hb39 := hb10.new_ hn29
  have hb40 := hb14.new_ hn29
  have hb41 := hb18.new_ hn29
  have hN42 := hN26.transNew hn29
  clear hs5 hd6 h7 h11 h15 h19 hb10 hb14 hb18 hN26 ha30 hn29
  have hbd_a := as_bd a
  have hbd_b := as_bd b
  obtain ⟨w43, -, hst44, hb45, hu46, hf47⟩ := s_two (v0 := iv ((asM a).k)) (v1 := iv ((asM a).n)) Tryd.sizeOf23 rfl rfl rfl hb39
  refine st_act rfl rfl fun K48 hL49 => a_store' rfl h33 h37 hst44 (hL49 _ _ trivial ?_)
  have hb50 := hf47 _ _ _ (fun h => hne20 h.symm) hb40
  have hb51 := hf47 _ _ _ (fun h => hne21 h.symm) hb41
  have hN52 := hN42.trans hu46 (fun k hk hkb => by subst hkb; omega)
  clear hb39 hst44 K48 hL49 hN42 hb40 hb41 hu46 hf47
  obtain ⟨w53, -, hst54, hb55, hu56, hf57⟩ := s_two (v0 := iv ((asM b).k)) (v1 := iv ((asM b).n)) Tryd.sizeOf23 rfl rfl rfl hb50
  refine st_act rfl rfl fun K58 hL59 => a_store' rfl h34 h38 hst54 (hL59 _ _ trivial ?_)
  have hb60 := hf57 _ _ _ (hne20) hb45
  have hb61 := hf57 _ _ _ (fun h => hne22 h.symm) hb51
  have hN62 := hN52.trans hu56 (fun k hk hkb => by subst hkb; omega)
  clear hb50 hst54 K58 hL59 hN52 hb45 hb51 hu56 hf57
  refine st_nil ?_
  clear h37 h38
  refine hK _ _ ?_
  clear hK K
  refine wp_seq_k fun K hK => ?_
  refine wp_g0 [true, true, true, true, true, true] [] 80
    [ve (nv (asM a)),
     ve (.bool (belowB (asM a))),
     ve (nv (asM b)),
     ve (.bool (belowB (asM b))),
     ve (.bool ((belowB (asM a)) != (belowB (asM b)))),
     ve (.bool ((belowB (asM a)) != (belowB (asM b))))] hs31 (.eq (.eq (.eq (.eq (.eq (.eq (.nil))))))) ?_ ?_
  · skip
    refine .o1 (tk rfl rfl fun _ w hn k => ⟨_, v_load rfl (k.fx 2 h33) (l_two Tryd.isAgg23 Tryd.sizeOf23 (hb60.new_ hn)), rfl⟩) ?_
    refine .o1 (ck rfl rfl rfl (fun _ w hn k => ⟨#[nv (asM a)], args1 (k.eq1 0 13 rfl), fun _ => by kernel_rfl, below_c (asM a) _⟩) fun _ => rfl) ?_
    refine .o1 (tk rfl rfl fun _ w hn k => ⟨_, v_load rfl (k.fx 3 h34) (l_two Tryd.isAgg23 Tryd.sizeOf23 (hb55.new_ hn)), rfl⟩) ?_
    refine .o1 (ck rfl rfl rfl (fun _ w hn k => ⟨#[nv (asM b)], args1 (k.eq1 2 15 rfl), fun _ => by kernel_rfl, below_c (asM b) _⟩) fun _ => rfl) ?_
    refine .o1 (tk rfl rfl fun _ w hn k => ⟨_, v_bin rfl (k.eq1 1 14 rfl) (k.eq1 3 16 rfl) (fun _ => rfl) (r_neqB _ _), rfl⟩) ?_
    refine .o1 (tk rfl rfl fun _ w hn k => ⟨_, v_assign rfl (k.eq1 4 17 rfl), rfl⟩) ?_
    exact .nil
  intro a63 w64 hn65 ha66
  have hs67 := ha66.size.trans hs31
  have hd68 := ha66.defers.trans hd32
  have h69 := ha66.fx 2 h33
  have h70 := ha66.fx 3 h34
  have h71 := ha66.fx 4 h35
  have h72 := ha66.fx 5 h36
  have h73 := ha66.ge 5 6 rfl
  have hb74 := hb60.new_ hn65
  have hb75 := hb55.new_ hn65
  have hb76 := hb61.new_ hn65
  have hN77 := hN62.transNew hn65
  clear hs31 hd32 h33 h34 h35 h36 hb60 hb55 hb61 hN62 ha66 hn65
  refine st_nil ?_
  refine hK _ _ ?_
  clear hK K
  refine wp_seq_k fun K hK => ?_
  refine wp_block ?_
  refine wp_seq_k fun K hK => ?_
  rcases Bool.eq_false_or_eq_true (decide (((asM a).k) = 2)) with ht78 | ht78
  · skip
    have ht78d := of_decide_eq_true ht78
    refine wp_g0 [true, true, true, true, true, true, true, true, true, true, true, true, true, true, true, true, true, true, true, true, true, true, true] [] 80
      [ve (nv (asM a)),
       ve (.bool true),
       ve (.bool true),
       ve undef,
       ve undef,
       ve (.bool true),
       ve (.bool true),
       ve undef,
       ve undef,
       ve undef,
       ve undef,
       ve undef,
       ve undef,
       ve (.bool true),
       ve (.bool true),
       ve undef,
       ve undef,
       ve undef,
       ve undef,
       ve undef,
       ve undef,
       ve (.bool true),
       ve (.bool true)] hs67 (.eq (.eq (.eq (.eq (.eq (.eq (.eq (.eq (.eq (.eq (.eq (.eq (.eq (.eq (.eq (.eq (.eq (.eq (.eq (.eq (.eq (.eq (.eq (.nil)))))))))))))))))))))))) ?_ ?_
    · skip
      refine .o1 (tk rfl rfl fun _ w hn k => ⟨_, v_load rfl (k.fx 2 h69) (l_two Tryd.isAgg23 Tryd.sizeOf23 (hb74.new_ hn)), rfl⟩) ?_
      refine .o1 (ck rfl rfl rfl (fun _ w hn k => ⟨#[nv (asM a)], args1 (k.eq1 0 19 rfl), fun _ => by kernel_rfl, isNaN_c (asM a) _⟩) fun _ => congrArg Value.bool ht78) ?_
      refine .o1 (tk rfl rfl fun _ w hn k => ⟨_, v_move rfl (k.eq1 1 20 rfl), rfl⟩) ?_
      refine .o1 (sk rfl rfl rfl (fun _ _ _ k => k.eq1 2 21 rfl) (fun _ => rfl)) ?_
      refine .o1 (sk rfl rfl rfl (fun _ _ _ k => k.eq1 2 21 rfl) (fun _ => rfl)) ?_
      refine .o1 (tk rfl rfl fun _ w hn k => ⟨_, v_pickT rfl (k.eq1 2 21 rfl) rfl, rfl⟩) ?_
      refine .o1 (tk rfl rfl fun _ w hn k => ⟨_, v_move rfl (k.eq1 5 24 rfl), rfl⟩) ?_
      refine .o1 (sk rfl rfl rfl (fun _ _ _ k => k.eq1 6 25 rfl) (fun _ => rfl)) ?_
      refine .o1 (sk rfl rfl rfl (fun _ _ _ k => k.eq1 6 25 rfl) (fun _ => rfl)) ?_
      refine .o1 (sk rfl rfl rfl (fun _ _ _ k => k.eq1 6 25 rfl) (fun _ => rfl)) ?_
      refine .o1 (su rfl rfl rfl (fun _ _ _ k => k.eq1 9 28 rfl) (fun _ => rfl)) ?_
      refine .o1 (su rfl rfl rfl (fun _ _ _ k => k.eq1 9 28 rfl) (fun _ => rfl)) ?_
      refine .o1 (sk rfl rfl rfl (fun _ _ _ k => k.eq1 6 25 rfl) (fun _ => rfl)) ?_
      refine .o1 (tk rfl rfl fun _ w hn k => ⟨_, v_pickT rfl (k.eq1 6 25 rfl) rfl, rfl⟩) ?_
      refine .o1 (tk rfl rfl fun _ w hn k => ⟨_, v_move rfl (k.eq1 13 32 rfl), rfl⟩) ?_
      refine .o1 (sk rfl rfl rfl (fun _ _ _ k => k.eq1 14 33 rfl) (fun _ => rfl)) ?_
      refine .o1 (sk rfl rfl rfl (fun _ _ _ k => k.eq1 14 33 rfl) (fun _ => rfl)) ?_
      refine .o1 (sk rfl rfl rfl (fun _ _ _ k => k.eq1 14 33 rfl) (fun _ => rfl)) ?_
      refine .o1 (su rfl rfl rfl (fun _ _ _ k => k.eq1 17 36 rfl) (fun _ => rfl)) ?_
      refine .o1 (su rfl rfl rfl (fun _ _ _ k => k.eq1 17 36 rfl) (fun _ => rfl)) ?_
      refine .o1 (sk rfl rfl rfl (fun _ _ _ k => k.eq1 14 33 rfl) (fun _ => rfl)) ?_
      refine .o1 (tk rfl rfl fun _ w hn k => ⟨_, v_pickT rfl (k.eq1 14 33 rfl) rfl, rfl⟩) ?_
      refine .o1 (tk rfl rfl fun _ w hn k => ⟨_, v_assign rfl (k.eq1 21 40 rfl), rfl⟩) ?_
      exact .nil
    intro a79 w80 hn81 ha82
    have hs83 := ha82.size.trans hs67
    have hd84 := ha82.defers.trans hd68
    have h85 := ha82.fx 2 h69
    have h86 := ha82.fx 3 h70
    have h87 := ha82.fx 4 h71
    have h88 := ha82.fx 5 h72
    have h89 := ha82.fx 6 h73
    have h90 := ha82.ge 22 18 rfl
    have hb91 := hb74.new_ hn81
    have hb92 := hb75.new_ hn81
    have hb93 := hb76.new_ hn81
    have hN94 := hN77.transNew hn81
    clear hs67 hd68 h69 h70 h71 h72 h73 hb74 hb75 hb76 hN77 ha82 hn81
    refine st_nil ?_
    refine hK _ _ ?_
    clear hK K
    refine wp_cond_true h90 ?_
    refine wp_seq_k fun K hK => ?_
    refine wp_g0 [true, false, false] [(1, false), (2, true)] 80
      [ve (nv (Nm.mk 2 0)),
       vt,
       vt] hs83 (.eq (.tt (.tt (.nil)))) ?_ ?_
    · skip
      refine .o1 (ck rfl rfl rfl (fun _ w hn k => ⟨#[], rfl, fun _ => by kernel_rfl, nan_c  _⟩) fun _ => rfl) ?_
      refine .off ?_
      refine .off ?_
      exact .nil
    intro a95 w96 hn97 ha98
    have hs99 := ha98.size.trans hs83
    have hd100 := ha98.defers.trans hd84
    have h101 := ha98.fx 2 h85
    have h102 := ha98.fx 3 h86
    have h103 := ha98.fx 4 h87
    have h104 := ha98.fx 5 h88
    have h105 := ha98.fx 6 h89
    have h106 := ha98.ge 0 41 rfl
    have hb107 := hb91.new_ hn97
    have hb108 := hb92.new_ hn97
    have hb109 := hb93.new_ hn97
    have hN110 := hN94.transNew hn97
    clear hs83 hd84 h85 h86 h87 h88 h89 h90 hb91 hb92 hb93 hN94 ha98 hn97
    obtain ⟨w111, -, hst112, hb113, hu114, hf115⟩ := s_two (v0 := iv 2) (v1 := iv 0) Tryd.sizeOf23 rfl rfl rfl hb109
    refine st_act rfl rfl fun K116 hL117 => a_store' rfl h103 h106 hst112 (hL117 _ _ trivial ?_)
    have hb118 := hf115 _ _ _ (hne21) hb107
    have hb119 := hf115 _ _ _ (hne22) hb108
    have hN120 := hN110.trans hu114 (fun k hk hkb => by subst hkb; omega)
    clear hb109 hst112 K116 hL117 hN110 hb107 hb108 hu114 hf115
    refine st_take rfl rfl (y_assign (v := .bool true) rfl rfl) rfl ?_
    obtain ⟨a121, ha122⟩ : ∃ a', a' = a95.put (some 5) (.bool true) := ⟨_, rfl⟩
    have hs123 : a121.tmps.size = 80 := by rw [ha122, put_size]; exact hs99
    have hd124 : a121.defers = [] := by rw [ha122, put_defers]; exact hd100
    have h125 : a121.eval (.tmp 2) = pv q8 := by rw [ha122, put_ne _ _ _ _ (by decide)]; exact h101
    have h126 : a121.eval (.tmp 3) = pv q12 := by rw [ha122, put_ne _ _ _ _ (by decide)]; exact h102
    have h127 : a121.eval (.tmp 4) = pv q16 := by rw [ha122, put_ne _ _ _ _ (by decide)]; exact h103
    have h128 : a121.eval (.tmp 6) = .bool ((belowB (asM a)) != (belowB (asM b))) := by rw [ha122, put_ne _ _ _ _ (by decide)]; exact h105
    have h129 : a121.eval (.tmp 41) = nv (Nm.mk 2 0) := by rw [ha122, put_ne _ _ _ _ (by decide)]; exact h106
    have h130 : a121.eval (.tmp 5) = .bool true := by rw [ha122]; exact put_same _ _ _ (by rw [hs99]; decide)
    show stepsTo _ _ _ _ _ (a95.put (some 5) (.bool true)) _
    rw [← ha122]
    clear ha122 hs99 hd100 h101 h102 h103 h104 h105 h106
    refine st_nil ?_
    clear h129
    refine hK _ _ ?_
    clear hK K
    refine wp_ret (ret_k hd124 (v := .tuple #[nv (Nm.mk 2 0), .bool true]) (res_ct rfl h127 h130 (l_two Tryd.isAgg23 Tryd.sizeOf23 hb113)) ?_)
    refine ⟨?_, hN120⟩
    show Ending.returned (.tuple #[nv (Nm.mk 2 0), .bool true]) = Ending.returned (.tuple #[nv ((mulM a b).1), .bool ((mulM a b).2)])
    first | rfl | (simp [mulM, mulA, ht78])
  have ht78d := of_decide_eq_false ht78
  rcases Bool.eq_false_or_eq_true (decide (((asM b).k) = 2)) with ht131 | ht131
  · skip
    have ht131d := of_decide_eq_true ht131
    refine wp_g0 [true, true, true, true, true, true, true, true, true, true, true, true, true, true, true, true, true, true, true, true, true, true, true] [] 80
      [ve (nv (asM a)),
       ve (.bool false),
       ve (.bool false),
       ve (nv (asM b)),
       ve (.bool true),
       ve (.bool true),
       ve (.bool true),
       ve undef,
       ve undef,
       ve undef,
       ve undef,
       ve undef,
       ve undef,
       ve (.bool true),
       ve (.bool true),
       ve undef,
       ve undef,
       ve undef,
       ve undef,
       ve undef,
       ve undef,
       ve (.bool true),
       ve (.bool true)] hs67 (.eq (.eq (.eq (.eq (.eq (.eq (.eq (.eq (.eq (.eq (.eq (.eq (.eq (.eq (.eq (.eq (.eq (.eq (.eq (.eq (.eq (.eq (.eq (.nil)))))))))))))))))))))))) ?_ ?_
    · skip
      refine .o1 (tk rfl rfl fun _ w hn k => ⟨_, v_load rfl (k.fx 2 h69) (l_two Tryd.isAgg23 Tryd.sizeOf23 (hb74.new_ hn)), rfl⟩) ?_
      refine .o1 (ck rfl rfl rfl (fun _ w hn k => ⟨#[nv (asM a)], args1 (k.eq1 0 19 rfl), fun _ => by kernel_rfl, isNaN_c (asM a) _⟩) fun _ => congrArg Value.bool ht78) ?_
      refine .o1 (tk rfl rfl fun _ w hn k => ⟨_, v_move rfl (k.eq1 1 20 rfl), rfl⟩) ?_
      refine .o1 (tg rfl rfl rfl (fun _ _ k => k.eq1 2 21 rfl) fun _ w hn k => ⟨_, v_load rfl (k.fx 3 h70) (l_two Tryd.isAgg23 Tryd.sizeOf23 (hb75.new_ hn)), rfl⟩) ?_
      refine .o1 (cg rfl rfl rfl (fun _ _ k => k.eq1 2 21 rfl) rfl (fun _ w hn k => ⟨#[nv (asM b)], args1 (k.eq1 3 22 rfl), fun _ => by kernel_rfl, isNaN_c (asM b) _⟩) fun _ => congrArg Value.bool ht131) ?_
      refine .o1 (tk rfl rfl fun _ w hn k => ⟨_, v_pickF rfl (k.eq1 2 21 rfl) (k.eq1 4 23 rfl), rfl⟩) ?_
      refine .o1 (tk rfl rfl fun _ w hn k => ⟨_, v_move rfl (k.eq1 5 24 rfl), rfl⟩) ?_
      refine .o1 (sk rfl rfl rfl (fun _ _ _ k => k.eq1 6 25 rfl) (fun _ => rfl)) ?_
      refine .o1 (sk rfl rfl rfl (fun _ _ _ k => k.eq1 6 25 rfl) (fun _ => rfl)) ?_
      refine .o1 (sk rfl rfl rfl (fun _ _ _ k => k.eq1 6 25 rfl) (fun _ => rfl)) ?_
      refine .o1 (su rfl rfl rfl (fun _ _ _ k => k.eq1 9 28 rfl) (fun _ => rfl)) ?_
      refine .o1 (su rfl rfl rfl (fun _ _ _ k => k.eq1 9 28 rfl) (fun _ => rfl)) ?_
      refine .o1 (sk rfl rfl rfl (fun _ _ _ k => k.eq1 6 25 rfl) (fun _ => rfl)) ?_
      refine .o1 (tk rfl rfl fun _ w hn k => ⟨_, v_pickT rfl (k.eq1 6 25 rfl) rfl, rfl⟩) ?_
      refine .o1 (tk rfl rfl fun _ w hn k => ⟨_, v_move rfl (k.eq1 13 32 rfl), rfl⟩) ?_
      refine .o1 (sk rfl rfl rfl (fun _ _ _ k => k.eq1 14 33 rfl) (fun _ => rfl)) ?_
      refine .o1 (sk rfl rfl rfl (fun _ _ _ k => k.eq1 14 33 rfl) (fun _ => rfl)) ?_
      refine .o1 (sk rfl rfl rfl (fun _ _ _ k => k.eq1 14 33 rfl) (fun _ => rfl)) ?_
      refine .o1 (su rfl rfl rfl (fun _ _ _ k => k.eq1 17 36 rfl) (fun _ => rfl)) ?_
      refine .o1 (su rfl rfl rfl (fun _ _ _ k => k.eq1 17 36 rfl) (fun _ => rfl)) ?_
      refine .o1 (sk rfl rfl rfl (fun _ _ _ k => k.eq1 14 33 rfl) (fun _ => rfl)) ?_
      refine .o1 (tk rfl rfl fun _ w hn k => ⟨_, v_pickT rfl (k.eq1 14 33 rfl) rfl, rfl⟩) ?_
      refine .o1 (tk rfl rfl fun _ w hn k => ⟨_, v_assign rfl (k.eq1 21 40 rfl), rfl⟩) ?_
      exact .nil
    intro a132 w133 hn134 ha135
    have hs136 := ha135.size.trans hs67
    have hd137 := ha135.defers.trans hd68
    have h138 := ha135.fx 2 h69
    have h139 := ha135.fx 3 h70
    have h140 := ha135.fx 4 h71
    have h141 := ha135.fx 5 h72
    have h142 := ha135.fx 6 h73
    have h143 := ha135.ge 22 18 rfl
    have hb144 := hb74.new_ hn134
    have hb145 := hb75.new_ hn134
    have hb146 := hb76.new_ hn134
    have hN147 := hN77.transNew hn134
    clear hs67 hd68 h69 h70 h71 h72 h73 hb74 hb75 hb76 hN77 ha135 hn134
    refine st_nil ?_
    refine hK _ _ ?_
    clear hK K
    refine wp_cond_true h143 ?_
    refine wp_seq_k fun K hK => ?_
    refine wp_g0 [true, false, false] [(1, false), (2, true)] 80
      [ve (nv (Nm.mk 2 0)),
       vt,
       vt] hs136 (.eq (.tt (.tt (.nil)))) ?_ ?_
    · skip
      refine .o1 (ck rfl rfl rfl (fun _ w hn k => ⟨#[], rfl, fun _ => by kernel_rfl, nan_c  _⟩) fun _ => rfl) ?_
      refine .off ?_
      refine .off ?_
      exact .nil
    intro a148 w149 hn150 ha151
    have hs152 := ha151.size.trans hs136
    have hd153 := ha151.defers.trans hd137
    have h154 := ha151.fx 2 h138
    have h155 := ha151.fx 3 h139
    have h156 := ha151.fx 4 h140
    have h157 := ha151.fx 5 h141
    have h158 := ha151.fx 6 h142
    have h159 := ha151.ge 0 41 rfl
    have hb160 := hb144.new_ hn150
    have hb161 := hb145.new_ hn150
    have hb162 := hb146.new_ hn150
    have hN163 := hN147.transNew hn150
    clear hs136 hd137 h138 h139 h140 h141 h142 h143 hb144 hb145 hb146 hN147 ha151 hn150
    obtain ⟨w164, -, hst165, hb166, hu167, hf168⟩ := s_two (v0 := iv 2) (v1 := iv 0) Tryd.sizeOf23 rfl rfl rfl hb162
    refine st_act rfl rfl fun K169 hL170 => a_store' rfl h156 h159 hst165 (hL170 _ _ trivial ?_)
    have hb171 := hf168 _ _ _ (hne21) hb160
    have hb172 := hf168 _ _ _ (hne22) hb161
    have hN173 := hN163.trans hu167 (fun k hk hkb => by subst hkb; omega)
    clear hb162 hst165 K169 hL170 hN163 hb160 hb161 hu167 hf168
    refine st_take rfl rfl (y_assign (v := .bool true) rfl rfl) rfl ?_
    obtain ⟨a174, ha175⟩ : ∃ a', a' = a148.put (some 5) (.bool true) := ⟨_, rfl⟩
    have hs176 : a174.tmps.size = 80 := by rw [ha175, put_size]; exact hs152
    have hd177 : a174.defers = [] := by rw [ha175, put_defers]; exact hd153
    have h178 : a174.eval (.tmp 2) = pv q8 := by rw [ha175, put_ne _ _ _ _ (by decide)]; exact h154
    have h179 : a174.eval (.tmp 3) = pv q12 := by rw [ha175, put_ne _ _ _ _ (by decide)]; exact h155
    have h180 : a174.eval (.tmp 4) = pv q16 := by rw [ha175, put_ne _ _ _ _ (by decide)]; exact h156
    have h181 : a174.eval (.tmp 6) = .bool ((belowB (asM a)) != (belowB (asM b))) := by rw [ha175, put_ne _ _ _ _ (by decide)]; exact h158
    have h182 : a174.eval (.tmp 41) = nv (Nm.mk 2 0) := by rw [ha175, put_ne _ _ _ _ (by decide)]; exact h159
    have h183 : a174.eval (.tmp 5) = .bool true := by rw [ha175]; exact put_same _ _ _ (by rw [hs152]; decide)
    show stepsTo _ _ _ _ _ (a148.put (some 5) (.bool true)) _
    rw [← ha175]
    clear ha175 hs152 hd153 h154 h155 h156 h157 h158 h159
    refine st_nil ?_
    clear h182
    refine hK _ _ ?_
    clear hK K
    refine wp_ret (ret_k hd177 (v := .tuple #[nv (Nm.mk 2 0), .bool true]) (res_ct rfl h180 h183 (l_two Tryd.isAgg23 Tryd.sizeOf23 hb166)) ?_)
    refine ⟨?_, hN173⟩
    show Ending.returned (.tuple #[nv (Nm.mk 2 0), .bool true]) = Ending.returned (.tuple #[nv ((mulM a b).1), .bool ((mulM a b).2)])
    first | rfl | (simp [mulM, mulA, ht78, ht131])
  have ht131d := of_decide_eq_false ht131
  rcases Bool.eq_false_or_eq_true (infB ((asM a).k)) with ht184 | ht184
  · skip
    rcases Bool.eq_false_or_eq_true (noughtB (asM b)) with ht185 | ht185
    · skip
      refine wp_g0 [true, true, true, true, true, true, true, true, true, true, true, true, true, true, true, true, true, true, true, true, true, true, true] [] 80
        [ve (nv (asM a)),
         ve (.bool false),
         ve (.bool false),
         ve (nv (asM b)),
         ve (.bool false),
         ve (.bool false),
         ve (.bool false),
         ve (nv (asM a)),
         ve (.bool true),
         ve (.bool true),
         ve (nv (asM b)),
         ve (.bool true),
         ve (.bool true),
         ve (.bool true),
         ve (.bool true),
         ve undef,
         ve undef,
         ve undef,
         ve undef,
         ve undef,
         ve undef,
         ve (.bool true),
         ve (.bool true)] hs67 (.eq (.eq (.eq (.eq (.eq (.eq (.eq (.eq (.eq (.eq (.eq (.eq (.eq (.eq (.eq (.eq (.eq (.eq (.eq (.eq (.eq (.eq (.eq (.nil)))))))))))))))))))))))) ?_ ?_
      · skip
        refine .o1 (tk rfl rfl fun _ w hn k => ⟨_, v_load rfl (k.fx 2 h69) (l_two Tryd.isAgg23 Tryd.sizeOf23 (hb74.new_ hn)), rfl⟩) ?_
        refine .o1 (ck rfl rfl rfl (fun _ w hn k => ⟨#[nv (asM a)], args1 (k.eq1 0 19 rfl), fun _ => by kernel_rfl, isNaN_c (asM a) _⟩) fun _ => congrArg Value.bool ht78) ?_
        refine .o1 (tk rfl rfl fun _ w hn k => ⟨_, v_move rfl (k.eq1 1 20 rfl), rfl⟩) ?_
        refine .o1 (tg rfl rfl rfl (fun _ _ k => k.eq1 2 21 rfl) fun _ w hn k => ⟨_, v_load rfl (k.fx 3 h70) (l_two Tryd.isAgg23 Tryd.sizeOf23 (hb75.new_ hn)), rfl⟩) ?_
        refine .o1 (cg rfl rfl rfl (fun _ _ k => k.eq1 2 21 rfl) rfl (fun _ w hn k => ⟨#[nv (asM b)], args1 (k.eq1 3 22 rfl), fun _ => by kernel_rfl, isNaN_c (asM b) _⟩) fun _ => congrArg Value.bool ht131) ?_
        refine .o1 (tk rfl rfl fun _ w hn k => ⟨_, v_pickF rfl (k.eq1 2 21 rfl) (k.eq1 4 23 rfl), rfl⟩) ?_
        refine .o1 (tk rfl rfl fun _ w hn k => ⟨_, v_move rfl (k.eq1 5 24 rfl), rfl⟩) ?_
        refine .o1 (tg rfl rfl rfl (fun _ _ k => k.eq1 6 25 rfl) fun _ w hn k => ⟨_, v_load rfl (k.fx 2 h69) (l_two Tryd.isAgg23 Tryd.sizeOf23 (hb74.new_ hn)), rfl⟩) ?_
        refine .o1 (cg rfl rfl rfl (fun _ _ k => k.eq1 6 25 rfl) rfl (fun _ w hn k => ⟨#[nv (asM a)], args1 (k.eq1 7 26 rfl), fun _ => by kernel_rfl, isInf_c (asM a) _⟩) fun _ => congrArg Value.bool ht184) ?_
        refine .o1 (tg rfl rfl rfl (fun _ _ k => k.eq1 6 25 rfl) fun _ w hn k => ⟨_, v_move rfl (k.eq1 8 27 rfl), rfl⟩) ?_
        refine .o1 (tg rfl rfl rfl (fun _ _ k => k.eq1 9 28 rfl) fun _ w hn k => ⟨_, v_load rfl (k.fx 3 h70) (l_two Tryd.isAgg23 Tryd.sizeOf23 (hb75.new_ hn)), rfl⟩) ?_
        refine .o1 (cg rfl rfl rfl (fun _ _ k => k.eq1 9 28 rfl) rfl (fun _ w hn k => ⟨#[nv (asM b)], args1 (k.eq1 10 29 rfl), fun _ => by kernel_rfl, isNought_c (asM b) _⟩) fun _ => congrArg Value.bool ht185) ?_
        refine .o1 (tg rfl rfl rfl (fun _ _ k => k.eq1 6 25 rfl) fun _ w hn k => ⟨_, v_pickT rfl (k.eq1 9 28 rfl) (k.eq1 11 30 rfl), rfl⟩) ?_
        refine .o1 (tk rfl rfl fun _ w hn k => ⟨_, v_pickF rfl (k.eq1 6 25 rfl) (k.eq1 12 31 rfl), rfl⟩) ?_
        refine .o1 (tk rfl rfl fun _ w hn k => ⟨_, v_move rfl (k.eq1 13 32 rfl), rfl⟩) ?_
        refine .o1 (sk rfl rfl rfl (fun _ _ _ k => k.eq1 14 33 rfl) (fun _ => rfl)) ?_
        refine .o1 (sk rfl rfl rfl (fun _ _ _ k => k.eq1 14 33 rfl) (fun _ => rfl)) ?_
        refine .o1 (sk rfl rfl rfl (fun _ _ _ k => k.eq1 14 33 rfl) (fun _ => rfl)) ?_
        refine .o1 (su rfl rfl rfl (fun _ _ _ k => k.eq1 17 36 rfl) (fun _ => rfl)) ?_
        refine .o1 (su rfl rfl rfl (fun _ _ _ k => k.eq1 17 36 rfl) (fun _ => rfl)) ?_
        refine .o1 (sk rfl rfl rfl (fun _ _ _ k => k.eq1 14 33 rfl) (fun _ => rfl)) ?_
        refine .o1 (tk rfl rfl fun _ w hn k => ⟨_, v_pickT rfl (k.eq1 14 33 rfl) rfl, rfl⟩) ?_
        refine .o1 (tk rfl rfl fun _ w hn k => ⟨_, v_assign rfl (k.eq1 21 40 rfl), rfl⟩) ?_
        exact .nil
      intro a186 w187 hn188 ha189
      have hs190 := ha189.size.trans hs67
      have hd191 := ha189.defers.trans hd68
      have h192 := ha189.fx 2 h69
      have h193 := ha189.fx 3 h70
      have h194 := ha189.fx 4 h71
      have h195 := ha189.fx 5 h72
      have h196 := ha189.fx 6 h73
      have h197 := ha189.ge 22 18 rfl
      have hb198 := hb74.new_ hn188
      have hb199 := hb75.new_ hn188
      have hb200 := hb76.new_ hn188
      have hN201 := hN77.transNew hn188
      clear hs67 hd68 h69 h70 h71 h72 h73 hb74 hb75 hb76 hN77 ha189 hn188
      refine st_nil ?_
      refine hK _ _ ?_
      clear hK K
      refine wp_cond_true h197 ?_
      refine wp_seq_k fun K hK => ?_
      refine wp_g0 [true, false, false] [(1, false), (2, true)] 80
        [ve (nv (Nm.mk 2 0)),
         vt,
         vt] hs190 (.eq (.tt (.tt (.nil)))) ?_ ?_
      · skip
        refine .o1 (ck rfl rfl rfl (fun _ w hn k => ⟨#[], rfl, fun _ => by kernel_rfl, nan_c  _⟩) fun _ => rfl) ?_
        refine .off ?_
        refine .off ?_
        exact .nil
      intro a202 w203 hn204 ha205
      have hs206 := ha205.size.trans hs190
      have hd207 := ha205.defers.trans hd191
      have h208 := ha205.fx 2 h192
      have h209 := ha205.fx 3 h193
      have h210 := ha205.fx 4 h194
      have h211 := ha205.fx 5 h195
      have h212 := ha205.fx 6 h196
      have h213 := ha205.ge 0 41 rfl
      have hb214 := hb198.new_ hn204
      have hb215 := hb199.new_ hn204
      have hb216 := hb200.new_ hn204
      have hN217 := hN201.transNew hn204
      clear hs190 hd191 h192 h193 h194 h195 h196 h197 hb198 hb199 hb200 hN201 ha205 hn204
      obtain ⟨w218, -, hst219, hb220, hu221, hf222⟩ := s_two (v0 := iv 2) (v1 := iv 0) Tryd.sizeOf23 rfl rfl rfl hb216
      refine st_act rfl rfl fun K223 hL224 => a_store' rfl h210 h213 hst219 (hL224 _ _ trivial ?_)
      have hb225 := hf222 _ _ _ (hne21) hb214
      have hb226 := hf222 _ _ _ (hne22) hb215
      have hN227 := hN217.trans hu221 (fun k hk hkb => by subst hkb; omega)
      clear hb216 hst219 K223 hL224 hN217 hb214 hb215 hu221 hf222
      refine st_take rfl rfl (y_assign (v := .bool true) rfl rfl) rfl ?_
      obtain ⟨a228, ha229⟩ : ∃ a', a' = a202.put (some 5) (.bool true) := ⟨_, rfl⟩
      have hs230 : a228.tmps.size = 80 := by rw [ha229, put_size]; exact hs206
      have hd231 : a228.defers = [] := by rw [ha229, put_defers]; exact hd207
      have h232 : a228.eval (.tmp 2) = pv q8 := by rw [ha229, put_ne _ _ _ _ (by decide)]; exact h208
      have h233 : a228.eval (.tmp 3) = pv q12 := by rw [ha229, put_ne _ _ _ _ (by decide)]; exact h209
      have h234 : a228.eval (.tmp 4) = pv q16 := by rw [ha229, put_ne _ _ _ _ (by decide)]; exact h210
      have h235 : a228.eval (.tmp 6) = .bool ((belowB (asM a)) != (belowB (asM b))) := by rw [ha229, put_ne _ _ _ _ (by decide)]; exact h212
      have h236 : a228.eval (.tmp 41) = nv (Nm.mk 2 0) := by rw [ha229, put_ne _ _ _ _ (by decide)]; exact h213
      have h237 : a228.eval (.tmp 5) = .bool true := by rw [ha229]; exact put_same _ _ _ (by rw [hs206]; decide)
      show stepsTo _ _ _ _ _ (a202.put (some 5) (.bool true)) _
      rw [← ha229]
      clear ha229 hs206 hd207 h208 h209 h210 h211 h212 h213
      refine st_nil ?_
      clear h236
      refine hK _ _ ?_
      clear hK K
      refine wp_ret (ret_k hd231 (v := .tuple #[nv (Nm.mk 2 0), .bool true]) (res_ct rfl h234 h237 (l_two Tryd.isAgg23 Tryd.sizeOf23 hb220)) ?_)
      refine ⟨?_, hN227⟩
      show Ending.returned (.tuple #[nv (Nm.mk 2 0), .bool true]) = Ending.returned (.tuple #[nv ((mulM a b).1), .bool ((mulM a b).2)])
      first | rfl | (simp [mulM, mulA, ht78, ht131, ht184, ht185])
    rcases Bool.eq_false_or_eq_true (noughtB (asM a)) with ht238 | ht238
    · skip
      refine wp_g0 [true, true, true, true, true, true, true, true, true, true, true, true, true, true, true, true, true, true, true, true, true, true, true] [] 80
        [ve (nv (asM a)),
         ve (.bool false),
         ve (.bool false),
         ve (nv (asM b)),
         ve (.bool false),
         ve (.bool false),
         ve (.bool false),
         ve (nv (asM a)),
         ve (.bool true),
         ve (.bool true),
         ve (nv (asM b)),
         ve (.bool false),
         ve (.bool false),
         ve (.bool false),
         ve (.bool false),
         ve (nv (asM a)),
         ve (.bool true),
         ve (.bool true),
         ve (nv (asM b)),
         ve (.bool (infB ((asM b).k))),
         ve (.bool (infB ((asM b).k))),
         ve (.bool (infB ((asM b).k))),
         ve (.bool (infB ((asM b).k)))] hs67 (.eq (.eq (.eq (.eq (.eq (.eq (.eq (.eq (.eq (.eq (.eq (.eq (.eq (.eq (.eq (.eq (.eq (.eq (.eq (.eq (.eq (.eq (.eq (.nil)))))))))))))))))))))))) ?_ ?_
      · skip
        refine .o1 (tk rfl rfl fun _ w hn k => ⟨_, v_load rfl (k.fx 2 h69) (l_two Tryd.isAgg23 Tryd.sizeOf23 (hb74.new_ hn)), rfl⟩) ?_
        refine .o1 (ck rfl rfl rfl (fun _ w hn k => ⟨#[nv (asM a)], args1 (k.eq1 0 19 rfl), fun _ => by kernel_rfl, isNaN_c (asM a) _⟩) fun _ => congrArg Value.bool ht78) ?_
        refine .o1 (tk rfl rfl fun _ w hn k => ⟨_, v_move rfl (k.eq1 1 20 rfl), rfl⟩) ?_
        refine .o1 (tg rfl rfl rfl (fun _ _ k => k.eq1 2 21 rfl) fun _ w hn k => ⟨_, v_load rfl (k.fx 3 h70) (l_two Tryd.isAgg23 Tryd.sizeOf23 (hb75.new_ hn)), rfl⟩) ?_
        refine .o1 (cg rfl rfl rfl (fun _ _ k => k.eq1 2 21 rfl) rfl (fun _ w hn k => ⟨#[nv (asM b)], args1 (k.eq1 3 22 rfl), fun _ => by kernel_rfl, isNaN_c (asM b) _⟩) fun _ => congrArg Value.bool ht131) ?_
        refine .o1 (tk rfl rfl fun _ w hn k => ⟨_, v_pickF rfl (k.eq1 2 21 rfl) (k.eq1 4 23 rfl), rfl⟩) ?_
        refine .o1 (tk rfl rfl fun _ w hn k => ⟨_, v_move rfl (k.eq1 5 24 rfl), rfl⟩) ?_
        refine .o1 (tg rfl rfl rfl (fun _ _ k => k.eq1 6 25 rfl) fun _ w hn k => ⟨_, v_load rfl (k.fx 2 h69) (l_two Tryd.isAgg23 Tryd.sizeOf23 (hb74.new_ hn)), rfl⟩) ?_
        refine .o1 (cg rfl rfl rfl (fun _ _ k => k.eq1 6 25 rfl) rfl (fun _ w hn k => ⟨#[nv (asM a)], args1 (k.eq1 7 26 rfl), fun _ => by kernel_rfl, isInf_c (asM a) _⟩) fun _ => congrArg Value.bool ht184) ?_
        refine .o1 (tg rfl rfl rfl (fun _ _ k => k.eq1 6 25 rfl) fun _ w hn k => ⟨_, v_move rfl (k.eq1 8 27 rfl), rfl⟩) ?_
        refine .o1 (tg rfl rfl rfl (fun _ _ k => k.eq1 9 28 rfl) fun _ w hn k => ⟨_, v_load rfl (k.fx 3 h70) (l_two Tryd.isAgg23 Tryd.sizeOf23 (hb75.new_ hn)), rfl⟩) ?_
        refine .o1 (cg rfl rfl rfl (fun _ _ k => k.eq1 9 28 rfl) rfl (fun _ w hn k => ⟨#[nv (asM b)], args1 (k.eq1 10 29 rfl), fun _ => by kernel_rfl, isNought_c (asM b) _⟩) fun _ => congrArg Value.bool ht185) ?_
        refine .o1 (tg rfl rfl rfl (fun _ _ k => k.eq1 6 25 rfl) fun _ w hn k => ⟨_, v_pickT rfl (k.eq1 9 28 rfl) (k.eq1 11 30 rfl), rfl⟩) ?_
        refine .o1 (tk rfl rfl fun _ w hn k => ⟨_, v_pickF rfl (k.eq1 6 25 rfl) (k.eq1 12 31 rfl), rfl⟩) ?_
        refine .o1 (tk rfl rfl fun _ w hn k => ⟨_, v_move rfl (k.eq1 13 32 rfl), rfl⟩) ?_
        refine .o1 (tg rfl rfl rfl (fun _ _ k => k.eq1 14 33 rfl) fun _ w hn k => ⟨_, v_load rfl (k.fx 2 h69) (l_two Tryd.isAgg23 Tryd.sizeOf23 (hb74.new_ hn)), rfl⟩) ?_
        refine .o1 (cg rfl rfl rfl (fun _ _ k => k.eq1 14 33 rfl) rfl (fun _ w hn k => ⟨#[nv (asM a)], args1 (k.eq1 15 34 rfl), fun _ => by kernel_rfl, isNought_c (asM a) _⟩) fun _ => congrArg Value.bool ht238) ?_
        refine .o1 (tg rfl rfl rfl (fun _ _ k => k.eq1 14 33 rfl) fun _ w hn k => ⟨_, v_move rfl (k.eq1 16 35 rfl), rfl⟩) ?_
        refine .o1 (tg rfl rfl rfl (fun _ _ k => k.eq1 17 36 rfl) fun _ w hn k => ⟨_, v_load rfl (k.fx 3 h70) (l_two Tryd.isAgg23 Tryd.sizeOf23 (hb75.new_ hn)), rfl⟩) ?_
        refine .o1 (cg rfl rfl rfl (fun _ _ k => k.eq1 17 36 rfl) rfl (fun _ w hn k => ⟨#[nv (asM b)], args1 (k.eq1 18 37 rfl), fun _ => by kernel_rfl, isInf_c (asM b) _⟩) fun _ => rfl) ?_
        refine .o1 (tg rfl rfl rfl (fun _ _ k => k.eq1 14 33 rfl) fun _ w hn k => ⟨_, v_pickT rfl (k.eq1 17 36 rfl) (k.eq1 19 38 rfl), rfl⟩) ?_
        refine .o1 (tk rfl rfl fun _ w hn k => ⟨_, v_pickF rfl (k.eq1 14 33 rfl) (k.eq1 20 39 rfl), rfl⟩) ?_
        refine .o1 (tk rfl rfl fun _ w hn k => ⟨_, v_assign rfl (k.eq1 21 40 rfl), rfl⟩) ?_
        exact .nil
      intro a239 w240 hn241 ha242
      have hs243 := ha242.size.trans hs67
      have hd244 := ha242.defers.trans hd68
      have h245 := ha242.fx 2 h69
      have h246 := ha242.fx 3 h70
      have h247 := ha242.fx 4 h71
      have h248 := ha242.fx 5 h72
      have h249 := ha242.fx 6 h73
      have h250 := ha242.ge 22 18 rfl
      have hb251 := hb74.new_ hn241
      have hb252 := hb75.new_ hn241
      have hb253 := hb76.new_ hn241
      have hN254 := hN77.transNew hn241
      clear hs67 hd68 h69 h70 h71 h72 h73 hb74 hb75 hb76 hN77 ha242 hn241
      refine st_nil ?_
      refine hK _ _ ?_
      clear hK K
      rcases Bool.eq_false_or_eq_true (infB ((asM b).k)) with ht255 | ht255
      · skip
        have hv256 : a239.eval (.tmp 18) = .bool true := h250.trans (congrArg Value.bool ht255)
        clear h250
        refine wp_cond_true hv256 ?_
        refine wp_seq_k fun K hK => ?_
        refine wp_g0 [true, false, false] [(1, false), (2, true)] 80
          [ve (nv (Nm.mk 2 0)),
           vt,
           vt] hs243 (.eq (.tt (.tt (.nil)))) ?_ ?_
        · skip
          refine .o1 (ck rfl rfl rfl (fun _ w hn k => ⟨#[], rfl, fun _ => by kernel_rfl, nan_c  _⟩) fun _ => rfl) ?_
          refine .off ?_
          refine .off ?_
          exact .nil
        intro a257 w258 hn259 ha260
        have hs261 := ha260.size.trans hs243
        have hd262 := ha260.defers.trans hd244
        have h263 := ha260.fx 2 h245
        have h264 := ha260.fx 3 h246
        have h265 := ha260.fx 4 h247
        have h266 := ha260.fx 5 h248
        have h267 := ha260.fx 6 h249
        have h268 := ha260.ge 0 41 rfl
        have hb269 := hb251.new_ hn259
        have hb270 := hb252.new_ hn259
        have hb271 := hb253.new_ hn259
        have hN272 := hN254.transNew hn259
        clear hs243 hd244 h245 h246 h247 h248 h249 hv256 hb251 hb252 hb253 hN254 ha260 hn259
        obtain ⟨w273, -, hst274, hb275, hu276, hf277⟩ := s_two (v0 := iv 2) (v1 := iv 0) Tryd.sizeOf23 rfl rfl rfl hb271
        refine st_act rfl rfl fun K278 hL279 => a_store' rfl h265 h268 hst274 (hL279 _ _ trivial ?_)
        have hb280 := hf277 _ _ _ (hne21) hb269
        have hb281 := hf277 _ _ _ (hne22) hb270
        have hN282 := hN272.trans hu276 (fun k hk hkb => by subst hkb; omega)
        clear hb271 hst274 K278 hL279 hN272 hb269 hb270 hu276 hf277
        refine st_take rfl rfl (y_assign (v := .bool true) rfl rfl) rfl ?_
        obtain ⟨a283, ha284⟩ : ∃ a', a' = a257.put (some 5) (.bool true) := ⟨_, rfl⟩
        have hs285 : a283.tmps.size = 80 := by rw [ha284, put_size]; exact hs261
        have hd286 : a283.defers = [] := by rw [ha284, put_defers]; exact hd262
        have h287 : a283.eval (.tmp 2) = pv q8 := by rw [ha284, put_ne _ _ _ _ (by decide)]; exact h263
        have h288 : a283.eval (.tmp 3) = pv q12 := by rw [ha284, put_ne _ _ _ _ (by decide)]; exact h264
        have h289 : a283.eval (.tmp 4) = pv q16 := by rw [ha284, put_ne _ _ _ _ (by decide)]; exact h265
        have h290 : a283.eval (.tmp 6) = .bool ((belowB (asM a)) != (belowB (asM b))) := by rw [ha284, put_ne _ _ _ _ (by decide)]; exact h267
        have h291 : a283.eval (.tmp 41) = nv (Nm.mk 2 0) := by rw [ha284, put_ne _ _ _ _ (by decide)]; exact h268
        have h292 : a283.eval (.tmp 5) = .bool true := by rw [ha284]; exact put_same _ _ _ (by rw [hs261]; decide)
        show stepsTo _ _ _ _ _ (a257.put (some 5) (.bool true)) _
        rw [← ha284]
        clear ha284 hs261 hd262 h263 h264 h265 h266 h267 h268
        refine st_nil ?_
        clear h291
        refine hK _ _ ?_
        clear hK K
        refine wp_ret (ret_k hd286 (v := .tuple #[nv (Nm.mk 2 0), .bool true]) (res_ct rfl h289 h292 (l_two Tryd.isAgg23 Tryd.sizeOf23 hb275)) ?_)
        refine ⟨?_, hN282⟩
        show Ending.returned (.tuple #[nv (Nm.mk 2 0), .bool true]) = Ending.returned (.tuple #[nv ((mulM a b).1), .bool ((mulM a b).2)])
        first | rfl | (simp [mulM, mulA, ht78, ht131, ht184, ht185, ht238, ht255])
      have hv293 : a239.eval (.tmp 18) = .bool false := h250.trans (congrArg Value.bool ht255)
      clear h250
      refine wp_cond_false hv293 ?_
      refine wp_seq_k fun K hK => ?_
      refine wp_g0 [true, true, true, true, true, true, true] [] 80
        [ve (nv (asM a)),
         ve (.bool true),
         ve (.bool true),
         ve undef,
         ve undef,
         ve (.bool true),
         ve (.bool true)] hs243 (.eq (.eq (.eq (.eq (.eq (.eq (.eq (.nil)))))))) ?_ ?_
      · skip
        refine .o1 (tk rfl rfl fun _ w hn k => ⟨_, v_load rfl (k.fx 2 h245) (l_two Tryd.isAgg23 Tryd.sizeOf23 (hb251.new_ hn)), rfl⟩) ?_
        refine .o1 (ck rfl rfl rfl (fun _ w hn k => ⟨#[nv (asM a)], args1 (k.eq1 0 43 rfl), fun _ => by kernel_rfl, isInf_c (asM a) _⟩) fun _ => congrArg Value.bool ht184) ?_
        refine .o1 (tk rfl rfl fun _ w hn k => ⟨_, v_move rfl (k.eq1 1 44 rfl), rfl⟩) ?_
        refine .o1 (sk rfl rfl rfl (fun _ _ _ k => k.eq1 2 45 rfl) (fun _ => rfl)) ?_
        refine .o1 (sk rfl rfl rfl (fun _ _ _ k => k.eq1 2 45 rfl) (fun _ => rfl)) ?_
        refine .o1 (tk rfl rfl fun _ w hn k => ⟨_, v_pickT rfl (k.eq1 2 45 rfl) rfl, rfl⟩) ?_
        refine .o1 (tk rfl rfl fun _ w hn k => ⟨_, v_assign rfl (k.eq1 5 48 rfl), rfl⟩) ?_
        exact .nil
      intro a294 w295 hn296 ha297
      have hs298 := ha297.size.trans hs243
      have hd299 := ha297.defers.trans hd244
      have h300 := ha297.fx 2 h245
      have h301 := ha297.fx 3 h246
      have h302 := ha297.fx 4 h247
      have h303 := ha297.fx 5 h248
      have h304 := ha297.fx 6 h249
      have h305 := ha297.ge 6 42 rfl
      have hb306 := hb251.new_ hn296
      have hb307 := hb252.new_ hn296
      have hb308 := hb253.new_ hn296
      have hN309 := hN254.transNew hn296
      clear hs243 hd244 h245 h246 h247 h248 h249 hv293 hb251 hb252 hb253 hN254 ha297 hn296
      refine st_nil ?_
      refine hK _ _ ?_
      clear hK K
      refine wp_cond_true h305 ?_
      refine wp_seq_k fun K hK => ?_
      refine wp_g0 [true, true, false, false] [(2, false), (3, true)] 80
        [ve (.bool ((belowB (asM a)) != (belowB (asM b)))),
         ve (nv (infM ((belowB (asM a)) != (belowB (asM b))))),
         vt,
         vt] hs298 (.eq (.eq (.tt (.tt (.nil))))) ?_ ?_
      · skip
        refine .o1 (tk rfl rfl fun _ w hn k => ⟨_, v_move rfl (k.fx 6 h304), rfl⟩) ?_
        refine .o1 (ck rfl rfl rfl (fun _ w hn k => ⟨#[.bool ((belowB (asM a)) != (belowB (asM b)))], args1 (k.eq1 0 49 rfl), fun _ => by kernel_rfl, inf_c ((belowB (asM a)) != (belowB (asM b))) _⟩) fun _ => rfl) ?_
        refine .off ?_
        refine .off ?_
        exact .nil
      intro a310 w311 hn312 ha313
      have hs314 := ha313.size.trans hs298
      have hd315 := ha313.defers.trans hd299
      have h316 := ha313.fx 2 h300
      have h317 := ha313.fx 3 h301
      have h318 := ha313.fx 4 h302
      have h319 := ha313.fx 5 h303
      have h320 := ha313.fx 6 h304
      have h321 := ha313.ge 1 50 rfl
      have hb322 := hb306.new_ hn312
      have hb323 := hb307.new_ hn312
      have hb324 := hb308.new_ hn312
      have hN325 := hN309.transNew hn312
      clear hs298 hd299 h300 h301 h302 h303 h304 h305 hb306 hb307 hb308 hN309 ha313 hn312
      obtain ⟨w326, -, hst327, hb328, hu329, hf330⟩ := s_two (v0 := iv ((infM ((belowB (asM a)) != (belowB (asM b)))).k)) (v1 := iv ((infM ((belowB (asM a)) != (belowB (asM b)))).n)) Tryd.sizeOf23 rfl rfl rfl hb324
      refine st_act rfl rfl fun K331 hL332 => a_store' rfl h318 h321 hst327 (hL332 _ _ trivial ?_)
      have hb333 := hf330 _ _ _ (hne21) hb322
      have hb334 := hf330 _ _ _ (hne22) hb323
      have hN335 := hN325.trans hu329 (fun k hk hkb => by subst hkb; omega)
      clear hb324 hst327 K331 hL332 hN325 hb322 hb323 hu329 hf330
      refine st_take rfl rfl (y_assign (v := .bool true) rfl rfl) rfl ?_
      obtain ⟨a336, ha337⟩ : ∃ a', a' = a310.put (some 5) (.bool true) := ⟨_, rfl⟩
      have hs338 : a336.tmps.size = 80 := by rw [ha337, put_size]; exact hs314
      have hd339 : a336.defers = [] := by rw [ha337, put_defers]; exact hd315
      have h340 : a336.eval (.tmp 2) = pv q8 := by rw [ha337, put_ne _ _ _ _ (by decide)]; exact h316
      have h341 : a336.eval (.tmp 3) = pv q12 := by rw [ha337, put_ne _ _ _ _ (by decide)]; exact h317
      have h342 : a336.eval (.tmp 4) = pv q16 := by rw [ha337, put_ne _ _ _ _ (by decide)]; exact h318
      have h343 : a336.eval (.tmp 6) = .bool ((belowB (asM a)) != (belowB (asM b))) := by rw [ha337, put_ne _ _ _ _ (by decide)]; exact h320
      have h344 : a336.eval (.tmp 50) = nv (infM ((belowB (asM a)) != (belowB (asM b)))) := by rw [ha337, put_ne _ _ _ _ (by decide)]; exact h321
      have h345 : a336.eval (.tmp 5) = .bool true := by rw [ha337]; exact put_same _ _ _ (by rw [hs314]; decide)
      show stepsTo _ _ _ _ _ (a310.put (some 5) (.bool true)) _
      rw [← ha337]
      clear ha337 hs314 hd315 h316 h317 h318 h319 h320 h321
      refine st_nil ?_
      clear h344
      refine hK _ _ ?_
      clear hK K
      refine wp_ret (ret_k hd339 (v := .tuple #[nv (infM ((belowB (asM a)) != (belowB (asM b)))), .bool true]) (res_ct rfl h342 h345 (l_two Tryd.isAgg23 Tryd.sizeOf23 hb328)) ?_)
      refine ⟨?_, hN335⟩
      show Ending.returned (.tuple #[nv (infM ((belowB (asM a)) != (belowB (asM b)))), .bool true]) = Ending.returned (.tuple #[nv ((mulM a b).1), .bool ((mulM a b).2)])
      first | rfl | (simp [mulM, mulA, ht78, ht131, ht184, ht185, ht238, ht255])
    refine wp_g0 [true, true, true, true, true, true, true, true, true, true, true, true, true, true, true, true, true, true, true, true, true, true, true] [] 80
      [ve (nv (asM a)),
       ve (.bool false),
       ve (.bool false),
       ve (nv (asM b)),
       ve (.bool false),
       ve (.bool false),
       ve (.bool false),
       ve (nv (asM a)),
       ve (.bool true),
       ve (.bool true),
       ve (nv (asM b)),
       ve (.bool false),
       ve (.bool false),
       ve (.bool false),
       ve (.bool false),
       ve (nv (asM a)),
       ve (.bool false),
       ve (.bool false),
       ve undef,
       ve undef,
       ve (.bool false),
       ve (.bool false),
       ve (.bool false)] hs67 (.eq (.eq (.eq (.eq (.eq (.eq (.eq (.eq (.eq (.eq (.eq (.eq (.eq (.eq (.eq (.eq (.eq (.eq (.eq (.eq (.eq (.eq (.eq (.nil)))))))))))))))))))))))) ?_ ?_
    · skip
      refine .o1 (tk rfl rfl fun _ w hn k => ⟨_, v_load rfl (k.fx 2 h69) (l_two Tryd.isAgg23 Tryd.sizeOf23 (hb74.new_ hn)), rfl⟩) ?_
      refine .o1 (ck rfl rfl rfl (fun _ w hn k => ⟨#[nv (asM a)], args1 (k.eq1 0 19 rfl), fun _ => by kernel_rfl, isNaN_c (asM a) _⟩) fun _ => congrArg Value.bool ht78) ?_
      refine .o1 (tk rfl rfl fun _ w hn k => ⟨_, v_move rfl (k.eq1 1 20 rfl), rfl⟩) ?_
      refine .o1 (tg rfl rfl rfl (fun _ _ k => k.eq1 2 21 rfl) fun _ w hn k => ⟨_, v_load rfl (k.fx 3 h70) (l_two Tryd.isAgg23 Tryd.sizeOf23 (hb75.new_ hn)), rfl⟩) ?_
      refine .o1 (cg rfl rfl rfl (fun _ _ k => k.eq1 2 21 rfl) rfl (fun _ w hn k => ⟨#[nv (asM b)], args1 (k.eq1 3 22 rfl), fun _ => by kernel_rfl, isNaN_c (asM b) _⟩) fun _ => congrArg Value.bool ht131) ?_
      refine .o1 (tk rfl rfl fun _ w hn k => ⟨_, v_pickF rfl (k.eq1 2 21 rfl) (k.eq1 4 23 rfl), rfl⟩) ?_
      refine .o1 (tk rfl rfl fun _ w hn k => ⟨_, v_move rfl (k.eq1 5 24 rfl), rfl⟩) ?_
      refine .o1 (tg rfl rfl rfl (fun _ _ k => k.eq1 6 25 rfl) fun _ w hn k => ⟨_, v_load rfl (k.fx 2 h69) (l_two Tryd.isAgg23 Tryd.sizeOf23 (hb74.new_ hn)), rfl⟩) ?_
      refine .o1 (cg rfl rfl rfl (fun _ _ k => k.eq1 6 25 rfl) rfl (fun _ w hn k => ⟨#[nv (asM a)], args1 (k.eq1 7 26 rfl), fun _ => by kernel_rfl, isInf_c (asM a) _⟩) fun _ => congrArg Value.bool ht184) ?_
      refine .o1 (tg rfl rfl rfl (fun _ _ k => k.eq1 6 25 rfl) fun _ w hn k => ⟨_, v_move rfl (k.eq1 8 27 rfl), rfl⟩) ?_
      refine .o1 (tg rfl rfl rfl (fun _ _ k => k.eq1 9 28 rfl) fun _ w hn k => ⟨_, v_load rfl (k.fx 3 h70) (l_two Tryd.isAgg23 Tryd.sizeOf23 (hb75.new_ hn)), rfl⟩) ?_
      refine .o1 (cg rfl rfl rfl (fun _ _ k => k.eq1 9 28 rfl) rfl (fun _ w hn k => ⟨#[nv (asM b)], args1 (k.eq1 10 29 rfl), fun _ => by kernel_rfl, isNought_c (asM b) _⟩) fun _ => congrArg Value.bool ht185) ?_
      refine .o1 (tg rfl rfl rfl (fun _ _ k => k.eq1 6 25 rfl) fun _ w hn k => ⟨_, v_pickT rfl (k.eq1 9 28 rfl) (k.eq1 11 30 rfl), rfl⟩) ?_
      refine .o1 (tk rfl rfl fun _ w hn k => ⟨_, v_pickF rfl (k.eq1 6 25 rfl) (k.eq1 12 31 rfl), rfl⟩) ?_
      refine .o1 (tk rfl rfl fun _ w hn k => ⟨_, v_move rfl (k.eq1 13 32 rfl), rfl⟩) ?_
      refine .o1 (tg rfl rfl rfl (fun _ _ k => k.eq1 14 33 rfl) fun _ w hn k => ⟨_, v_load rfl (k.fx 2 h69) (l_two Tryd.isAgg23 Tryd.sizeOf23 (hb74.new_ hn)), rfl⟩) ?_
      refine .o1 (cg rfl rfl rfl (fun _ _ k => k.eq1 14 33 rfl) rfl (fun _ w hn k => ⟨#[nv (asM a)], args1 (k.eq1 15 34 rfl), fun _ => by kernel_rfl, isNought_c (asM a) _⟩) fun _ => congrArg Value.bool ht238) ?_
      refine .o1 (tg rfl rfl rfl (fun _ _ k => k.eq1 14 33 rfl) fun _ w hn k => ⟨_, v_move rfl (k.eq1 16 35 rfl), rfl⟩) ?_
      refine .o1 (sk rfl rfl rfl (fun _ _ _ k => k.eq1 17 36 rfl) (fun _ => rfl)) ?_
      refine .o1 (sk rfl rfl rfl (fun _ _ _ k => k.eq1 17 36 rfl) (fun _ => rfl)) ?_
      refine .o1 (tg rfl rfl rfl (fun _ _ k => k.eq1 14 33 rfl) fun _ w hn k => ⟨_, v_pickF rfl (k.eq1 17 36 rfl) rfl, rfl⟩) ?_
      refine .o1 (tk rfl rfl fun _ w hn k => ⟨_, v_pickF rfl (k.eq1 14 33 rfl) (k.eq1 20 39 rfl), rfl⟩) ?_
      refine .o1 (tk rfl rfl fun _ w hn k => ⟨_, v_assign rfl (k.eq1 21 40 rfl), rfl⟩) ?_
      exact .nil
    intro a346 w347 hn348 ha349
    have hs350 := ha349.size.trans hs67
    have hd351 := ha349.defers.trans hd68
    have h352 := ha349.fx 2 h69
    have h353 := ha349.fx 3 h70
    have h354 := ha349.fx 4 h71
    have h355 := ha349.fx 5 h72
    have h356 := ha349.fx 6 h73
    have h357 := ha349.ge 22 18 rfl
    have hb358 := hb74.new_ hn348
    have hb359 := hb75.new_ hn348
    have hb360 := hb76.new_ hn348
    have hN361 := hN77.transNew hn348
    clear hs67 hd68 h69 h70 h71 h72 h73 hb74 hb75 hb76 hN77 ha349 hn348
    refine st_nil ?_
    refine hK _ _ ?_
    clear hK K
    refine wp_cond_false h357 ?_
    refine wp_seq_k fun K hK => ?_
    refine wp_g0 [true, true, true, true, true, true, true] [] 80
      [ve (nv (asM a)),
       ve (.bool true),
       ve (.bool true),
       ve undef,
       ve undef,
       ve (.bool true),
       ve (.bool true)] hs350 (.eq (.eq (.eq (.eq (.eq (.eq (.eq (.nil)))))))) ?_ ?_
    · skip
      refine .o1 (tk rfl rfl fun _ w hn k => ⟨_, v_load rfl (k.fx 2 h352) (l_two Tryd.isAgg23 Tryd.sizeOf23 (hb358.new_ hn)), rfl⟩) ?_
      refine .o1 (ck rfl rfl rfl (fun _ w hn k => ⟨#[nv (asM a)], args1 (k.eq1 0 43 rfl), fun _ => by kernel_rfl, isInf_c (asM a) _⟩) fun _ => congrArg Value.bool ht184) ?_
      refine .o1 (tk rfl rfl fun _ w hn k => ⟨_, v_move rfl (k.eq1 1 44 rfl), rfl⟩) ?_
      refine .o1 (sk rfl rfl rfl (fun _ _ _ k => k.eq1 2 45 rfl) (fun _ => rfl)) ?_
      refine .o1 (sk rfl rfl rfl (fun _ _ _ k => k.eq1 2 45 rfl) (fun _ => rfl)) ?_
      refine .o1 (tk rfl rfl fun _ w hn k => ⟨_, v_pickT rfl (k.eq1 2 45 rfl) rfl, rfl⟩) ?_
      refine .o1 (tk rfl rfl fun _ w hn k => ⟨_, v_assign rfl (k.eq1 5 48 rfl), rfl⟩) ?_
      exact .nil
    intro a362 w363 hn364 ha365
    have hs366 := ha365.size.trans hs350
    have hd367 := ha365.defers.trans hd351
    have h368 := ha365.fx 2 h352
    have h369 := ha365.fx 3 h353
    have h370 := ha365.fx 4 h354
    have h371 := ha365.fx 5 h355
    have h372 := ha365.fx 6 h356
    have h373 := ha365.ge 6 42 rfl
    have hb374 := hb358.new_ hn364
    have hb375 := hb359.new_ hn364
    have hb376 := hb360.new_ hn364
    have hN377 := hN361.transNew hn364
    clear hs350 hd351 h352 h353 h354 h355 h356 h357 hb358 hb359 hb360 hN361 ha365 hn364
    refine st_nil ?_
    refine hK _ _ ?_
    clear hK K
    refine wp_cond_true h373 ?_
    refine wp_seq_k fun K hK => ?_
    refine wp_g0 [true, true, false, false] [(2, false), (3, true)] 80
      [ve (.bool ((belowB (asM a)) != (belowB (asM b)))),
       ve (nv (infM ((belowB (asM a)) != (belowB (asM b))))),
       vt,
       vt] hs366 (.eq (.eq (.tt (.tt (.nil))))) ?_ ?_
    · skip
      refine .o1 (tk rfl rfl fun _ w hn k => ⟨_, v_move rfl (k.fx 6 h372), rfl⟩) ?_
      refine .o1 (ck rfl rfl rfl (fun _ w hn k => ⟨#[.bool ((belowB (asM a)) != (belowB (asM b)))], args1 (k.eq1 0 49 rfl), fun _ => by kernel_rfl, inf_c ((belowB (asM a)) != (belowB (asM b))) _⟩) fun _ => rfl) ?_
      refine .off ?_
      refine .off ?_
      exact .nil
    intro a378 w379 hn380 ha381
    have hs382 := ha381.size.trans hs366
    have hd383 := ha381.defers.trans hd367
    have h384 := ha381.fx 2 h368
    have h385 := ha381.fx 3 h369
    have h386 := ha381.fx 4 h370
    have h387 := ha381.fx 5 h371
    have h388 := ha381.fx 6 h372
    have h389 := ha381.ge 1 50 rfl
    have hb390 := hb374.new_ hn380
    have hb391 := hb375.new_ hn380
    have hb392 := hb376.new_ hn380
    have hN393 := hN377.transNew hn380
    clear hs366 hd367 h368 h369 h370 h371 h372 h373 hb374 hb375 hb376 hN377 ha381 hn380
    obtain ⟨w394, -, hst395, hb396, hu397, hf398⟩ := s_two (v0 := iv ((infM ((belowB (asM a)) != (belowB (asM b)))).k)) (v1 := iv ((infM ((belowB (asM a)) != (belowB (asM b)))).n)) Tryd.sizeOf23 rfl rfl rfl hb392
    refine st_act rfl rfl fun K399 hL400 => a_store' rfl h386 h389 hst395 (hL400 _ _ trivial ?_)
    have hb401 := hf398 _ _ _ (hne21) hb390
    have hb402 := hf398 _ _ _ (hne22) hb391
    have hN403 := hN393.trans hu397 (fun k hk hkb => by subst hkb; omega)
    clear hb392 hst395 K399 hL400 hN393 hb390 hb391 hu397 hf398
    refine st_take rfl rfl (y_assign (v := .bool true) rfl rfl) rfl ?_
    obtain ⟨a404, ha405⟩ : ∃ a', a' = a378.put (some 5) (.bool true) := ⟨_, rfl⟩
    have hs406 : a404.tmps.size = 80 := by rw [ha405, put_size]; exact hs382
    have hd407 : a404.defers = [] := by rw [ha405, put_defers]; exact hd383
    have h408 : a404.eval (.tmp 2) = pv q8 := by rw [ha405, put_ne _ _ _ _ (by decide)]; exact h384
    have h409 : a404.eval (.tmp 3) = pv q12 := by rw [ha405, put_ne _ _ _ _ (by decide)]; exact h385
    have h410 : a404.eval (.tmp 4) = pv q16 := by rw [ha405, put_ne _ _ _ _ (by decide)]; exact h386
    have h411 : a404.eval (.tmp 6) = .bool ((belowB (asM a)) != (belowB (asM b))) := by rw [ha405, put_ne _ _ _ _ (by decide)]; exact h388
    have h412 : a404.eval (.tmp 50) = nv (infM ((belowB (asM a)) != (belowB (asM b)))) := by rw [ha405, put_ne _ _ _ _ (by decide)]; exact h389
    have h413 : a404.eval (.tmp 5) = .bool true := by rw [ha405]; exact put_same _ _ _ (by rw [hs382]; decide)
    show stepsTo _ _ _ _ _ (a378.put (some 5) (.bool true)) _
    rw [← ha405]
    clear ha405 hs382 hd383 h384 h385 h386 h387 h388 h389
    refine st_nil ?_
    clear h412
    refine hK _ _ ?_
    clear hK K
    refine wp_ret (ret_k hd407 (v := .tuple #[nv (infM ((belowB (asM a)) != (belowB (asM b)))), .bool true]) (res_ct rfl h410 h413 (l_two Tryd.isAgg23 Tryd.sizeOf23 hb396)) ?_)
    refine ⟨?_, hN403⟩
    show Ending.returned (.tuple #[nv (infM ((belowB (asM a)) != (belowB (asM b)))), .bool true]) = Ending.returned (.tuple #[nv ((mulM a b).1), .bool ((mulM a b).2)])
    first | rfl | (simp [mulM, mulA, ht78, ht131, ht184, ht185, ht238])
  rcases Bool.eq_false_or_eq_true (noughtB (asM a)) with ht414 | ht414
  · skip
    refine wp_g0 [true, true, true, true, true, true, true, true, true, true, true, true, true, true, true, true, true, true, true, true, true, true, true] [] 80
      [ve (nv (asM a)),
       ve (.bool false),
       ve (.bool false),
       ve (nv (asM b)),
       ve (.bool false),
       ve (.bool false),
       ve (.bool false),
       ve (nv (asM a)),
       ve (.bool false),
       ve (.bool false),
       ve undef,
       ve undef,
       ve (.bool false),
       ve (.bool false),
       ve (.bool false),
       ve (nv (asM a)),
       ve (.bool true),
       ve (.bool true),
       ve (nv (asM b)),
       ve (.bool (infB ((asM b).k))),
       ve (.bool (infB ((asM b).k))),
       ve (.bool (infB ((asM b).k))),
       ve (.bool (infB ((asM b).k)))] hs67 (.eq (.eq (.eq (.eq (.eq (.eq (.eq (.eq (.eq (.eq (.eq (.eq (.eq (.eq (.eq (.eq (.eq (.eq (.eq (.eq (.eq (.eq (.eq (.nil)))))))))))))))))))))))) ?_ ?_
    · skip
      refine .o1 (tk rfl rfl fun _ w hn k => ⟨_, v_load rfl (k.fx 2 h69) (l_two Tryd.isAgg23 Tryd.sizeOf23 (hb74.new_ hn)), rfl⟩) ?_
      refine .o1 (ck rfl rfl rfl (fun _ w hn k => ⟨#[nv (asM a)], args1 (k.eq1 0 19 rfl), fun _ => by kernel_rfl, isNaN_c (asM a) _⟩) fun _ => congrArg Value.bool ht78) ?_
      refine .o1 (tk rfl rfl fun _ w hn k => ⟨_, v_move rfl (k.eq1 1 20 rfl), rfl⟩) ?_
      refine .o1 (tg rfl rfl rfl (fun _ _ k => k.eq1 2 21 rfl) fun _ w hn k => ⟨_, v_load rfl (k.fx 3 h70) (l_two Tryd.isAgg23 Tryd.sizeOf23 (hb75.new_ hn)), rfl⟩) ?_
      refine .o1 (cg rfl rfl rfl (fun _ _ k => k.eq1 2 21 rfl) rfl (fun _ w hn k => ⟨#[nv (asM b)], args1 (k.eq1 3 22 rfl), fun _ => by kernel_rfl, isNaN_c (asM b) _⟩) fun _ => congrArg Value.bool ht131) ?_
      refine .o1 (tk rfl rfl fun _ w hn k => ⟨_, v_pickF rfl (k.eq1 2 21 rfl) (k.eq1 4 23 rfl), rfl⟩) ?_
      refine .o1 (tk rfl rfl fun _ w hn k => ⟨_, v_move rfl (k.eq1 5 24 rfl), rfl⟩) ?_
      refine .o1 (tg rfl rfl rfl (fun _ _ k => k.eq1 6 25 rfl) fun _ w hn k => ⟨_, v_load rfl (k.fx 2 h69) (l_two Tryd.isAgg23 Tryd.sizeOf23 (hb74.new_ hn)), rfl⟩) ?_
      refine .o1 (cg rfl rfl rfl (fun _ _ k => k.eq1 6 25 rfl) rfl (fun _ w hn k => ⟨#[nv (asM a)], args1 (k.eq1 7 26 rfl), fun _ => by kernel_rfl, isInf_c (asM a) _⟩) fun _ => congrArg Value.bool ht184) ?_
      refine .o1 (tg rfl rfl rfl (fun _ _ k => k.eq1 6 25 rfl) fun _ w hn k => ⟨_, v_move rfl (k.eq1 8 27 rfl), rfl⟩) ?_
      refine .o1 (sk rfl rfl rfl (fun _ _ _ k => k.eq1 9 28 rfl) (fun _ => rfl)) ?_
      refine .o1 (sk rfl rfl rfl (fun _ _ _ k => k.eq1 9 28 rfl) (fun _ => rfl)) ?_
      refine .o1 (tg rfl rfl rfl (fun _ _ k => k.eq1 6 25 rfl) fun _ w hn k => ⟨_, v_pickF rfl (k.eq1 9 28 rfl) rfl, rfl⟩) ?_
      refine .o1 (tk rfl rfl fun _ w hn k => ⟨_, v_pickF rfl (k.eq1 6 25 rfl) (k.eq1 12 31 rfl), rfl⟩) ?_
      refine .o1 (tk rfl rfl fun _ w hn k => ⟨_, v_move rfl (k.eq1 13 32 rfl), rfl⟩) ?_
      refine .o1 (tg rfl rfl rfl (fun _ _ k => k.eq1 14 33 rfl) fun _ w hn k => ⟨_, v_load rfl (k.fx 2 h69) (l_two Tryd.isAgg23 Tryd.sizeOf23 (hb74.new_ hn)), rfl⟩) ?_
      refine .o1 (cg rfl rfl rfl (fun _ _ k => k.eq1 14 33 rfl) rfl (fun _ w hn k => ⟨#[nv (asM a)], args1 (k.eq1 15 34 rfl), fun _ => by kernel_rfl, isNought_c (asM a) _⟩) fun _ => congrArg Value.bool ht414) ?_
      refine .o1 (tg rfl rfl rfl (fun _ _ k => k.eq1 14 33 rfl) fun _ w hn k => ⟨_, v_move rfl (k.eq1 16 35 rfl), rfl⟩) ?_
      refine .o1 (tg rfl rfl rfl (fun _ _ k => k.eq1 17 36 rfl) fun _ w hn k => ⟨_, v_load rfl (k.fx 3 h70) (l_two Tryd.isAgg23 Tryd.sizeOf23 (hb75.new_ hn)), rfl⟩) ?_
      refine .o1 (cg rfl rfl rfl (fun _ _ k => k.eq1 17 36 rfl) rfl (fun _ w hn k => ⟨#[nv (asM b)], args1 (k.eq1 18 37 rfl), fun _ => by kernel_rfl, isInf_c (asM b) _⟩) fun _ => rfl) ?_
      refine .o1 (tg rfl rfl rfl (fun _ _ k => k.eq1 14 33 rfl) fun _ w hn k => ⟨_, v_pickT rfl (k.eq1 17 36 rfl) (k.eq1 19 38 rfl), rfl⟩) ?_
      refine .o1 (tk rfl rfl fun _ w hn k => ⟨_, v_pickF rfl (k.eq1 14 33 rfl) (k.eq1 20 39 rfl), rfl⟩) ?_
      refine .o1 (tk rfl rfl fun _ w hn k => ⟨_, v_assign rfl (k.eq1 21 40 rfl), rfl⟩) ?_
      exact .nil
    intro a415 w416 hn417 ha418
    have hs419 := ha418.size.trans hs67
    have hd420 := ha418.defers.trans hd68
    have h421 := ha418.fx 2 h69
    have h422 := ha418.fx 3 h70
    have h423 := ha418.fx 4 h71
    have h424 := ha418.fx 5 h72
    have h425 := ha418.fx 6 h73
    have h426 := ha418.ge 22 18 rfl
    have hb427 := hb74.new_ hn417
    have hb428 := hb75.new_ hn417
    have hb429 := hb76.new_ hn417
    have hN430 := hN77.transNew hn417
    clear hs67 hd68 h69 h70 h71 h72 h73 hb74 hb75 hb76 hN77 ha418 hn417
    refine st_nil ?_
    refine hK _ _ ?_
    clear hK K
    rcases Bool.eq_false_or_eq_true (infB ((asM b).k)) with ht431 | ht431
    · skip
      have hv432 : a415.eval (.tmp 18) = .bool true := h426.trans (congrArg Value.bool ht431)
      clear h426
      refine wp_cond_true hv432 ?_
      refine wp_seq_k fun K hK => ?_
      refine wp_g0 [true, false, false] [(1, false), (2, true)] 80
        [ve (nv (Nm.mk 2 0)),
         vt,
         vt] hs419 (.eq (.tt (.tt (.nil)))) ?_ ?_
      · skip
        refine .o1 (ck rfl rfl rfl (fun _ w hn k => ⟨#[], rfl, fun _ => by kernel_rfl, nan_c  _⟩) fun _ => rfl) ?_
        refine .off ?_
        refine .off ?_
        exact .nil
      intro a433 w434 hn435 ha436
      have hs437 := ha436.size.trans hs419
      have hd438 := ha436.defers.trans hd420
      have h439 := ha436.fx 2 h421
      have h440 := ha436.fx 3 h422
      have h441 := ha436.fx 4 h423
      have h442 := ha436.fx 5 h424
      have h443 := ha436.fx 6 h425
      have h444 := ha436.ge 0 41 rfl
      have hb445 := hb427.new_ hn435
      have hb446 := hb428.new_ hn435
      have hb447 := hb429.new_ hn435
      have hN448 := hN430.transNew hn435
      clear hs419 hd420 h421 h422 h423 h424 h425 hv432 hb427 hb428 hb429 hN430 ha436 hn435
      obtain ⟨w449, -, hst450, hb451, hu452, hf453⟩ := s_two (v0 := iv 2) (v1 := iv 0) Tryd.sizeOf23 rfl rfl rfl hb447
      refine st_act rfl rfl fun K454 hL455 => a_store' rfl h441 h444 hst450 (hL455 _ _ trivial ?_)
      have hb456 := hf453 _ _ _ (hne21) hb445
      have hb457 := hf453 _ _ _ (hne22) hb446
      have hN458 := hN448.trans hu452 (fun k hk hkb => by subst hkb; omega)
      clear hb447 hst450 K454 hL455 hN448 hb445 hb446 hu452 hf453
      refine st_take rfl rfl (y_assign (v := .bool true) rfl rfl) rfl ?_
      obtain ⟨a459, ha460⟩ : ∃ a', a' = a433.put (some 5) (.bool true) := ⟨_, rfl⟩
      have hs461 : a459.tmps.size = 80 := by rw [ha460, put_size]; exact hs437
      have hd462 : a459.defers = [] := by rw [ha460, put_defers]; exact hd438
      have h463 : a459.eval (.tmp 2) = pv q8 := by rw [ha460, put_ne _ _ _ _ (by decide)]; exact h439
      have h464 : a459.eval (.tmp 3) = pv q12 := by rw [ha460, put_ne _ _ _ _ (by decide)]; exact h440
      have h465 : a459.eval (.tmp 4) = pv q16 := by rw [ha460, put_ne _ _ _ _ (by decide)]; exact h441
      have h466 : a459.eval (.tmp 6) = .bool ((belowB (asM a)) != (belowB (asM b))) := by rw [ha460, put_ne _ _ _ _ (by decide)]; exact h443
      have h467 : a459.eval (.tmp 41) = nv (Nm.mk 2 0) := by rw [ha460, put_ne _ _ _ _ (by decide)]; exact h444
      have h468 : a459.eval (.tmp 5) = .bool true := by rw [ha460]; exact put_same _ _ _ (by rw [hs437]; decide)
      show stepsTo _ _ _ _ _ (a433.put (some 5) (.bool true)) _
      rw [← ha460]
      clear ha460 hs437 hd438 h439 h440 h441 h442 h443 h444
      refine st_nil ?_
      clear h467
      refine hK _ _ ?_
      clear hK K
      refine wp_ret (ret_k hd462 (v := .tuple #[nv (Nm.mk 2 0), .bool true]) (res_ct rfl h465 h468 (l_two Tryd.isAgg23 Tryd.sizeOf23 hb451)) ?_)
      refine ⟨?_, hN458⟩
      show Ending.returned (.tuple #[nv (Nm.mk 2 0), .bool true]) = Ending.returned (.tuple #[nv ((mulM a b).1), .bool ((mulM a b).2)])
      first | rfl | (simp [mulM, mulA, ht78, ht131, ht184, ht414, ht431])
    have hv469 : a415.eval (.tmp 18) = .bool false := h426.trans (congrArg Value.bool ht431)
    clear h426
    refine wp_cond_false hv469 ?_
    refine wp_seq_k fun K hK => ?_
    refine wp_g0 [true, true, true, true, true, true, true] [] 80
      [ve (nv (asM a)),
       ve (.bool false),
       ve (.bool false),
       ve (nv (asM b)),
       ve (.bool false),
       ve (.bool false),
       ve (.bool false)] hs419 (.eq (.eq (.eq (.eq (.eq (.eq (.eq (.nil)))))))) ?_ ?_
    · skip
      refine .o1 (tk rfl rfl fun _ w hn k => ⟨_, v_load rfl (k.fx 2 h421) (l_two Tryd.isAgg23 Tryd.sizeOf23 (hb427.new_ hn)), rfl⟩) ?_
      refine .o1 (ck rfl rfl rfl (fun _ w hn k => ⟨#[nv (asM a)], args1 (k.eq1 0 43 rfl), fun _ => by kernel_rfl, isInf_c (asM a) _⟩) fun _ => congrArg Value.bool ht184) ?_
      refine .o1 (tk rfl rfl fun _ w hn k => ⟨_, v_move rfl (k.eq1 1 44 rfl), rfl⟩) ?_
      refine .o1 (tg rfl rfl rfl (fun _ _ k => k.eq1 2 45 rfl) fun _ w hn k => ⟨_, v_load rfl (k.fx 3 h422) (l_two Tryd.isAgg23 Tryd.sizeOf23 (hb428.new_ hn)), rfl⟩) ?_
      refine .o1 (cg rfl rfl rfl (fun _ _ k => k.eq1 2 45 rfl) rfl (fun _ w hn k => ⟨#[nv (asM b)], args1 (k.eq1 3 46 rfl), fun _ => by kernel_rfl, isInf_c (asM b) _⟩) fun _ => congrArg Value.bool ht431) ?_
      refine .o1 (tk rfl rfl fun _ w hn k => ⟨_, v_pickF rfl (k.eq1 2 45 rfl) (k.eq1 4 47 rfl), rfl⟩) ?_
      refine .o1 (tk rfl rfl fun _ w hn k => ⟨_, v_assign rfl (k.eq1 5 48 rfl), rfl⟩) ?_
      exact .nil
    intro a470 w471 hn472 ha473
    have hs474 := ha473.size.trans hs419
    have hd475 := ha473.defers.trans hd420
    have h476 := ha473.fx 2 h421
    have h477 := ha473.fx 3 h422
    have h478 := ha473.fx 4 h423
    have h479 := ha473.fx 5 h424
    have h480 := ha473.fx 6 h425
    have h481 := ha473.ge 6 42 rfl
    have hb482 := hb427.new_ hn472
    have hb483 := hb428.new_ hn472
    have hb484 := hb429.new_ hn472
    have hN485 := hN430.transNew hn472
    clear hs419 hd420 h421 h422 h423 h424 h425 hv469 hb427 hb428 hb429 hN430 ha473 hn472
    refine st_nil ?_
    refine hK _ _ ?_
    clear hK K
    refine wp_cond_false h481 ?_
    refine wp_seq_k fun K hK => ?_
    refine wp_g0 [true, true, true, true, true, true, true] [] 80
      [ve (nv (asM a)),
       ve (.bool true),
       ve (.bool true),
       ve undef,
       ve undef,
       ve (.bool true),
       ve (.bool true)] hs474 (.eq (.eq (.eq (.eq (.eq (.eq (.eq (.nil)))))))) ?_ ?_
    · skip
      refine .o1 (tk rfl rfl fun _ w hn k => ⟨_, v_load rfl (k.fx 2 h476) (l_two Tryd.isAgg23 Tryd.sizeOf23 (hb482.new_ hn)), rfl⟩) ?_
      refine .o1 (ck rfl rfl rfl (fun _ w hn k => ⟨#[nv (asM a)], args1 (k.eq1 0 52 rfl), fun _ => by kernel_rfl, isNought_c (asM a) _⟩) fun _ => congrArg Value.bool ht414) ?_
      refine .o1 (tk rfl rfl fun _ w hn k => ⟨_, v_move rfl (k.eq1 1 53 rfl), rfl⟩) ?_
      refine .o1 (sk rfl rfl rfl (fun _ _ _ k => k.eq1 2 54 rfl) (fun _ => rfl)) ?_
      refine .o1 (sk rfl rfl rfl (fun _ _ _ k => k.eq1 2 54 rfl) (fun _ => rfl)) ?_
      refine .o1 (tk rfl rfl fun _ w hn k => ⟨_, v_pickT rfl (k.eq1 2 54 rfl) rfl, rfl⟩) ?_
      refine .o1 (tk rfl rfl fun _ w hn k => ⟨_, v_assign rfl (k.eq1 5 57 rfl), rfl⟩) ?_
      exact .nil
    intro a486 w487 hn488 ha489
    have hs490 := ha489.size.trans hs474
    have hd491 := ha489.defers.trans hd475
    have h492 := ha489.fx 2 h476
    have h493 := ha489.fx 3 h477
    have h494 := ha489.fx 4 h478
    have h495 := ha489.fx 5 h479
    have h496 := ha489.fx 6 h480
    have h497 := ha489.ge 6 51 rfl
    have hb498 := hb482.new_ hn488
    have hb499 := hb483.new_ hn488
    have hb500 := hb484.new_ hn488
    have hN501 := hN485.transNew hn488
    clear hs474 hd475 h476 h477 h478 h479 h480 h481 hb482 hb483 hb484 hN485 ha489 hn488
    refine st_nil ?_
    refine hK _ _ ?_
    clear hK K
    refine wp_cond_true h497 ?_
    refine wp_seq_k fun K hK => ?_
    refine wp_g0 [true, true, false, false] [(2, false), (3, true)] 80
      [ve (.bool ((belowB (asM a)) != (belowB (asM b)))),
       ve (nv (noughtM ((belowB (asM a)) != (belowB (asM b))))),
       vt,
       vt] hs490 (.eq (.eq (.tt (.tt (.nil))))) ?_ ?_
    · skip
      refine .o1 (tk rfl rfl fun _ w hn k => ⟨_, v_move rfl (k.fx 6 h496), rfl⟩) ?_
      refine .o1 (ck rfl rfl rfl (fun _ w hn k => ⟨#[.bool ((belowB (asM a)) != (belowB (asM b)))], args1 (k.eq1 0 58 rfl), fun _ => by kernel_rfl, nought_c ((belowB (asM a)) != (belowB (asM b))) _⟩) fun _ => rfl) ?_
      refine .off ?_
      refine .off ?_
      exact .nil
    intro a502 w503 hn504 ha505
    have hs506 := ha505.size.trans hs490
    have hd507 := ha505.defers.trans hd491
    have h508 := ha505.fx 2 h492
    have h509 := ha505.fx 3 h493
    have h510 := ha505.fx 4 h494
    have h511 := ha505.fx 5 h495
    have h512 := ha505.fx 6 h496
    have h513 := ha505.ge 1 59 rfl
    have hb514 := hb498.new_ hn504
    have hb515 := hb499.new_ hn504
    have hb516 := hb500.new_ hn504
    have hN517 := hN501.transNew hn504
    clear hs490 hd491 h492 h493 h494 h495 h496 h497 hb498 hb499 hb500 hN501 ha505 hn504
    obtain ⟨w518, -, hst519, hb520, hu521, hf522⟩ := s_two (v0 := iv ((noughtM ((belowB (asM a)) != (belowB (asM b)))).k)) (v1 := iv ((noughtM ((belowB (asM a)) != (belowB (asM b)))).n)) Tryd.sizeOf23 rfl rfl rfl hb516
    refine st_act rfl rfl fun K523 hL524 => a_store' rfl h510 h513 hst519 (hL524 _ _ trivial ?_)
    have hb525 := hf522 _ _ _ (hne21) hb514
    have hb526 := hf522 _ _ _ (hne22) hb515
    have hN527 := hN517.trans hu521 (fun k hk hkb => by subst hkb; omega)
    clear hb516 hst519 K523 hL524 hN517 hb514 hb515 hu521 hf522
    refine st_take rfl rfl (y_assign (v := .bool true) rfl rfl) rfl ?_
    obtain ⟨a528, ha529⟩ : ∃ a', a' = a502.put (some 5) (.bool true) := ⟨_, rfl⟩
    have hs530 : a528.tmps.size = 80 := by rw [ha529, put_size]; exact hs506
    have hd531 : a528.defers = [] := by rw [ha529, put_defers]; exact hd507
    have h532 : a528.eval (.tmp 2) = pv q8 := by rw [ha529, put_ne _ _ _ _ (by decide)]; exact h508
    have h533 : a528.eval (.tmp 3) = pv q12 := by rw [ha529, put_ne _ _ _ _ (by decide)]; exact h509
    have h534 : a528.eval (.tmp 4) = pv q16 := by rw [ha529, put_ne _ _ _ _ (by decide)]; exact h510
    have h535 : a528.eval (.tmp 6) = .bool ((belowB (asM a)) != (belowB (asM b))) := by rw [ha529, put_ne _ _ _ _ (by decide)]; exact h512
    have h536 : a528.eval (.tmp 59) = nv (noughtM ((belowB (asM a)) != (belowB (asM b)))) := by rw [ha529, put_ne _ _ _ _ (by decide)]; exact h513
    have h537 : a528.eval (.tmp 5) = .bool true := by rw [ha529]; exact put_same _ _ _ (by rw [hs506]; decide)
    show stepsTo _ _ _ _ _ (a502.put (some 5) (.bool true)) _
    rw [← ha529]
    clear ha529 hs506 hd507 h508 h509 h510 h511 h512 h513
    refine st_nil ?_
    clear h536
    refine hK _ _ ?_
    clear hK K
    refine wp_ret (ret_k hd531 (v := .tuple #[nv (noughtM ((belowB (asM a)) != (belowB (asM b)))), .bool true]) (res_ct rfl h534 h537 (l_two Tryd.isAgg23 Tryd.sizeOf23 hb520)) ?_)
    refine ⟨?_, hN527⟩
    show Ending.returned (.tuple #[nv (noughtM ((belowB (asM a)) != (belowB (asM b)))), .bool true]) = Ending.returned (.tuple #[nv ((mulM a b).1), .bool ((mulM a b).2)])
    first | rfl | (simp [mulM, mulA, ht78, ht131, ht184, ht414, ht431])
  refine wp_g0 [true, true, true, true, true, true, true, true, true, true, true, true, true, true, true, true, true, true, true, true, true, true, true] [] 80
    [ve (nv (asM a)),
     ve (.bool false),
     ve (.bool false),
     ve (nv (asM b)),
     ve (.bool false),
     ve (.bool false),
     ve (.bool false),
     ve (nv (asM a)),
     ve (.bool false),
     ve (.bool false),
     ve undef,
     ve undef,
     ve (.bool false),
     ve (.bool false),
     ve (.bool false),
     ve (nv (asM a)),
     ve (.bool false),
     ve (.bool false),
     ve undef,
     ve undef,
     ve (.bool false),
     ve (.bool false),
     ve (.bool false)] hs67 (.eq (.eq (.eq (.eq (.eq (.eq (.eq (.eq (.eq (.eq (.eq (.eq (.eq (.eq (.eq (.eq (.eq (.eq (.eq (.eq (.eq (.eq (.eq (.nil)))))))))))))))))))))))) ?_ ?_
  · skip
    refine .o1 (tk rfl rfl fun _ w hn k => ⟨_, v_load rfl (k.fx 2 h69) (l_two Tryd.isAgg23 Tryd.sizeOf23 (hb74.new_ hn)), rfl⟩) ?_
    refine .o1 (ck rfl rfl rfl (fun _ w hn k => ⟨#[nv (asM a)], args1 (k.eq1 0 19 rfl), fun _ => by kernel_rfl, isNaN_c (asM a) _⟩) fun _ => congrArg Value.bool ht78) ?_
    refine .o1 (tk rfl rfl fun _ w hn k => ⟨_, v_move rfl (k.eq1 1 20 rfl), rfl⟩) ?_
    refine .o1 (tg rfl rfl rfl (fun _ _ k => k.eq1 2 21 rfl) fun _ w hn k => ⟨_, v_load rfl (k.fx 3 h70) (l_two Tryd.isAgg23 Tryd.sizeOf23 (hb75.new_ hn)), rfl⟩) ?_
    refine .o1 (cg rfl rfl rfl (fun _ _ k => k.eq1 2 21 rfl) rfl (fun _ w hn k => ⟨#[nv (asM b)], args1 (k.eq1 3 22 rfl), fun _ => by kernel_rfl, isNaN_c (asM b) _⟩) fun _ => congrArg Value.bool ht131) ?_
    refine .o1 (tk rfl rfl fun _ w hn k => ⟨_, v_pickF rfl (k.eq1 2 21 rfl) (k.eq1 4 23 rfl), rfl⟩) ?_
    refine .o1 (tk rfl rfl fun _ w hn k => ⟨_, v_move rfl (k.eq1 5 24 rfl), rfl⟩) ?_
    refine .o1 (tg rfl rfl rfl (fun _ _ k => k.eq1 6 25 rfl) fun _ w hn k => ⟨_, v_load rfl (k.fx 2 h69) (l_two Tryd.isAgg23 Tryd.sizeOf23 (hb74.new_ hn)), rfl⟩) ?_
    refine .o1 (cg rfl rfl rfl (fun _ _ k => k.eq1 6 25 rfl) rfl (fun _ w hn k => ⟨#[nv (asM a)], args1 (k.eq1 7 26 rfl), fun _ => by kernel_rfl, isInf_c (asM a) _⟩) fun _ => congrArg Value.bool ht184) ?_
    refine .o1 (tg rfl rfl rfl (fun _ _ k => k.eq1 6 25 rfl) fun _ w hn k => ⟨_, v_move rfl (k.eq1 8 27 rfl), rfl⟩) ?_
    refine .o1 (sk rfl rfl rfl (fun _ _ _ k => k.eq1 9 28 rfl) (fun _ => rfl)) ?_
    refine .o1 (sk rfl rfl rfl (fun _ _ _ k => k.eq1 9 28 rfl) (fun _ => rfl)) ?_
    refine .o1 (tg rfl rfl rfl (fun _ _ k => k.eq1 6 25 rfl) fun _ w hn k => ⟨_, v_pickF rfl (k.eq1 9 28 rfl) rfl, rfl⟩) ?_
    refine .o1 (tk rfl rfl fun _ w hn k => ⟨_, v_pickF rfl (k.eq1 6 25 rfl) (k.eq1 12 31 rfl), rfl⟩) ?_
    refine .o1 (tk rfl rfl fun _ w hn k => ⟨_, v_move rfl (k.eq1 13 32 rfl), rfl⟩) ?_
    refine .o1 (tg rfl rfl rfl (fun _ _ k => k.eq1 14 33 rfl) fun _ w hn k => ⟨_, v_load rfl (k.fx 2 h69) (l_two Tryd.isAgg23 Tryd.sizeOf23 (hb74.new_ hn)), rfl⟩) ?_
    refine .o1 (cg rfl rfl rfl (fun _ _ k => k.eq1 14 33 rfl) rfl (fun _ w hn k => ⟨#[nv (asM a)], args1 (k.eq1 15 34 rfl), fun _ => by kernel_rfl, isNought_c (asM a) _⟩) fun _ => congrArg Value.bool ht414) ?_
    refine .o1 (tg rfl rfl rfl (fun _ _ k => k.eq1 14 33 rfl) fun _ w hn k => ⟨_, v_move rfl (k.eq1 16 35 rfl), rfl⟩) ?_
    refine .o1 (sk rfl rfl rfl (fun _ _ _ k => k.eq1 17 36 rfl) (fun _ => rfl)) ?_
    refine .o1 (sk rfl rfl rfl (fun _ _ _ k => k.eq1 17 36 rfl) (fun _ => rfl)) ?_
    refine .o1 (tg rfl rfl rfl (fun _ _ k => k.eq1 14 33 rfl) fun _ w hn k => ⟨_, v_pickF rfl (k.eq1 17 36 rfl) rfl, rfl⟩) ?_
    refine .o1 (tk rfl rfl fun _ w hn k => ⟨_, v_pickF rfl (k.eq1 14 33 rfl) (k.eq1 20 39 rfl), rfl⟩) ?_
    refine .o1 (tk rfl rfl fun _ w hn k => ⟨_, v_assign rfl (k.eq1 21 40 rfl), rfl⟩) ?_
    exact .nil
  intro a538 w539 hn540 ha541
  have hs542 := ha541.size.trans hs67
  have hd543 := ha541.defers.trans hd68
  have h544 := ha541.fx 2 h69
  have h545 := ha541.fx 3 h70
  have h546 := ha541.fx 4 h71
  have h547 := ha541.fx 5 h72
  have h548 := ha541.fx 6 h73
  have h549 := ha541.ge 22 18 rfl
  have hb550 := hb74.new_ hn540
  have hb551 := hb75.new_ hn540
  have hb552 := hb76.new_ hn540
  have hN553 := hN77.transNew hn540
  clear hs67 hd68 h69 h70 h71 h72 h73 hb74 hb75 hb76 hN77 ha541 hn540
  refine st_nil ?_
  refine hK _ _ ?_
  clear hK K
  refine wp_cond_false h549 ?_
  refine wp_seq_k fun K hK => ?_
  refine wp_g0 [true, true, true, true, true, true, true] [] 80
    [ve (nv (asM a)),
     ve (.bool false),
     ve (.bool false),
     ve (nv (asM b)),
     ve (.bool (infB ((asM b).k))),
     ve (.bool (infB ((asM b).k))),
     ve (.bool (infB ((asM b).k)))] hs542 (.eq (.eq (.eq (.eq (.eq (.eq (.eq (.nil)))))))) ?_ ?_
  · skip
    refine .o1 (tk rfl rfl fun _ w hn k => ⟨_, v_load rfl (k.fx 2 h544) (l_two Tryd.isAgg23 Tryd.sizeOf23 (hb550.new_ hn)), rfl⟩) ?_
    refine .o1 (ck rfl rfl rfl (fun _ w hn k => ⟨#[nv (asM a)], args1 (k.eq1 0 43 rfl), fun _ => by kernel_rfl, isInf_c (asM a) _⟩) fun _ => congrArg Value.bool ht184) ?_
    refine .o1 (tk rfl rfl fun _ w hn k => ⟨_, v_move rfl (k.eq1 1 44 rfl), rfl⟩) ?_
    refine .o1 (tg rfl rfl rfl (fun _ _ k => k.eq1 2 45 rfl) fun _ w hn k => ⟨_, v_load rfl (k.fx 3 h545) (l_two Tryd.isAgg23 Tryd.sizeOf23 (hb551.new_ hn)), rfl⟩) ?_
    refine .o1 (cg rfl rfl rfl (fun _ _ k => k.eq1 2 45 rfl) rfl (fun _ w hn k => ⟨#[nv (asM b)], args1 (k.eq1 3 46 rfl), fun _ => by kernel_rfl, isInf_c (asM b) _⟩) fun _ => rfl) ?_
    refine .o1 (tk rfl rfl fun _ w hn k => ⟨_, v_pickF rfl (k.eq1 2 45 rfl) (k.eq1 4 47 rfl), rfl⟩) ?_
    refine .o1 (tk rfl rfl fun _ w hn k => ⟨_, v_assign rfl (k.eq1 5 48 rfl), rfl⟩) ?_
    exact .nil
  intro a554 w555 hn556 ha557
  have hs558 := ha557.size.trans hs542
  have hd559 := ha557.defers.trans hd543
  have h560 := ha557.fx 2 h544
  have h561 := ha557.fx 3 h545
  have h562 := ha557.fx 4 h546
  have h563 := ha557.fx 5 h547
  have h564 := ha557.fx 6 h548
  have h565 := ha557.ge 6 42 rfl
  have hb566 := hb550.new_ hn556
  have hb567 := hb551.new_ hn556
  have hb568 := hb552.new_ hn556
  have hN569 := hN553.transNew hn556
  clear hs542 hd543 h544 h545 h546 h547 h548 h549 hb550 hb551 hb552 hN553 ha557 hn556
  refine st_nil ?_
  refine hK _ _ ?_
  clear hK K
  rcases Bool.eq_false_or_eq_true (infB ((asM b).k)) with ht570 | ht570
  · skip
    have hv571 : a554.eval (.tmp 42) = .bool true := h565.trans (congrArg Value.bool ht570)
    clear h565
    refine wp_cond_true hv571 ?_
    refine wp_seq_k fun K hK => ?_
    refine wp_g0 [true, true, false, false] [(2, false), (3, true)] 80
      [ve (.bool ((belowB (asM a)) != (belowB (asM b)))),
       ve (nv (infM ((belowB (asM a)) != (belowB (asM b))))),
       vt,
       vt] hs558 (.eq (.eq (.tt (.tt (.nil))))) ?_ ?_
    · skip
      refine .o1 (tk rfl rfl fun _ w hn k => ⟨_, v_move rfl (k.fx 6 h564), rfl⟩) ?_
      refine .o1 (ck rfl rfl rfl (fun _ w hn k => ⟨#[.bool ((belowB (asM a)) != (belowB (asM b)))], args1 (k.eq1 0 49 rfl), fun _ => by kernel_rfl, inf_c ((belowB (asM a)) != (belowB (asM b))) _⟩) fun _ => rfl) ?_
      refine .off ?_
      refine .off ?_
      exact .nil
    intro a572 w573 hn574 ha575
    have hs576 := ha575.size.trans hs558
    have hd577 := ha575.defers.trans hd559
    have h578 := ha575.fx 2 h560
    have h579 := ha575.fx 3 h561
    have h580 := ha575.fx 4 h562
    have h581 := ha575.fx 5 h563
    have h582 := ha575.fx 6 h564
    have h583 := ha575.ge 1 50 rfl
    have hb584 := hb566.new_ hn574
    have hb585 := hb567.new_ hn574
    have hb586 := hb568.new_ hn574
    have hN587 := hN569.transNew hn574
    clear hs558 hd559 h560 h561 h562 h563 h564 hv571 hb566 hb567 hb568 hN569 ha575 hn574
    obtain ⟨w588, -, hst589, hb590, hu591, hf592⟩ := s_two (v0 := iv ((infM ((belowB (asM a)) != (belowB (asM b)))).k)) (v1 := iv ((infM ((belowB (asM a)) != (belowB (asM b)))).n)) Tryd.sizeOf23 rfl rfl rfl hb586
    refine st_act rfl rfl fun K593 hL594 => a_store' rfl h580 h583 hst589 (hL594 _ _ trivial ?_)
    have hb595 := hf592 _ _ _ (hne21) hb584
    have hb596 := hf592 _ _ _ (hne22) hb585
    have hN597 := hN587.trans hu591 (fun k hk hkb => by subst hkb; omega)
    clear hb586 hst589 K593 hL594 hN587 hb584 hb585 hu591 hf592
    refine st_take rfl rfl (y_assign (v := .bool true) rfl rfl) rfl ?_
    obtain ⟨a598, ha599⟩ : ∃ a', a' = a572.put (some 5) (.bool true) := ⟨_, rfl⟩
    have hs600 : a598.tmps.size = 80 := by rw [ha599, put_size]; exact hs576
    have hd601 : a598.defers = [] := by rw [ha599, put_defers]; exact hd577
    have h602 : a598.eval (.tmp 2) = pv q8 := by rw [ha599, put_ne _ _ _ _ (by decide)]; exact h578
    have h603 : a598.eval (.tmp 3) = pv q12 := by rw [ha599, put_ne _ _ _ _ (by decide)]; exact h579
    have h604 : a598.eval (.tmp 4) = pv q16 := by rw [ha599, put_ne _ _ _ _ (by decide)]; exact h580
    have h605 : a598.eval (.tmp 6) = .bool ((belowB (asM a)) != (belowB (asM b))) := by rw [ha599, put_ne _ _ _ _ (by decide)]; exact h582
    have h606 : a598.eval (.tmp 50) = nv (infM ((belowB (asM a)) != (belowB (asM b)))) := by rw [ha599, put_ne _ _ _ _ (by decide)]; exact h583
    have h607 : a598.eval (.tmp 5) = .bool true := by rw [ha599]; exact put_same _ _ _ (by rw [hs576]; decide)
    show stepsTo _ _ _ _ _ (a572.put (some 5) (.bool true)) _
    rw [← ha599]
    clear ha599 hs576 hd577 h578 h579 h580 h581 h582 h583
    refine st_nil ?_
    clear h606
    refine hK _ _ ?_
    clear hK K
    refine wp_ret (ret_k hd601 (v := .tuple #[nv (infM ((belowB (asM a)) != (belowB (asM b)))), .bool true]) (res_ct rfl h604 h607 (l_two Tryd.isAgg23 Tryd.sizeOf23 hb590)) ?_)
    refine ⟨?_, hN597⟩
    show Ending.returned (.tuple #[nv (infM ((belowB (asM a)) != (belowB (asM b)))), .bool true]) = Ending.returned (.tuple #[nv ((mulM a b).1), .bool ((mulM a b).2)])
    first | rfl | (simp [mulM, mulA, ht78, ht131, ht184, ht414, ht570])
  have hv608 : a554.eval (.tmp 42) = .bool false := h565.trans (congrArg Value.bool ht570)
  clear h565
  refine wp_cond_false hv608 ?_
  refine wp_seq_k fun K hK => ?_
  refine wp_g0 [true, true, true, true, true, true, true] [] 80
    [ve (nv (asM a)),
     ve (.bool false),
     ve (.bool false),
     ve (nv (asM b)),
     ve (.bool (noughtB (asM b))),
     ve (.bool (noughtB (asM b))),
     ve (.bool (noughtB (asM b)))] hs558 (.eq (.eq (.eq (.eq (.eq (.eq (.eq (.nil)))))))) ?_ ?_
  · skip
    refine .o1 (tk rfl rfl fun _ w hn k => ⟨_, v_load rfl (k.fx 2 h560) (l_two Tryd.isAgg23 Tryd.sizeOf23 (hb566.new_ hn)), rfl⟩) ?_
    refine .o1 (ck rfl rfl rfl (fun _ w hn k => ⟨#[nv (asM a)], args1 (k.eq1 0 52 rfl), fun _ => by kernel_rfl, isNought_c (asM a) _⟩) fun _ => congrArg Value.bool ht414) ?_
    refine .o1 (tk rfl rfl fun _ w hn k => ⟨_, v_move rfl (k.eq1 1 53 rfl), rfl⟩) ?_
    refine .o1 (tg rfl rfl rfl (fun _ _ k => k.eq1 2 54 rfl) fun _ w hn k => ⟨_, v_load rfl (k.fx 3 h561) (l_two Tryd.isAgg23 Tryd.sizeOf23 (hb567.new_ hn)), rfl⟩) ?_
    refine .o1 (cg rfl rfl rfl (fun _ _ k => k.eq1 2 54 rfl) rfl (fun _ w hn k => ⟨#[nv (asM b)], args1 (k.eq1 3 55 rfl), fun _ => by kernel_rfl, isNought_c (asM b) _⟩) fun _ => rfl) ?_
    refine .o1 (tk rfl rfl fun _ w hn k => ⟨_, v_pickF rfl (k.eq1 2 54 rfl) (k.eq1 4 56 rfl), rfl⟩) ?_
    refine .o1 (tk rfl rfl fun _ w hn k => ⟨_, v_assign rfl (k.eq1 5 57 rfl), rfl⟩) ?_
    exact .nil
  intro a609 w610 hn611 ha612
  have hs613 := ha612.size.trans hs558
  have hd614 := ha612.defers.trans hd559
  have h615 := ha612.fx 2 h560
  have h616 := ha612.fx 3 h561
  have h617 := ha612.fx 4 h562
  have h618 := ha612.fx 5 h563
  have h619 := ha612.fx 6 h564
  have h620 := ha612.ge 6 51 rfl
  have hb621 := hb566.new_ hn611
  have hb622 := hb567.new_ hn611
  have hb623 := hb568.new_ hn611
  have hN624 := hN569.transNew hn611
  clear hs558 hd559 h560 h561 h562 h563 h564 hv608 hb566 hb567 hb568 hN569 ha612 hn611
  refine st_nil ?_
  refine hK _ _ ?_
  clear hK K
  rcases Bool.eq_false_or_eq_true (noughtB (asM b)) with ht625 | ht625
  · skip
    have hv626 : a609.eval (.tmp 51) = .bool true := h620.trans (congrArg Value.bool ht625)
    clear h620
    refine wp_cond_true hv626 ?_
    refine wp_seq_k fun K hK => ?_
    refine wp_g0 [true, true, false, false] [(2, false), (3, true)] 80
      [ve (.bool ((belowB (asM a)) != (belowB (asM b)))),
       ve (nv (noughtM ((belowB (asM a)) != (belowB (asM b))))),
       vt,
       vt] hs613 (.eq (.eq (.tt (.tt (.nil))))) ?_ ?_
    · skip
      refine .o1 (tk rfl rfl fun _ w hn k => ⟨_, v_move rfl (k.fx 6 h619), rfl⟩) ?_
      refine .o1 (ck rfl rfl rfl (fun _ w hn k => ⟨#[.bool ((belowB (asM a)) != (belowB (asM b)))], args1 (k.eq1 0 58 rfl), fun _ => by kernel_rfl, nought_c ((belowB (asM a)) != (belowB (asM b))) _⟩) fun _ => rfl) ?_
      refine .off ?_
      refine .off ?_
      exact .nil
    intro a627 w628 hn629 ha630
    have hs631 := ha630.size.trans hs613
    have hd632 := ha630.defers.trans hd614
    have h633 := ha630.fx 2 h615
    have h634 := ha630.fx 3 h616
    have h635 := ha630.fx 4 h617
    have h636 := ha630.fx 5 h618
    have h637 := ha630.fx 6 h619
    have h638 := ha630.ge 1 59 rfl
    have hb639 := hb621.new_ hn629
    have hb640 := hb622.new_ hn629
    have hb641 := hb623.new_ hn629
    have hN642 := hN624.transNew hn629
    clear hs613 hd614 h615 h616 h617 h618 h619 hv626 hb621 hb622 hb623 hN624 ha630 hn629
    obtain ⟨w643, -, hst644, hb645, hu646, hf647⟩ := s_two (v0 := iv ((noughtM ((belowB (asM a)) != (belowB (asM b)))).k)) (v1 := iv ((noughtM ((belowB (asM a)) != (belowB (asM b)))).n)) Tryd.sizeOf23 rfl rfl rfl hb641
    refine st_act rfl rfl fun K648 hL649 => a_store' rfl h635 h638 hst644 (hL649 _ _ trivial ?_)
    have hb650 := hf647 _ _ _ (hne21) hb639
    have hb651 := hf647 _ _ _ (hne22) hb640
    have hN652 := hN642.trans hu646 (fun k hk hkb => by subst hkb; omega)
    clear hb641 hst644 K648 hL649 hN642 hb639 hb640 hu646 hf647
    refine st_take rfl rfl (y_assign (v := .bool true) rfl rfl) rfl ?_
    obtain ⟨a653, ha654⟩ : ∃ a', a' = a627.put (some 5) (.bool true) := ⟨_, rfl⟩
    have hs655 : a653.tmps.size = 80 := by rw [ha654, put_size]; exact hs631
    have hd656 : a653.defers = [] := by rw [ha654, put_defers]; exact hd632
    have h657 : a653.eval (.tmp 2) = pv q8 := by rw [ha654, put_ne _ _ _ _ (by decide)]; exact h633
    have h658 : a653.eval (.tmp 3) = pv q12 := by rw [ha654, put_ne _ _ _ _ (by decide)]; exact h634
    have h659 : a653.eval (.tmp 4) = pv q16 := by rw [ha654, put_ne _ _ _ _ (by decide)]; exact h635
    have h660 : a653.eval (.tmp 6) = .bool ((belowB (asM a)) != (belowB (asM b))) := by rw [ha654, put_ne _ _ _ _ (by decide)]; exact h637
    have h661 : a653.eval (.tmp 59) = nv (noughtM ((belowB (asM a)) != (belowB (asM b)))) := by rw [ha654, put_ne _ _ _ _ (by decide)]; exact h638
    have h662 : a653.eval (.tmp 5) = .bool true := by rw [ha654]; exact put_same _ _ _ (by rw [hs631]; decide)
    show stepsTo _ _ _ _ _ (a627.put (some 5) (.bool true)) _
    rw [← ha654]
    clear ha654 hs631 hd632 h633 h634 h635 h636 h637 h638
    refine st_nil ?_
    clear h661
    refine hK _ _ ?_
    clear hK K
    refine wp_ret (ret_k hd656 (v := .tuple #[nv (noughtM ((belowB (asM a)) != (belowB (asM b)))), .bool true]) (res_ct rfl h659 h662 (l_two Tryd.isAgg23 Tryd.sizeOf23 hb645)) ?_)
    refine ⟨?_, hN652⟩
    show Ending.returned (.tuple #[nv (noughtM ((belowB (asM a)) != (belowB (asM b)))), .bool true]) = Ending.returned (.tuple #[nv ((mulM a b).1), .bool ((mulM a b).2)])
    first | rfl | (simp [mulM, mulA, ht78, ht131, ht184, ht414, ht570, ht625])
  have hv663 : a609.eval (.tmp 51) = .bool false := h620.trans (congrArg Value.bool ht625)
  clear h620
  refine wp_cond_false hv663 ?_
  refine wp_skip ?_
  refine hK _ _ ?_
  clear hK K
  refine wp_seq_k fun K hK => ?_
  have hw_a := whole_of (a := a) ht78 ht184 ht414
  have hsz_a := size_bd a
  have hnz_a := size_nz hw_a.2
  have hw_b := whole_of (a := b) ht131 ht570 ht625
  have hsz_b := size_bd b
  have hnz_b := size_nz hw_b.2
  refine wp_g0 [true, true, true, true, true, true, true, true, true, true, true, true] [] 80
    [ve (.pointer (some ⟨q8, 1, none⟩)),
     ve (iv ((asM a).n)),
     ve (.int .u64 (sizeI ((asM a).n))),
     ve (.pointer (some ⟨q12, 1, none⟩)),
     ve (iv ((asM b).n)),
     ve (.int .u64 (sizeI ((asM b).n))),
     ve (.tuple #[.int .u64 ((sizeI ((asM a).n)) * (sizeI ((asM b).n)) / 18446744073709551616), .int .u64 ((sizeI ((asM a).n)) * (sizeI ((asM b).n)) % 18446744073709551616)]),
     ve (.tuple #[.int .u64 ((sizeI ((asM a).n)) * (sizeI ((asM b).n)) / 18446744073709551616), .int .u64 ((sizeI ((asM a).n)) * (sizeI ((asM b).n)) % 18446744073709551616)]),
     ve (.int .u64 ((sizeI ((asM a).n)) * (sizeI ((asM b).n)) / 18446744073709551616)),
     ve (.int .u64 ((sizeI ((asM a).n)) * (sizeI ((asM b).n)) % 18446744073709551616)),
     ve (.int .u64 ((sizeI ((asM a).n)) * (sizeI ((asM b).n)) / 18446744073709551616)),
     ve (.int .u64 ((sizeI ((asM a).n)) * (sizeI ((asM b).n)) % 18446744073709551616))] hs613 (.eq (.eq (.eq (.eq (.eq (.eq (.eq (.eq (.eq (.eq (.eq (.eq (.nil))))))))))))) ?_ ?_
  · skip
    refine .o1 (tk rfl rfl fun _ w hn k => ⟨_, v_field rfl (k.fx 2 h615) (fun w => rfl), rfl⟩) ?_
    refine .o1 (tk rfl rfl fun _ w hn k => ⟨_, v_load rfl (k.eq1 0 61 rfl) (l_one Tryd.isAgg3 ((hb621.new_ hn).cell 1)), rfl⟩) ?_
    refine .o1 (ck rfl rfl rfl (fun _ w hn k => ⟨#[iv ((asM a).n)], args1 (k.eq1 1 62 rfl), fun _ => by kernel_rfl, size_c ((asM a).n) _ (by omega)⟩) fun _ => rfl) ?_
    refine .o1 (tk rfl rfl fun _ w hn k => ⟨_, v_field rfl (k.fx 3 h616) (fun w => rfl), rfl⟩) ?_
    refine .o1 (tk rfl rfl fun _ w hn k => ⟨_, v_load rfl (k.eq1 3 64 rfl) (l_one Tryd.isAgg3 ((hb622.new_ hn).cell 1)), rfl⟩) ?_
    refine .o1 (ck rfl rfl rfl (fun _ w hn k => ⟨#[iv ((asM b).n)], args1 (k.eq1 4 65 rfl), fun _ => by kernel_rfl, size_c ((asM b).n) _ (by omega)⟩) fun _ => rfl) ?_
    refine .o1 (ck rfl rfl rfl (fun _ w hn k => ⟨#[.int .u64 (sizeI ((asM a).n)), .int .u64 (sizeI ((asM b).n))], args2 (k.eq1 2 63 rfl) (k.eq1 5 66 rfl), fun _ => by kernel_rfl, mul64_c (sizeI ((asM a).n)) (sizeI ((asM b).n)) _ (by omega) (by omega)⟩) fun _ => rfl) ?_
    refine .o1 (tk rfl rfl fun _ w hn k => ⟨_, v_move rfl (k.eq1 6 67 rfl), rfl⟩) ?_
    refine .o1 (tk rfl rfl fun _ w hn k => ⟨_, v_extract rfl (k.eq1 7 60 rfl) rfl, rfl⟩) ?_
    refine .o1 (tk rfl rfl fun _ w hn k => ⟨_, v_extract rfl (k.eq1 7 60 rfl) rfl, rfl⟩) ?_
    refine .o1 (tk rfl rfl fun _ w hn k => ⟨_, v_assign rfl (k.eq1 8 68 rfl), rfl⟩) ?_
    refine .o1 (tk rfl rfl fun _ w hn k => ⟨_, v_assign rfl (k.eq1 9 69 rfl), rfl⟩) ?_
    exact .nil
  intro a664 w665 hn666 ha667
  have hs668 := ha667.size.trans hs613
  have hd669 := ha667.defers.trans hd614
  have h670 := ha667.fx 4 h617
  have h671 := ha667.fx 5 h618
  have h672 := ha667.fx 6 h619
  have h673 := ha667.ge 10 7 rfl
  have h674 := ha667.ge 11 8 rfl
  have hb675 := hb623.new_ hn666
  have hN676 := hN624.transNew hn666
  clear hs613 hd614 h615 h616 h617 h618 h619 hv663 hb621 hq23 hb622 hq24 hb623 hN624 ha667 hn666
  refine st_nil ?_
  refine hK _ _ ?_
  clear hK K
  refine wp_seq_k fun K hK => ?_
  refine wp_seq_k fun K hK => ?_
  rcases Bool.eq_false_or_eq_true (decide (((sizeI ((asM a).n)) * (sizeI ((asM b).n)) / 18446744073709551616) ≤ 0)) with ht677 | ht677
  · skip
    have ht677d := of_decide_eq_true ht677
    rcases Bool.eq_false_or_eq_true (decide (((sizeI ((asM a).n)) * (sizeI ((asM b).n)) % 18446744073709551616) ≤ 9007199254740991)) with ht678 | ht678
    · skip
      have ht678d := of_decide_eq_true ht678
      have hlo : 0 ≤ sizeI (asM a).n * sizeI (asM b).n % 18446744073709551616 := by omega
      refine wp_g0 [true, true, true, true, true, true] [] 80
        [ve (.int .u64 ((sizeI ((asM a).n)) * (sizeI ((asM b).n)) / 18446744073709551616)),
         ve (.bool false),
         ve (.bool false),
         ve (.int .u64 ((sizeI ((asM a).n)) * (sizeI ((asM b).n)) % 18446744073709551616)),
         ve (.bool false),
         ve (.bool false)] hs668 (.eq (.eq (.eq (.eq (.eq (.eq (.nil))))))) ?_ ?_
      · skip
        refine .o1 (tk rfl rfl fun _ w hn k => ⟨_, v_move rfl (k.fx 7 h673), rfl⟩) ?_
        refine .o1 (tk rfl rfl fun _ w hn k => ⟨_, v_bin rfl (k.eq1 0 70 rfl) rfl (fun _ => rfl) (r_gtrK ht677), rfl⟩) ?_
        refine .o1 (tk rfl rfl fun _ w hn k => ⟨_, v_move rfl (k.eq1 1 71 rfl), rfl⟩) ?_
        refine .o1 (tg rfl rfl rfl (fun _ _ k => k.eq1 2 72 rfl) fun _ w hn k => ⟨_, v_move rfl (k.fx 8 h674), rfl⟩) ?_
        refine .o1 (tg rfl rfl rfl (fun _ _ k => k.eq1 2 72 rfl) fun _ w hn k => ⟨_, v_bin rfl (k.eq1 3 73 rfl) rfl (fun _ => rfl) (r_gtrK ht678), rfl⟩) ?_
        refine .o1 (tk rfl rfl fun _ w hn k => ⟨_, v_pickF rfl (k.eq1 2 72 rfl) (k.eq1 4 74 rfl), rfl⟩) ?_
        exact .nil
      intro a679 w680 hn681 ha682
      have hs683 := ha682.size.trans hs668
      have hd684 := ha682.defers.trans hd669
      have h685 := ha682.fx 4 h670
      have h686 := ha682.fx 5 h671
      have h687 := ha682.fx 6 h672
      have h688 := ha682.fx 8 h674
      have h689 := ha682.ge 5 75 rfl
      have hb690 := hb675.new_ hn681
      have hN691 := hN676.transNew hn681
      clear hs668 hd669 h670 h671 h672 h673 h674 hb675 hN676 ha682 hn681
      refine st_nil ?_
      refine hK _ _ ?_
      clear hK K
      refine wp_cond_false h689 ?_
      refine wp_skip ?_
      refine hK _ _ ?_
      clear hK K
      refine wp_seq_k fun K hK => ?_
      refine wp_g0 [true, true, true, false, false] [(3, false), (4, true)] 80
        [ve (.int .u64 ((sizeI ((asM a).n)) * (sizeI ((asM b).n)) % 18446744073709551616)),
         ve (.bool ((belowB (asM a)) != (belowB (asM b)))),
         ve (nv (signedM ((sizeI ((asM a).n)) * (sizeI ((asM b).n)) % 18446744073709551616) ((belowB (asM a)) != (belowB (asM b))))),
         vt,
         vt] hs683 (.eq (.eq (.eq (.tt (.tt (.nil)))))) ?_ ?_
      · skip
        refine .o1 (tk rfl rfl fun _ w hn k => ⟨_, v_move rfl (k.fx 8 h688), rfl⟩) ?_
        refine .o1 (tk rfl rfl fun _ w hn k => ⟨_, v_move rfl (k.fx 6 h687), rfl⟩) ?_
        refine .o1 (ck rfl rfl rfl (fun _ w hn k => ⟨#[.int .u64 ((sizeI ((asM a).n)) * (sizeI ((asM b).n)) % 18446744073709551616), .bool ((belowB (asM a)) != (belowB (asM b)))], args2 (k.eq1 0 77 rfl) (k.eq1 1 78 rfl), fun _ => by kernel_rfl, signed_c ((sizeI ((asM a).n)) * (sizeI ((asM b).n)) % 18446744073709551616) ((belowB (asM a)) != (belowB (asM b))) _ (by omega)⟩) fun _ => rfl) ?_
        refine .off ?_
        refine .off ?_
        exact .nil
      intro a692 w693 hn694 ha695
      have hs696 := ha695.size.trans hs683
      have hd697 := ha695.defers.trans hd684
      have h698 := ha695.fx 4 h685
      have h699 := ha695.fx 5 h686
      have h700 := ha695.ge 2 79 rfl
      have hb701 := hb690.new_ hn694
      have hN702 := hN691.transNew hn694
      clear hs683 hd684 h685 h686 h687 h688 h689 hb690 hN691 ha695 hn694
      obtain ⟨w703, -, hst704, hb705, hu706, hf707⟩ := s_two (v0 := iv ((signedM ((sizeI ((asM a).n)) * (sizeI ((asM b).n)) % 18446744073709551616) ((belowB (asM a)) != (belowB (asM b)))).k)) (v1 := iv ((signedM ((sizeI ((asM a).n)) * (sizeI ((asM b).n)) % 18446744073709551616) ((belowB (asM a)) != (belowB (asM b)))).n)) Tryd.sizeOf23 rfl rfl rfl hb701
      refine st_act rfl rfl fun K708 hL709 => a_store' rfl h698 h700 hst704 (hL709 _ _ trivial ?_)
      have hN710 := hN702.trans hu706 (fun k hk hkb => by subst hkb; omega)
      clear hb701 hst704 K708 hL709 hN702 hu706 hf707
      refine st_take rfl rfl (y_assign (v := .bool true) rfl rfl) rfl ?_
      obtain ⟨a711, ha712⟩ : ∃ a', a' = a692.put (some 5) (.bool true) := ⟨_, rfl⟩
      have hs713 : a711.tmps.size = 80 := by rw [ha712, put_size]; exact hs696
      have hd714 : a711.defers = [] := by rw [ha712, put_defers]; exact hd697
      have h715 : a711.eval (.tmp 4) = pv q16 := by rw [ha712, put_ne _ _ _ _ (by decide)]; exact h698
      have h716 : a711.eval (.tmp 79) = nv (signedM ((sizeI ((asM a).n)) * (sizeI ((asM b).n)) % 18446744073709551616) ((belowB (asM a)) != (belowB (asM b)))) := by rw [ha712, put_ne _ _ _ _ (by decide)]; exact h700
      have h717 : a711.eval (.tmp 5) = .bool true := by rw [ha712]; exact put_same _ _ _ (by rw [hs696]; decide)
      show stepsTo _ _ _ _ _ (a692.put (some 5) (.bool true)) _
      rw [← ha712]
      clear ha712 hs696 hd697 h698 h699 h700
      refine st_nil ?_
      clear h716
      refine hK _ _ ?_
      clear hK K
      refine wp_ret (ret_k hd714 (v := .tuple #[nv (signedM ((sizeI ((asM a).n)) * (sizeI ((asM b).n)) % 18446744073709551616) ((belowB (asM a)) != (belowB (asM b)))), .bool true]) (res_ct rfl h715 h717 (l_two Tryd.isAgg23 Tryd.sizeOf23 hb705)) ?_)
      refine ⟨?_, hN710⟩
      show Ending.returned (.tuple #[nv (signedM ((sizeI ((asM a).n)) * (sizeI ((asM b).n)) % 18446744073709551616) ((belowB (asM a)) != (belowB (asM b)))), .bool true]) = Ending.returned (.tuple #[nv ((mulM a b).1), .bool ((mulM a b).2)])
      first | rfl | (simp [mulM, mulA, ht78, ht131, ht184, ht414, ht570, ht625, ht677, ht678])
    have ht678d := of_decide_eq_false ht678
    have hlo : 0 ≤ sizeI (asM a).n * sizeI (asM b).n % 18446744073709551616 := by omega
    refine wp_g0 [true, true, true, true, true, true] [] 80
      [ve (.int .u64 ((sizeI ((asM a).n)) * (sizeI ((asM b).n)) / 18446744073709551616)),
       ve (.bool false),
       ve (.bool false),
       ve (.int .u64 ((sizeI ((asM a).n)) * (sizeI ((asM b).n)) % 18446744073709551616)),
       ve (.bool true),
       ve (.bool true)] hs668 (.eq (.eq (.eq (.eq (.eq (.eq (.nil))))))) ?_ ?_
    · skip
      refine .o1 (tk rfl rfl fun _ w hn k => ⟨_, v_move rfl (k.fx 7 h673), rfl⟩) ?_
      refine .o1 (tk rfl rfl fun _ w hn k => ⟨_, v_bin rfl (k.eq1 0 70 rfl) rfl (fun _ => rfl) (r_gtrK ht677), rfl⟩) ?_
      refine .o1 (tk rfl rfl fun _ w hn k => ⟨_, v_move rfl (k.eq1 1 71 rfl), rfl⟩) ?_
      refine .o1 (tg rfl rfl rfl (fun _ _ k => k.eq1 2 72 rfl) fun _ w hn k => ⟨_, v_move rfl (k.fx 8 h674), rfl⟩) ?_
      refine .o1 (tg rfl rfl rfl (fun _ _ k => k.eq1 2 72 rfl) fun _ w hn k => ⟨_, v_bin rfl (k.eq1 3 73 rfl) rfl (fun _ => rfl) (r_gtrK ht678), rfl⟩) ?_
      refine .o1 (tk rfl rfl fun _ w hn k => ⟨_, v_pickF rfl (k.eq1 2 72 rfl) (k.eq1 4 74 rfl), rfl⟩) ?_
      exact .nil
    intro a718 w719 hn720 ha721
    have hs722 := ha721.size.trans hs668
    have hd723 := ha721.defers.trans hd669
    have h724 := ha721.fx 4 h670
    have h725 := ha721.fx 5 h671
    have h726 := ha721.fx 6 h672
    have h727 := ha721.fx 8 h674
    have h728 := ha721.ge 5 75 rfl
    have hb729 := hb675.new_ hn720
    have hN730 := hN676.transNew hn720
    clear hs668 hd669 h670 h671 h672 h673 h674 hb675 hN676 ha721 hn720
    refine st_nil ?_
    refine hK _ _ ?_
    clear hK K
    refine wp_cond_true h728 ?_
    refine wp_seq_k fun K hK => ?_
    refine wp_g0 [true, false, false] [(1, false), (2, true)] 80
      [ve (nv (Nm.mk 2 0)),
       vt,
       vt] hs722 (.eq (.tt (.tt (.nil)))) ?_ ?_
    · skip
      refine .o1 (ck rfl rfl rfl (fun _ w hn k => ⟨#[], rfl, fun _ => by kernel_rfl, nan_c  _⟩) fun _ => rfl) ?_
      refine .off ?_
      refine .off ?_
      exact .nil
    intro a731 w732 hn733 ha734
    have hs735 := ha734.size.trans hs722
    have hd736 := ha734.defers.trans hd723
    have h737 := ha734.fx 4 h724
    have h738 := ha734.fx 5 h725
    have h739 := ha734.fx 6 h726
    have h740 := ha734.fx 8 h727
    have h741 := ha734.ge 0 76 rfl
    have hb742 := hb729.new_ hn733
    have hN743 := hN730.transNew hn733
    clear hs722 hd723 h724 h725 h726 h727 h728 hb729 hN730 ha734 hn733
    obtain ⟨w744, -, hst745, hb746, hu747, hf748⟩ := s_two (v0 := iv 2) (v1 := iv 0) Tryd.sizeOf23 rfl rfl rfl hb742
    refine st_act rfl rfl fun K749 hL750 => a_store' rfl h737 h741 hst745 (hL750 _ _ trivial ?_)
    have hN751 := hN743.trans hu747 (fun k hk hkb => by subst hkb; omega)
    clear hb742 hst745 K749 hL750 hN743 hu747 hf748
    refine st_take rfl rfl (y_assign (v := .bool false) rfl rfl) rfl ?_
    obtain ⟨a752, ha753⟩ : ∃ a', a' = a731.put (some 5) (.bool false) := ⟨_, rfl⟩
    have hs754 : a752.tmps.size = 80 := by rw [ha753, put_size]; exact hs735
    have hd755 : a752.defers = [] := by rw [ha753, put_defers]; exact hd736
    have h756 : a752.eval (.tmp 4) = pv q16 := by rw [ha753, put_ne _ _ _ _ (by decide)]; exact h737
    have h757 : a752.eval (.tmp 6) = .bool ((belowB (asM a)) != (belowB (asM b))) := by rw [ha753, put_ne _ _ _ _ (by decide)]; exact h739
    have h758 : a752.eval (.tmp 8) = .int .u64 ((sizeI ((asM a).n)) * (sizeI ((asM b).n)) % 18446744073709551616) := by rw [ha753, put_ne _ _ _ _ (by decide)]; exact h740
    have h759 : a752.eval (.tmp 76) = nv (Nm.mk 2 0) := by rw [ha753, put_ne _ _ _ _ (by decide)]; exact h741
    have h760 : a752.eval (.tmp 5) = .bool false := by rw [ha753]; exact put_same _ _ _ (by rw [hs735]; decide)
    show stepsTo _ _ _ _ _ (a731.put (some 5) (.bool false)) _
    rw [← ha753]
    clear ha753 hs735 hd736 h737 h738 h739 h740 h741
    refine st_nil ?_
    clear h759
    refine hK _ _ ?_
    clear hK K
    refine wp_ret (ret_k hd755 (v := .tuple #[nv (Nm.mk 2 0), .bool false]) (res_ct rfl h756 h760 (l_two Tryd.isAgg23 Tryd.sizeOf23 hb746)) ?_)
    refine ⟨?_, hN751⟩
    show Ending.returned (.tuple #[nv (Nm.mk 2 0), .bool false]) = Ending.returned (.tuple #[nv ((mulM a b).1), .bool ((mulM a b).2)])
    first | rfl | (simp [mulM, mulA, ht78, ht131, ht184, ht414, ht570, ht625, ht677, ht678])
  have ht677d := of_decide_eq_false ht677
  have hlo : 0 ≤ sizeI (asM a).n * sizeI (asM b).n % 18446744073709551616 := by omega
  refine wp_g0 [true, true, true, true, true, true] [] 80
    [ve (.int .u64 ((sizeI ((asM a).n)) * (sizeI ((asM b).n)) / 18446744073709551616)),
     ve (.bool true),
     ve (.bool true),
     ve undef,
     ve undef,
     ve (.bool true)] hs668 (.eq (.eq (.eq (.eq (.eq (.eq (.nil))))))) ?_ ?_
  · skip
    refine .o1 (tk rfl rfl fun _ w hn k => ⟨_, v_move rfl (k.fx 7 h673), rfl⟩) ?_
    refine .o1 (tk rfl rfl fun _ w hn k => ⟨_, v_bin rfl (k.eq1 0 70 rfl) rfl (fun _ => rfl) (r_gtrK ht677), rfl⟩) ?_
    refine .o1 (tk rfl rfl fun _ w hn k => ⟨_, v_move rfl (k.eq1 1 71 rfl), rfl⟩) ?_
    refine .o1 (sk rfl rfl rfl (fun _ _ _ k => k.eq1 2 72 rfl) (fun _ => rfl)) ?_
    refine .o1 (sk rfl rfl rfl (fun _ _ _ k => k.eq1 2 72 rfl) (fun _ => rfl)) ?_
    refine .o1 (tk rfl rfl fun _ w hn k => ⟨_, v_pickT rfl (k.eq1 2 72 rfl) rfl, rfl⟩) ?_
    exact .nil
  intro a761 w762 hn763 ha764
  have hs765 := ha764.size.trans hs668
  have hd766 := ha764.defers.trans hd669
  have h767 := ha764.fx 4 h670
  have h768 := ha764.fx 5 h671
  have h769 := ha764.fx 6 h672
  have h770 := ha764.fx 8 h674
  have h771 := ha764.ge 5 75 rfl
  have hb772 := hb675.new_ hn763
  have hN773 := hN676.transNew hn763
  clear hs668 hd669 h670 h671 h672 h673 h674 hb675 hN676 ha764 hn763
  refine st_nil ?_
  refine hK _ _ ?_
  clear hK K
  refine wp_cond_true h771 ?_
  refine wp_seq_k fun K hK => ?_
  refine wp_g0 [true, false, false] [(1, false), (2, true)] 80
    [ve (nv (Nm.mk 2 0)),
     vt,
     vt] hs765 (.eq (.tt (.tt (.nil)))) ?_ ?_
  · skip
    refine .o1 (ck rfl rfl rfl (fun _ w hn k => ⟨#[], rfl, fun _ => by kernel_rfl, nan_c  _⟩) fun _ => rfl) ?_
    refine .off ?_
    refine .off ?_
    exact .nil
  intro a774 w775 hn776 ha777
  have hs778 := ha777.size.trans hs765
  have hd779 := ha777.defers.trans hd766
  have h780 := ha777.fx 4 h767
  have h781 := ha777.fx 5 h768
  have h782 := ha777.fx 6 h769
  have h783 := ha777.fx 8 h770
  have h784 := ha777.ge 0 76 rfl
  have hb785 := hb772.new_ hn776
  have hN786 := hN773.transNew hn776
  clear hs765 hd766 h767 h768 h769 h770 h771 hb772 hN773 ha777 hn776
  obtain ⟨w787, -, hst788, hb789, hu790, hf791⟩ := s_two (v0 := iv 2) (v1 := iv 0) Tryd.sizeOf23 rfl rfl rfl hb785
  refine st_act rfl rfl fun K792 hL793 => a_store' rfl h780 h784 hst788 (hL793 _ _ trivial ?_)
  have hN794 := hN786.trans hu790 (fun k hk hkb => by subst hkb; omega)
  clear hb785 hst788 K792 hL793 hN786 hu790 hf791
  refine st_take rfl rfl (y_assign (v := .bool false) rfl rfl) rfl ?_
  obtain ⟨a795, ha796⟩ : ∃ a', a' = a774.put (some 5) (.bool false) := ⟨_, rfl⟩
  have hs797 : a795.tmps.size = 80 := by rw [ha796, put_size]; exact hs778
  have hd798 : a795.defers = [] := by rw [ha796, put_defers]; exact hd779
  have h799 : a795.eval (.tmp 4) = pv q16 := by rw [ha796, put_ne _ _ _ _ (by decide)]; exact h780
  have h800 : a795.eval (.tmp 6) = .bool ((belowB (asM a)) != (belowB (asM b))) := by rw [ha796, put_ne _ _ _ _ (by decide)]; exact h782
  have h801 : a795.eval (.tmp 8) = .int .u64 ((sizeI ((asM a).n)) * (sizeI ((asM b).n)) % 18446744073709551616) := by rw [ha796, put_ne _ _ _ _ (by decide)]; exact h783
  have h802 : a795.eval (.tmp 76) = nv (Nm.mk 2 0) := by rw [ha796, put_ne _ _ _ _ (by decide)]; exact h784
  have h803 : a795.eval (.tmp 5) = .bool false := by rw [ha796]; exact put_same _ _ _ (by rw [hs778]; decide)
  show stepsTo _ _ _ _ _ (a774.put (some 5) (.bool false)) _
  rw [← ha796]
  clear ha796 hs778 hd779 h780 h781 h782 h783 h784
  refine st_nil ?_
  clear h802
  refine hK _ _ ?_
  clear hK K
  refine wp_ret (ret_k hd798 (v := .tuple #[nv (Nm.mk 2 0), .bool false]) (res_ct rfl h799 h803 (l_two Tryd.isAgg23 Tryd.sizeOf23 hb789)) ?_)
  refine ⟨?_, hN794⟩
  show Ending.returned (.tuple #[nv (Nm.mk 2 0), .bool false]) = Ending.returned (.tuple #[nv ((mulM a b).1), .bool ((mulM a b).2)])
  first | rfl | (simp [mulM, mulA, ht78, ht131, ht184, ht414, ht570, ht625, ht677])
set_option maxHeartbeats 8000000 in
set_option maxRecDepth 100000 in
theorem div_c (a : Nm) (b : Nm) (w : World) : Calls Tryd.prog 42 #[nv a, nv b] w (IsRet (.tuple #[nv ((divM a b).1), .bool ((divM a b).2)]) w) := by
  refine enter_abs Tryd.func42 rfl fun a0 hs0 hd0 hp => ?_
  have hs0 : a0.tmps.size = 77 := hs0
  have hN0 : New w w := Upd.refl _ _
  have hp0 : a0.eval (.tmp 0) = nv a := hp 0 _ rfl
  have hp1 : a0.eval (.tmp 1) = nv b := hp 1 _ rfl
  clear hp
  refine wp_seq_k fun K hK => ?_
  refine wp_g [true, true, true, true] [] [] 77
    [IsNew w 23 [iv a.k, iv a.n],
     IsNew w 23 [iv b.k, iv b.n],
     IsNew w 23 [iv 0, iv 0],
     ve (.bool false)]
    [0, 1, 2] (newsCons (fun v w h => IsNew.old h) (newsCons (fun v w h => IsNew.old h) (newsCons (fun v w h => IsNew.old h) newsNil))) hs0 (.nw (.nw (.nw (.eq (.nil))))) ?_ (fun i h => by cases h) ?_
  · skip
    refine .o2 (step_allocN (cs := [iv a.k, iv a.n]) (t := 23) rfl (noG rfl) (fun _ w hn k => v_box rfl (k.fx 0 hp0) (fun w => rfl)) (fun q _ hq hb => ⟨q, rfl, hq, hb⟩)) ?_
    refine .o2 (step_allocN (cs := [iv b.k, iv b.n]) (t := 23) rfl (noG rfl) (fun _ w hn k => v_box rfl (k.fx 1 hp1) (fun w => rfl)) (fun q _ hq hb => ⟨q, rfl, hq, hb⟩)) ?_
    refine .o2 (step_allocN (cs := [iv 0, iv 0]) (t := 23) rfl (noG rfl) (fun _ w hn k => rfl) (fun q _ hq hb => ⟨q, rfl, hq, hb⟩)) ?_
    refine .o1 (tk rfl rfl fun _ w hn k => ⟨_, v_assign rfl rfl, rfl⟩) ?_
    exact .nil
  intro a1 w2 hn3 ha4
  have hs5 := ha4.size.trans hs0
  have hd6 := ha4.defers.trans hd0
  obtain ⟨q8, h7, hq9, hb10⟩ : IsNew _ _ _ _ _ := ha4.got 0 2 rfl (by kernel_rfl)
  obtain ⟨q12, h11, hq13, hb14⟩ : IsNew _ _ _ _ _ := ha4.got 1 3 rfl (by kernel_rfl)
  obtain ⟨q16, h15, hq17, hb18⟩ : IsNew _ _ _ _ _ := ha4.got 2 4 rfl (by kernel_rfl)
  have h19 := ha4.ge 3 5 rfl
  have hne20 : q8 ≠ q12 := ha4.ne 0 1 2 3 h7 h11
  have hne21 : q8 ≠ q16 := ha4.ne 0 2 2 4 h7 h15
  have hne22 : q12 ≠ q16 := ha4.ne 1 2 3 4 h11 h15
  have hq23 := Nat.le_trans hN0.size hq9
  have hq24 := Nat.le_trans hN0.size hq13
  have hq25 := Nat.le_trans hN0.size hq17
  have hN26 := hN0.transNew hn3
  clear hs0 hd0 hp0 hp1 hq9 hq13 hq17 hN0 ha4 hn3
  refine st_nil ?_
  refine hK _ _ ?_
  clear hK K
  refine wp_seq_k fun K hK => ?_
  refine wp_g0 [true, true, true, true, false, false] [(4, false), (5, false)] 77
    [ve (nv a),
     ve (nv (asM a)),
     ve (nv b),
     ve (nv (asM b)),
     vt,
     vt] hs5 (.eq (.eq (.eq (.eq (.tt (.tt (.nil))))))) ?_ ?_
  · skip
    refine .o1 (tk rfl rfl fun _ w hn k => ⟨_, v_load rfl (k.fx 2 h7) (l_two Tryd.isAgg23 Tryd.sizeOf23 (hb10.new_ hn)), rfl⟩) ?_
    refine .o1 (ck rfl rfl rfl (fun _ w hn k => ⟨#[nv a], args1 (k.eq1 0 7 rfl), fun _ => by kernel_rfl, as_c a _⟩) fun _ => rfl) ?_
    refine .o1 (tk rfl rfl fun _ w hn k => ⟨_, v_load rfl (k.fx 3 h11) (l_two Tryd.isAgg23 Tryd.sizeOf23 (hb14.new_ hn)), rfl⟩) ?_
    refine .o1 (ck rfl rfl rfl (fun _ w hn k => ⟨#[nv b], args1 (k.eq1 2 9 rfl), fun _ => by kernel_rfl, as_c b _⟩) fun _ => rfl) ?_
    refine .off ?_
    refine .off ?_
    exact .nil
  intro a27 w28 hn29 ha30
  have hs31 := ha30.size.trans hs5
  have hd32 := ha30.defers.trans hd6
  have h33 := ha30.fx 2 h7
  have h34 := ha30.fx 3 h11
  have h35 := ha30.fx 4 h15
  have h36 := ha30.fx 5 h19
  have h37 := ha30.ge 1 8 rfl
  have h38 := ha30.ge 3 10 rfl
  have hb39 := hb10.new_ hn29
  have hb40 := hb14.new_ hn29
  have hb41 := hb18.new_ hn29
  have hN42 := hN26.transNew hn29
  clear hs5 hd6 h7 h11 h15 h19 hb10 hb14 hb18 hN26 ha30 hn29
  have hbd_a := as_bd a
  have hbd_b := as_bd b
  obtain ⟨w43, -, hst44, hb45, hu46, hf47⟩ := s_two (v0 := iv ((asM a).k)) (v1 := iv ((asM a).n)) Tryd.sizeOf23 rfl rfl rfl hb39
  refine st_act rfl rfl fun K48 hL49 => a_store' rfl h33 h37 hst44 (hL49 _ _ trivial ?_)
  have hb50 := hf47 _ _ _ (fun h => hne20 h.symm) hb40
  have hb51 := hf47 _ _ _ (fun h => hne21 h.symm) hb41
  have hN52 := hN42.trans hu46 (fun k hk hkb => by subst hkb; omega)
  clear hb39 hst44 K48 hL49 hN42 hb40 hb41 hu46 hf47
  obtain ⟨w53, -, hst54, hb55, hu56, hf57⟩ := s_two (v0 := iv ((asM b).k)) (v1 := iv ((asM b).n)) Tryd.sizeOf23 rfl rfl rfl hb50
  refine st_act rfl rfl fun K58 hL59 => a_store' rfl h34 h38 hst54 (hL59 _ _ trivial ?_)
  have hb60 := hf57 _ _ _ (hne20) hb45
  have hb61 := hf57 _ _ _ (fun h => hne22 h.symm) hb51
  have hN62 := hN52.trans hu56 (fun k hk hkb => by subst hkb; omega)
  clear hb50 hst54 K58 hL59 hN52 hb45 hb51 hu56 hf57
  refine st_nil ?_
  clear h37 h38
  refine hK _ _ ?_
  clear hK K
  refine wp_seq_k fun K hK => ?_
  refine wp_g0 [true, true, true, true, true, true] [] 77
    [ve (nv (asM a)),
     ve (.bool (belowB (asM a))),
     ve (nv (asM b)),
     ve (.bool (belowB (asM b))),
     ve (.bool ((belowB (asM a)) != (belowB (asM b)))),
     ve (.bool ((belowB (asM a)) != (belowB (asM b))))] hs31 (.eq (.eq (.eq (.eq (.eq (.eq (.nil))))))) ?_ ?_
  · skip
    refine .o1 (tk rfl rfl fun _ w hn k => ⟨_, v_load rfl (k.fx 2 h33) (l_two Tryd.isAgg23 Tryd.sizeOf23 (hb60.new_ hn)), rfl⟩) ?_
    refine .o1 (ck rfl rfl rfl (fun _ w hn k => ⟨#[nv (asM a)], args1 (k.eq1 0 11 rfl), fun _ => by kernel_rfl, below_c (asM a) _⟩) fun _ => rfl) ?_
    refine .o1 (tk rfl rfl fun _ w hn k => ⟨_, v_load rfl (k.fx 3 h34) (l_two Tryd.isAgg23 Tryd.sizeOf23 (hb55.new_ hn)), rfl⟩) ?_
    refine .o1 (ck rfl rfl rfl (fun _ w hn k => ⟨#[nv (asM b)], args1 (k.eq1 2 13 rfl), fun _ => by kernel_rfl, below_c (asM b) _⟩) fun _ => rfl) ?_
    refine .o1 (tk rfl rfl fun _ w hn k => ⟨_, v_bin rfl (k.eq1 1 12 rfl) (k.eq1 3 14 rfl) (fun _ => rfl) (r_neqB _ _), rfl⟩) ?_
    refine .o1 (tk rfl rfl fun _ w hn k => ⟨_, v_assign rfl (k.eq1 4 15 rfl), rfl⟩) ?_
    exact .nil
  intro a63 w64 hn65 ha66
  have hs67 := ha66.size.trans hs31
  have hd68 := ha66.defers.trans hd32
  have h69 := ha66.fx 2 h33
  have h70 := ha66.fx 3 h34
  have h71 := ha66.fx 4 h35
  have h72 := ha66.fx 5 h36
  have h73 := ha66.ge 5 6 rfl
  have hb74 := hb60.new_ hn65
  have hb75 := hb55.new_ hn65
  have hb76 := hb61.new_ hn65
  have hN77 := hN62.transNew hn65
  clear hs31 hd32 h33 h34 h35 h36 hb60 hb55 hb61 hN62 ha66 hn65
  refine st_nil ?_
  refine hK _ _ ?_
  clear hK K
  refine wp_seq_k fun K hK => ?_
  refine wp_block ?_
  refine wp_seq_k fun K hK => ?_
  rcases Bool.eq_false_or_eq_true (decide (((asM a).k) = 2)) with ht78 | ht78
  · skip
    have ht78d := of_decide_eq_true ht78
    refine wp_g0 [true, true, true, true, true, true, true, true, true, true, true, true, true, true, true, true, true, true, true, true, true, true, true] [] 77
      [ve (nv (asM a)),
       ve (.bool true),
       ve (.bool true),
       ve undef,
       ve undef,
       ve (.bool true),
       ve (.bool true),
       ve undef,
       ve undef,
       ve undef,
       ve undef,
       ve undef,
       ve undef,
       ve (.bool true),
       ve (.bool true),
       ve undef,
       ve undef,
       ve undef,
       ve undef,
       ve undef,
       ve undef,
       ve (.bool true),
       ve (.bool true)] hs67 (.eq (.eq (.eq (.eq (.eq (.eq (.eq (.eq (.eq (.eq (.eq (.eq (.eq (.eq (.eq (.eq (.eq (.eq (.eq (.eq (.eq (.eq (.eq (.nil)))))))))))))))))))))))) ?_ ?_
    · skip
      refine .o1 (tk rfl rfl fun _ w hn k => ⟨_, v_load rfl (k.fx 2 h69) (l_two Tryd.isAgg23 Tryd.sizeOf23 (hb74.new_ hn)), rfl⟩) ?_
      refine .o1 (ck rfl rfl rfl (fun _ w hn k => ⟨#[nv (asM a)], args1 (k.eq1 0 17 rfl), fun _ => by kernel_rfl, isNaN_c (asM a) _⟩) fun _ => congrArg Value.bool ht78) ?_
      refine .o1 (tk rfl rfl fun _ w hn k => ⟨_, v_move rfl (k.eq1 1 18 rfl), rfl⟩) ?_
      refine .o1 (sk rfl rfl rfl (fun _ _ _ k => k.eq1 2 19 rfl) (fun _ => rfl)) ?_
      refine .o1 (sk rfl rfl rfl (fun _ _ _ k => k.eq1 2 19 rfl) (fun _ => rfl)) ?_
      refine .o1 (tk rfl rfl fun _ w hn k => ⟨_, v_pickT rfl (k.eq1 2 19 rfl) rfl, rfl⟩) ?_
      refine .o1 (tk rfl rfl fun _ w hn k => ⟨_, v_move rfl (k.eq1 5 22 rfl), rfl⟩) ?_
      refine .o1 (sk rfl rfl rfl (fun _ _ _ k => k.eq1 6 23 rfl) (fun _ => rfl)) ?_
      refine .o1 (sk rfl rfl rfl (fun _ _ _ k => k.eq1 6 23 rfl) (fun _ => rfl)) ?_
      refine .o1 (sk rfl rfl rfl (fun _ _ _ k => k.eq1 6 23 rfl) (fun _ => rfl)) ?_
      refine .o1 (su rfl rfl rfl (fun _ _ _ k => k.eq1 9 26 rfl) (fun _ => rfl)) ?_
      refine .o1 (su rfl rfl rfl (fun _ _ _ k => k.eq1 9 26 rfl) (fun _ => rfl)) ?_
      refine .o1 (sk rfl rfl rfl (fun _ _ _ k => k.eq1 6 23 rfl) (fun _ => rfl)) ?_
      refine .o1 (tk rfl rfl fun _ w hn k => ⟨_, v_pickT rfl (k.eq1 6 23 rfl) rfl, rfl⟩) ?_
      refine .o1 (tk rfl rfl fun _ w hn k => ⟨_, v_move rfl (k.eq1 13 30 rfl), rfl⟩) ?_
      refine .o1 (sk rfl rfl rfl (fun _ _ _ k => k.eq1 14 31 rfl) (fun _ => rfl)) ?_
      refine .o1 (sk rfl rfl rfl (fun _ _ _ k => k.eq1 14 31 rfl) (fun _ => rfl)) ?_
      refine .o1 (sk rfl rfl rfl (fun _ _ _ k => k.eq1 14 31 rfl) (fun _ => rfl)) ?_
      refine .o1 (su rfl rfl rfl (fun _ _ _ k => k.eq1 17 34 rfl) (fun _ => rfl)) ?_
      refine .o1 (su rfl rfl rfl (fun _ _ _ k => k.eq1 17 34 rfl) (fun _ => rfl)) ?_
      refine .o1 (sk rfl rfl rfl (fun _ _ _ k => k.eq1 14 31 rfl) (fun _ => rfl)) ?_
      refine .o1 (tk rfl rfl fun _ w hn k => ⟨_, v_pickT rfl (k.eq1 14 31 rfl) rfl, rfl⟩) ?_
      refine .o1 (tk rfl rfl fun _ w hn k => ⟨_, v_assign rfl (k.eq1 21 38 rfl), rfl⟩) ?_
      exact .nil
    intro a79 w80 hn81 ha82
    have hs83 := ha82.size.trans hs67
    have hd84 := ha82.defers.trans hd68
    have h85 := ha82.fx 2 h69
    have h86 := ha82.fx 3 h70
    have h87 := ha82.fx 4 h71
    have h88 := ha82.fx 5 h72
    have h89 := ha82.fx 6 h73
    have h90 := ha82.ge 22 16 rfl
    have hb91 := hb74.new_ hn81
    have hb92 := hb75.new_ hn81
    have hb93 := hb76.new_ hn81
    have hN94 := hN77.transNew hn81
    clear hs67 hd68 h69 h70 h71 h72 h73 hb74 hb75 hb76 hN77 ha82 hn81
    refine st_nil ?_
    refine hK _ _ ?_
    clear hK K
    refine wp_cond_true h90 ?_
    refine wp_seq_k fun K hK => ?_
    refine wp_g0 [true, false, false] [(1, false), (2, true)] 77
      [ve (nv (Nm.mk 2 0)),
       vt,
       vt] hs83 (.eq (.tt (.tt (.nil)))) ?_ ?_
    · skip
      refine .o1 (ck rfl rfl rfl (fun _ w hn k => ⟨#[], rfl, fun _ => by kernel_rfl, nan_c  _⟩) fun _ => rfl) ?_
      refine .off ?_
      refine .off ?_
      exact .nil
    intro a95 w96 hn97 ha98
    have hs99 := ha98.size.trans hs83
    have hd100 := ha98.defers.trans hd84
    have h101 := ha98.fx 2 h85
    have h102 := ha98.fx 3 h86
    have h103 := ha98.fx 4 h87
    have h104 := ha98.fx 5 h88
    have h105 := ha98.fx 6 h89
    have h106 := ha98.ge 0 39 rfl
    have hb107 := hb91.new_ hn97
    have hb108 := hb92.new_ hn97
    have hb109 := hb93.new_ hn97
    have hN110 := hN94.transNew hn97
    clear hs83 hd84 h85 h86 h87 h88 h89 h90 hb91 hb92 hb93 hN94 ha98 hn97
    obtain ⟨w111, -, hst112, hb113, hu114, hf115⟩ := s_two (v0 := iv 2) (v1 := iv 0) Tryd.sizeOf23 rfl rfl rfl hb109
    refine st_act rfl rfl fun K116 hL117 => a_store' rfl h103 h106 hst112 (hL117 _ _ trivial ?_)
    have hb118 := hf115 _ _ _ (hne21) hb107
    have hb119 := hf115 _ _ _ (hne22) hb108
    have hN120 := hN110.trans hu114 (fun k hk hkb => by subst hkb; omega)
    clear hb109 hst112 K116 hL117 hN110 hb107 hb108 hu114 hf115
    refine st_take rfl rfl (y_assign (v := .bool true) rfl rfl) rfl ?_
    obtain ⟨a121, ha122⟩ : ∃ a', a' = a95.put (some 5) (.bool true) := ⟨_, rfl⟩
    have hs123 : a121.tmps.size = 77 := by rw [ha122, put_size]; exact hs99
    have hd124 : a121.defers = [] := by rw [ha122, put_defers]; exact hd100
    have h125 : a121.eval (.tmp 2) = pv q8 := by rw [ha122, put_ne _ _ _ _ (by decide)]; exact h101
    have h126 : a121.eval (.tmp 3) = pv q12 := by rw [ha122, put_ne _ _ _ _ (by decide)]; exact h102
    have h127 : a121.eval (.tmp 4) = pv q16 := by rw [ha122, put_ne _ _ _ _ (by decide)]; exact h103
    have h128 : a121.eval (.tmp 6) = .bool ((belowB (asM a)) != (belowB (asM b))) := by rw [ha122, put_ne _ _ _ _ (by decide)]; exact h105
    have h129 : a121.eval (.tmp 39) = nv (Nm.mk 2 0) := by rw [ha122, put_ne _ _ _ _ (by decide)]; exact h106
    have h130 : a121.eval (.tmp 5) = .bool true := by rw [ha122]; exact put_same _ _ _ (by rw [hs99]; decide)
    show stepsTo _ _ _ _ _ (a95.put (some 5) (.bool true)) _
    rw [← ha122]
    clear ha122 hs99 hd100 h101 h102 h103 h104 h105 h106
    refine st_nil ?_
    clear h129
    refine hK _ _ ?_
    clear hK K
    refine wp_ret (ret_k hd124 (v := .tuple #[nv (Nm.mk 2 0), .bool true]) (res_ct rfl h127 h130 (l_two Tryd.isAgg23 Tryd.sizeOf23 hb113)) ?_)
    refine ⟨?_, hN120⟩
    show Ending.returned (.tuple #[nv (Nm.mk 2 0), .bool true]) = Ending.returned (.tuple #[nv ((divM a b).1), .bool ((divM a b).2)])
    first | rfl | (simp [divM, divA, ht78])
  have ht78d := of_decide_eq_false ht78
  rcases Bool.eq_false_or_eq_true (decide (((asM b).k) = 2)) with ht131 | ht131
  · skip
    have ht131d := of_decide_eq_true ht131
    refine wp_g0 [true, true, true, true, true, true, true, true, true, true, true, true, true, true, true, true, true, true, true, true, true, true, true] [] 77
      [ve (nv (asM a)),
       ve (.bool false),
       ve (.bool false),
       ve (nv (asM b)),
       ve (.bool true),
       ve (.bool true),
       ve (.bool true),
       ve undef,
       ve undef,
       ve undef,
       ve undef,
       ve undef,
       ve undef,
       ve (.bool true),
       ve (.bool true),
       ve undef,
       ve undef,
       ve undef,
       ve undef,
       ve undef,
       ve undef,
       ve (.bool true),
       ve (.bool true)] hs67 (.eq (.eq (.eq (.eq (.eq (.eq (.eq (.eq (.eq (.eq (.eq (.eq (.eq (.eq (.eq (.eq (.eq (.eq (.eq (.eq (.eq (.eq (.eq (.nil)))))))))))))))))))))))) ?_ ?_
    · skip
      refine .o1 (tk rfl rfl fun _ w hn k => ⟨_, v_load rfl (k.fx 2 h69) (l_two Tryd.isAgg23 Tryd.sizeOf23 (hb74.new_ hn)), rfl⟩) ?_
      refine .o1 (ck rfl rfl rfl (fun _ w hn k => ⟨#[nv (asM a)], args1 (k.eq1 0 17 rfl), fun _ => by kernel_rfl, isNaN_c (asM a) _⟩) fun _ => congrArg Value.bool ht78) ?_
      refine .o1 (tk rfl rfl fun _ w hn k => ⟨_, v_move rfl (k.eq1 1 18 rfl), rfl⟩) ?_
      refine .o1 (tg rfl rfl rfl (fun _ _ k => k.eq1 2 19 rfl) fun _ w hn k => ⟨_, v_load rfl (k.fx 3 h70) (l_two Tryd.isAgg23 Tryd.sizeOf23 (hb75.new_ hn)), rfl⟩) ?_
      refine .o1 (cg rfl rfl rfl (fun _ _ k => k.eq1 2 19 rfl) rfl (fun _ w hn k => ⟨#[nv (asM b)], args1 (k.eq1 3 20 rfl), fun _ => by kernel_rfl, isNaN_c (asM b) _⟩) fun _ => congrArg Value.bool ht131) ?_
      refine .o1 (tk rfl rfl fun _ w hn k => ⟨_, v_pickF rfl (k.eq1 2 19 rfl) (k.eq1 4 21 rfl), rfl⟩) ?_
      refine .o1 (tk rfl rfl fun _ w hn k => ⟨_, v_move rfl (k.eq1 5 22 rfl), rfl⟩) ?_
      refine .o1 (sk rfl rfl rfl (fun _ _ _ k => k.eq1 6 23 rfl) (fun _ => rfl)) ?_
      refine .o1 (sk rfl rfl rfl (fun _ _ _ k => k.eq1 6 23 rfl) (fun _ => rfl)) ?_
      refine .o1 (sk rfl rfl rfl (fun _ _ _ k => k.eq1 6 23 rfl) (fun _ => rfl)) ?_
      refine .o1 (su rfl rfl rfl (fun _ _ _ k => k.eq1 9 26 rfl) (fun _ => rfl)) ?_
      refine .o1 (su rfl rfl rfl (fun _ _ _ k => k.eq1 9 26 rfl) (fun _ => rfl)) ?_
      refine .o1 (sk rfl rfl rfl (fun _ _ _ k => k.eq1 6 23 rfl) (fun _ => rfl)) ?_
      refine .o1 (tk rfl rfl fun _ w hn k => ⟨_, v_pickT rfl (k.eq1 6 23 rfl) rfl, rfl⟩) ?_
      refine .o1 (tk rfl rfl fun _ w hn k => ⟨_, v_move rfl (k.eq1 13 30 rfl), rfl⟩) ?_
      refine .o1 (sk rfl rfl rfl (fun _ _ _ k => k.eq1 14 31 rfl) (fun _ => rfl)) ?_
      refine .o1 (sk rfl rfl rfl (fun _ _ _ k => k.eq1 14 31 rfl) (fun _ => rfl)) ?_
      refine .o1 (sk rfl rfl rfl (fun _ _ _ k => k.eq1 14 31 rfl) (fun _ => rfl)) ?_
      refine .o1 (su rfl rfl rfl (fun _ _ _ k => k.eq1 17 34 rfl) (fun _ => rfl)) ?_
      refine .o1 (su rfl rfl rfl (fun _ _ _ k => k.eq1 17 34 rfl) (fun _ => rfl)) ?_
      refine .o1 (sk rfl rfl rfl (fun _ _ _ k => k.eq1 14 31 rfl) (fun _ => rfl)) ?_
      refine .o1 (tk rfl rfl fun _ w hn k => ⟨_, v_pickT rfl (k.eq1 14 31 rfl) rfl, rfl⟩) ?_
      refine .o1 (tk rfl rfl fun _ w hn k => ⟨_, v_assign rfl (k.eq1 21 38 rfl), rfl⟩) ?_
      exact .nil
    intro a132 w133 hn134 ha135
    have hs136 := ha135.size.trans hs67
    have hd137 := ha135.defers.trans hd68
    have h138 := ha135.fx 2 h69
    have h139 := ha135.fx 3 h70
    have h140 := ha135.fx 4 h71
    have h141 := ha135.fx 5 h72
    have h142 := ha135.fx 6 h73
    have h143 := ha135.ge 22 16 rfl
    have hb144 := hb74.new_ hn134
    have hb145 := hb75.new_ hn134
    have hb146 := hb76.new_ hn134
    have hN147 := hN77.transNew hn134
    clear hs67 hd68 h69 h70 h71 h72 h73 hb74 hb75 hb76 hN77 ha135 hn134
    refine st_nil ?_
    refine hK _ _ ?_
    clear hK K
    refine wp_cond_true h143 ?_
    refine wp_seq_k fun K hK => ?_
    refine wp_g0 [true, false, false] [(1, false), (2, true)] 77
      [ve (nv (Nm.mk 2 0)),
       vt,
       vt] hs136 (.eq (.tt (.tt (.nil)))) ?_ ?_
    · skip
      refine .o1 (ck rfl rfl rfl (fun _ w hn k => ⟨#[], rfl, fun _ => by kernel_rfl, nan_c  _⟩) fun _ => rfl) ?_
      refine .off ?_
      refine .off ?_
      exact .nil
    intro a148 w149 hn150 ha151
    have hs152 := ha151.size.trans hs136
    have hd153 := ha151.defers.trans hd137
    have h154 := ha151.fx 2 h138
    have h155 := ha151.fx 3 h139
    have h156 := ha151.fx 4 h140
    have h157 := ha151.fx 5 h141
    have h158 := ha151.fx 6 h142
    have h159 := ha151.ge 0 39 rfl
    have hb160 := hb144.new_ hn150
    have hb161 := hb145.new_ hn150
    have hb162 := hb146.new_ hn150
    have hN163 := hN147.transNew hn150
    clear hs136 hd137 h138 h139 h140 h141 h142 h143 hb144 hb145 hb146 hN147 ha151 hn150
    obtain ⟨w164, -, hst165, hb166, hu167, hf168⟩ := s_two (v0 := iv 2) (v1 := iv 0) Tryd.sizeOf23 rfl rfl rfl hb162
    refine st_act rfl rfl fun K169 hL170 => a_store' rfl h156 h159 hst165 (hL170 _ _ trivial ?_)
    have hb171 := hf168 _ _ _ (hne21) hb160
    have hb172 := hf168 _ _ _ (hne22) hb161
    have hN173 := hN163.trans hu167 (fun k hk hkb => by subst hkb; omega)
    clear hb162 hst165 K169 hL170 hN163 hb160 hb161 hu167 hf168
    refine st_take rfl rfl (y_assign (v := .bool true) rfl rfl) rfl ?_
    obtain ⟨a174, ha175⟩ : ∃ a', a' = a148.put (some 5) (.bool true) := ⟨_, rfl⟩
    have hs176 : a174.tmps.size = 77 := by rw [ha175, put_size]; exact hs152
    have hd177 : a174.defers = [] := by rw [ha175, put_defers]; exact hd153
    have h178 : a174.eval (.tmp 2) = pv q8 := by rw [ha175, put_ne _ _ _ _ (by decide)]; exact h154
    have h179 : a174.eval (.tmp 3) = pv q12 := by rw [ha175, put_ne _ _ _ _ (by decide)]; exact h155
    have h180 : a174.eval (.tmp 4) = pv q16 := by rw [ha175, put_ne _ _ _ _ (by decide)]; exact h156
    have h181 : a174.eval (.tmp 6) = .bool ((belowB (asM a)) != (belowB (asM b))) := by rw [ha175, put_ne _ _ _ _ (by decide)]; exact h158
    have h182 : a174.eval (.tmp 39) = nv (Nm.mk 2 0) := by rw [ha175, put_ne _ _ _ _ (by decide)]; exact h159
    have h183 : a174.eval (.tmp 5) = .bool true := by rw [ha175]; exact put_same _ _ _ (by rw [hs152]; decide)
    show stepsTo _ _ _ _ _ (a148.put (some 5) (.bool true)) _
    rw [← ha175]
    clear ha175 hs152 hd153 h154 h155 h156 h157 h158 h159
    refine st_nil ?_
    clear h182
    refine hK _ _ ?_
    clear hK K
    refine wp_ret (ret_k hd177 (v := .tuple #[nv (Nm.mk 2 0), .bool true]) (res_ct rfl h180 h183 (l_two Tryd.isAgg23 Tryd.sizeOf23 hb166)) ?_)
    refine ⟨?_, hN173⟩
    show Ending.returned (.tuple #[nv (Nm.mk 2 0), .bool true]) = Ending.returned (.tuple #[nv ((divM a b).1), .bool ((divM a b).2)])
    first | rfl | (simp [divM, divA, ht78, ht131])
  have ht131d := of_decide_eq_false ht131
  rcases Bool.eq_false_or_eq_true (infB ((asM a).k)) with ht184 | ht184
  · skip
    rcases Bool.eq_false_or_eq_true (infB ((asM b).k)) with ht185 | ht185
    · skip
      refine wp_g0 [true, true, true, true, true, true, true, true, true, true, true, true, true, true, true, true, true, true, true, true, true, true, true] [] 77
        [ve (nv (asM a)),
         ve (.bool false),
         ve (.bool false),
         ve (nv (asM b)),
         ve (.bool false),
         ve (.bool false),
         ve (.bool false),
         ve (nv (asM a)),
         ve (.bool true),
         ve (.bool true),
         ve (nv (asM b)),
         ve (.bool true),
         ve (.bool true),
         ve (.bool true),
         ve (.bool true),
         ve undef,
         ve undef,
         ve undef,
         ve undef,
         ve undef,
         ve undef,
         ve (.bool true),
         ve (.bool true)] hs67 (.eq (.eq (.eq (.eq (.eq (.eq (.eq (.eq (.eq (.eq (.eq (.eq (.eq (.eq (.eq (.eq (.eq (.eq (.eq (.eq (.eq (.eq (.eq (.nil)))))))))))))))))))))))) ?_ ?_
      · skip
        refine .o1 (tk rfl rfl fun _ w hn k => ⟨_, v_load rfl (k.fx 2 h69) (l_two Tryd.isAgg23 Tryd.sizeOf23 (hb74.new_ hn)), rfl⟩) ?_
        refine .o1 (ck rfl rfl rfl (fun _ w hn k => ⟨#[nv (asM a)], args1 (k.eq1 0 17 rfl), fun _ => by kernel_rfl, isNaN_c (asM a) _⟩) fun _ => congrArg Value.bool ht78) ?_
        refine .o1 (tk rfl rfl fun _ w hn k => ⟨_, v_move rfl (k.eq1 1 18 rfl), rfl⟩) ?_
        refine .o1 (tg rfl rfl rfl (fun _ _ k => k.eq1 2 19 rfl) fun _ w hn k => ⟨_, v_load rfl (k.fx 3 h70) (l_two Tryd.isAgg23 Tryd.sizeOf23 (hb75.new_ hn)), rfl⟩) ?_
        refine .o1 (cg rfl rfl rfl (fun _ _ k => k.eq1 2 19 rfl) rfl (fun _ w hn k => ⟨#[nv (asM b)], args1 (k.eq1 3 20 rfl), fun _ => by kernel_rfl, isNaN_c (asM b) _⟩) fun _ => congrArg Value.bool ht131) ?_
        refine .o1 (tk rfl rfl fun _ w hn k => ⟨_, v_pickF rfl (k.eq1 2 19 rfl) (k.eq1 4 21 rfl), rfl⟩) ?_
        refine .o1 (tk rfl rfl fun _ w hn k => ⟨_, v_move rfl (k.eq1 5 22 rfl), rfl⟩) ?_
        refine .o1 (tg rfl rfl rfl (fun _ _ k => k.eq1 6 23 rfl) fun _ w hn k => ⟨_, v_load rfl (k.fx 2 h69) (l_two Tryd.isAgg23 Tryd.sizeOf23 (hb74.new_ hn)), rfl⟩) ?_
        refine .o1 (cg rfl rfl rfl (fun _ _ k => k.eq1 6 23 rfl) rfl (fun _ w hn k => ⟨#[nv (asM a)], args1 (k.eq1 7 24 rfl), fun _ => by kernel_rfl, isInf_c (asM a) _⟩) fun _ => congrArg Value.bool ht184) ?_
        refine .o1 (tg rfl rfl rfl (fun _ _ k => k.eq1 6 23 rfl) fun _ w hn k => ⟨_, v_move rfl (k.eq1 8 25 rfl), rfl⟩) ?_
        refine .o1 (tg rfl rfl rfl (fun _ _ k => k.eq1 9 26 rfl) fun _ w hn k => ⟨_, v_load rfl (k.fx 3 h70) (l_two Tryd.isAgg23 Tryd.sizeOf23 (hb75.new_ hn)), rfl⟩) ?_
        refine .o1 (cg rfl rfl rfl (fun _ _ k => k.eq1 9 26 rfl) rfl (fun _ w hn k => ⟨#[nv (asM b)], args1 (k.eq1 10 27 rfl), fun _ => by kernel_rfl, isInf_c (asM b) _⟩) fun _ => congrArg Value.bool ht185) ?_
        refine .o1 (tg rfl rfl rfl (fun _ _ k => k.eq1 6 23 rfl) fun _ w hn k => ⟨_, v_pickT rfl (k.eq1 9 26 rfl) (k.eq1 11 28 rfl), rfl⟩) ?_
        refine .o1 (tk rfl rfl fun _ w hn k => ⟨_, v_pickF rfl (k.eq1 6 23 rfl) (k.eq1 12 29 rfl), rfl⟩) ?_
        refine .o1 (tk rfl rfl fun _ w hn k => ⟨_, v_move rfl (k.eq1 13 30 rfl), rfl⟩) ?_
        refine .o1 (sk rfl rfl rfl (fun _ _ _ k => k.eq1 14 31 rfl) (fun _ => rfl)) ?_
        refine .o1 (sk rfl rfl rfl (fun _ _ _ k => k.eq1 14 31 rfl) (fun _ => rfl)) ?_
        refine .o1 (sk rfl rfl rfl (fun _ _ _ k => k.eq1 14 31 rfl) (fun _ => rfl)) ?_
        refine .o1 (su rfl rfl rfl (fun _ _ _ k => k.eq1 17 34 rfl) (fun _ => rfl)) ?_
        refine .o1 (su rfl rfl rfl (fun _ _ _ k => k.eq1 17 34 rfl) (fun _ => rfl)) ?_
        refine .o1 (sk rfl rfl rfl (fun _ _ _ k => k.eq1 14 31 rfl) (fun _ => rfl)) ?_
        refine .o1 (tk rfl rfl fun _ w hn k => ⟨_, v_pickT rfl (k.eq1 14 31 rfl) rfl, rfl⟩) ?_
        refine .o1 (tk rfl rfl fun _ w hn k => ⟨_, v_assign rfl (k.eq1 21 38 rfl), rfl⟩) ?_
        exact .nil
      intro a186 w187 hn188 ha189
      have hs190 := ha189.size.trans hs67
      have hd191 := ha189.defers.trans hd68
      have h192 := ha189.fx 2 h69
      have h193 := ha189.fx 3 h70
      have h194 := ha189.fx 4 h71
      have h195 := ha189.fx 5 h72
      have h196 := ha189.fx 6 h73
      have h197 := ha189.ge 22 16 rfl
      have hb198 := hb74.new_ hn188
      have hb199 := hb75.new_ hn188
      have hb200 := hb76.new_ hn188
      have hN201 := hN77.transNew hn188
      clear hs67 hd68 h69 h70 h71 h72 h73 hb74 hb75 hb76 hN77 ha189 hn188
      refine st_nil ?_
      refine hK _ _ ?_
      clear hK K
      refine wp_cond_true h197 ?_
      refine wp_seq_k fun K hK => ?_
      refine wp_g0 [true, false, false] [(1, false), (2, true)] 77
        [ve (nv (Nm.mk 2 0)),
         vt,
         vt] hs190 (.eq (.tt (.tt (.nil)))) ?_ ?_
      · skip
        refine .o1 (ck rfl rfl rfl (fun _ w hn k => ⟨#[], rfl, fun _ => by kernel_rfl, nan_c  _⟩) fun _ => rfl) ?_
        refine .off ?_
        refine .off ?_
        exact .nil
      intro a202 w203 hn204 ha205
      have hs206 := ha205.size.trans hs190
      have hd207 := ha205.defers.trans hd191
      have h208 := ha205.fx 2 h192
      have h209 := ha205.fx 3 h193
      have h210 := ha205.fx 4 h194
      have h211 := ha205.fx 5 h195
      have h212 := ha205.fx 6 h196
      have h213 := ha205.ge 0 39 rfl
      have hb214 := hb198.new_ hn204
      have hb215 := hb199.new_ hn204
      have hb216 := hb200.new_ hn204
      have hN217 := hN201.transNew hn204
      clear hs190 hd191 h192 h193 h194 h195 h196 h197 hb198 hb199 hb200 hN201 ha205 hn204
      obtain ⟨w218, -, hst219, hb220, hu221, hf222⟩ := s_two (v0 := iv 2) (v1 := iv 0) Tryd.sizeOf23 rfl rfl rfl hb216
      refine st_act rfl rfl fun K223 hL224 => a_store' rfl h210 h213 hst219 (hL224 _ _ trivial ?_)
      have hb225 := hf222 _ _ _ (hne21) hb214
      have hb226 := hf222 _ _ _ (hne22) hb215
      have hN227 := hN217.trans hu221 (fun k hk hkb => by subst hkb; omega)
      clear hb216 hst219 K223 hL224 hN217 hb214 hb215 hu221 hf222
      refine st_take rfl rfl (y_assign (v := .bool true) rfl rfl) rfl ?_
      obtain ⟨a228, ha229⟩ : ∃ a', a' = a202.put (some 5) (.bool true) := ⟨_, rfl⟩
      have hs230 : a228.tmps.size = 77 := by rw [ha229, put_size]; exact hs206
      have hd231 : a228.defers = [] := by rw [ha229, put_defers]; exact hd207
      have h232 : a228.eval (.tmp 2) = pv q8 := by rw [ha229, put_ne _ _ _ _ (by decide)]; exact h208
      have h233 : a228.eval (.tmp 3) = pv q12 := by rw [ha229, put_ne _ _ _ _ (by decide)]; exact h209
      have h234 : a228.eval (.tmp 4) = pv q16 := by rw [ha229, put_ne _ _ _ _ (by decide)]; exact h210
      have h235 : a228.eval (.tmp 6) = .bool ((belowB (asM a)) != (belowB (asM b))) := by rw [ha229, put_ne _ _ _ _ (by decide)]; exact h212
      have h236 : a228.eval (.tmp 39) = nv (Nm.mk 2 0) := by rw [ha229, put_ne _ _ _ _ (by decide)]; exact h213
      have h237 : a228.eval (.tmp 5) = .bool true := by rw [ha229]; exact put_same _ _ _ (by rw [hs206]; decide)
      show stepsTo _ _ _ _ _ (a202.put (some 5) (.bool true)) _
      rw [← ha229]
      clear ha229 hs206 hd207 h208 h209 h210 h211 h212 h213
      refine st_nil ?_
      clear h236
      refine hK _ _ ?_
      clear hK K
      refine wp_ret (ret_k hd231 (v := .tuple #[nv (Nm.mk 2 0), .bool true]) (res_ct rfl h234 h237 (l_two Tryd.isAgg23 Tryd.sizeOf23 hb220)) ?_)
      refine ⟨?_, hN227⟩
      show Ending.returned (.tuple #[nv (Nm.mk 2 0), .bool true]) = Ending.returned (.tuple #[nv ((divM a b).1), .bool ((divM a b).2)])
      first | rfl | (simp [divM, divA, ht78, ht131, ht184, ht185])
    rcases Bool.eq_false_or_eq_true (noughtB (asM a)) with ht238 | ht238
    · skip
      refine wp_g0 [true, true, true, true, true, true, true, true, true, true, true, true, true, true, true, true, true, true, true, true, true, true, true] [] 77
        [ve (nv (asM a)),
         ve (.bool false),
         ve (.bool false),
         ve (nv (asM b)),
         ve (.bool false),
         ve (.bool false),
         ve (.bool false),
         ve (nv (asM a)),
         ve (.bool true),
         ve (.bool true),
         ve (nv (asM b)),
         ve (.bool false),
         ve (.bool false),
         ve (.bool false),
         ve (.bool false),
         ve (nv (asM a)),
         ve (.bool true),
         ve (.bool true),
         ve (nv (asM b)),
         ve (.bool (noughtB (asM b))),
         ve (.bool (noughtB (asM b))),
         ve (.bool (noughtB (asM b))),
         ve (.bool (noughtB (asM b)))] hs67 (.eq (.eq (.eq (.eq (.eq (.eq (.eq (.eq (.eq (.eq (.eq (.eq (.eq (.eq (.eq (.eq (.eq (.eq (.eq (.eq (.eq (.eq (.eq (.nil)))))))))))))))))))))))) ?_ ?_
      · skip
        refine .o1 (tk rfl rfl fun _ w hn k => ⟨_, v_load rfl (k.fx 2 h69) (l_two Tryd.isAgg23 Tryd.sizeOf23 (hb74.new_ hn)), rfl⟩) ?_
        refine .o1 (ck rfl rfl rfl (fun _ w hn k => ⟨#[nv (asM a)], args1 (k.eq1 0 17 rfl), fun _ => by kernel_rfl, isNaN_c (asM a) _⟩) fun _ => congrArg Value.bool ht78) ?_
        refine .o1 (tk rfl rfl fun _ w hn k => ⟨_, v_move rfl (k.eq1 1 18 rfl), rfl⟩) ?_
        refine .o1 (tg rfl rfl rfl (fun _ _ k => k.eq1 2 19 rfl) fun _ w hn k => ⟨_, v_load rfl (k.fx 3 h70) (l_two Tryd.isAgg23 Tryd.sizeOf23 (hb75.new_ hn)), rfl⟩) ?_
        refine .o1 (cg rfl rfl rfl (fun _ _ k => k.eq1 2 19 rfl) rfl (fun _ w hn k => ⟨#[nv (asM b)], args1 (k.eq1 3 20 rfl), fun _ => by kernel_rfl, isNaN_c (asM b) _⟩) fun _ => congrArg Value.bool ht131) ?_
        refine .o1 (tk rfl rfl fun _ w hn k => ⟨_, v_pickF rfl (k.eq1 2 19 rfl) (k.eq1 4 21 rfl), rfl⟩) ?_
        refine .o1 (tk rfl rfl fun _ w hn k => ⟨_, v_move rfl (k.eq1 5 22 rfl), rfl⟩) ?_
        refine .o1 (tg rfl rfl rfl (fun _ _ k => k.eq1 6 23 rfl) fun _ w hn k => ⟨_, v_load rfl (k.fx 2 h69) (l_two Tryd.isAgg23 Tryd.sizeOf23 (hb74.new_ hn)), rfl⟩) ?_
        refine .o1 (cg rfl rfl rfl (fun _ _ k => k.eq1 6 23 rfl) rfl (fun _ w hn k => ⟨#[nv (asM a)], args1 (k.eq1 7 24 rfl), fun _ => by kernel_rfl, isInf_c (asM a) _⟩) fun _ => congrArg Value.bool ht184) ?_
        refine .o1 (tg rfl rfl rfl (fun _ _ k => k.eq1 6 23 rfl) fun _ w hn k => ⟨_, v_move rfl (k.eq1 8 25 rfl), rfl⟩) ?_
        refine .o1 (tg rfl rfl rfl (fun _ _ k => k.eq1 9 26 rfl) fun _ w hn k => ⟨_, v_load rfl (k.fx 3 h70) (l_two Tryd.isAgg23 Tryd.sizeOf23 (hb75.new_ hn)), rfl⟩) ?_
        refine .o1 (cg rfl rfl rfl (fun _ _ k => k.eq1 9 26 rfl) rfl (fun _ w hn k => ⟨#[nv (asM b)], args1 (k.eq1 10 27 rfl), fun _ => by kernel_rfl, isInf_c (asM b) _⟩) fun _ => congrArg Value.bool ht185) ?_
        refine .o1 (tg rfl rfl rfl (fun _ _ k => k.eq1 6 23 rfl) fun _ w hn k => ⟨_, v_pickT rfl (k.eq1 9 26 rfl) (k.eq1 11 28 rfl), rfl⟩) ?_
        refine .o1 (tk rfl rfl fun _ w hn k => ⟨_, v_pickF rfl (k.eq1 6 23 rfl) (k.eq1 12 29 rfl), rfl⟩) ?_
        refine .o1 (tk rfl rfl fun _ w hn k => ⟨_, v_move rfl (k.eq1 13 30 rfl), rfl⟩) ?_
        refine .o1 (tg rfl rfl rfl (fun _ _ k => k.eq1 14 31 rfl) fun _ w hn k => ⟨_, v_load rfl (k.fx 2 h69) (l_two Tryd.isAgg23 Tryd.sizeOf23 (hb74.new_ hn)), rfl⟩) ?_
        refine .o1 (cg rfl rfl rfl (fun _ _ k => k.eq1 14 31 rfl) rfl (fun _ w hn k => ⟨#[nv (asM a)], args1 (k.eq1 15 32 rfl), fun _ => by kernel_rfl, isNought_c (asM a) _⟩) fun _ => congrArg Value.bool ht238) ?_
        refine .o1 (tg rfl rfl rfl (fun _ _ k => k.eq1 14 31 rfl) fun _ w hn k => ⟨_, v_move rfl (k.eq1 16 33 rfl), rfl⟩) ?_
        refine .o1 (tg rfl rfl rfl (fun _ _ k => k.eq1 17 34 rfl) fun _ w hn k => ⟨_, v_load rfl (k.fx 3 h70) (l_two Tryd.isAgg23 Tryd.sizeOf23 (hb75.new_ hn)), rfl⟩) ?_
        refine .o1 (cg rfl rfl rfl (fun _ _ k => k.eq1 17 34 rfl) rfl (fun _ w hn k => ⟨#[nv (asM b)], args1 (k.eq1 18 35 rfl), fun _ => by kernel_rfl, isNought_c (asM b) _⟩) fun _ => rfl) ?_
        refine .o1 (tg rfl rfl rfl (fun _ _ k => k.eq1 14 31 rfl) fun _ w hn k => ⟨_, v_pickT rfl (k.eq1 17 34 rfl) (k.eq1 19 36 rfl), rfl⟩) ?_
        refine .o1 (tk rfl rfl fun _ w hn k => ⟨_, v_pickF rfl (k.eq1 14 31 rfl) (k.eq1 20 37 rfl), rfl⟩) ?_
        refine .o1 (tk rfl rfl fun _ w hn k => ⟨_, v_assign rfl (k.eq1 21 38 rfl), rfl⟩) ?_
        exact .nil
      intro a239 w240 hn241 ha242
      have hs243 := ha242.size.trans hs67
      have hd244 := ha242.defers.trans hd68
      have h245 := ha242.fx 2 h69
      have h246 := ha242.fx 3 h70
      have h247 := ha242.fx 4 h71
      have h248 := ha242.fx 5 h72
      have h249 := ha242.fx 6 h73
      have h250 := ha242.ge 22 16 rfl
      have hb251 := hb74.new_ hn241
      have hb252 := hb75.new_ hn241
      have hb253 := hb76.new_ hn241
      have hN254 := hN77.transNew hn241
      clear hs67 hd68 h69 h70 h71 h72 h73 hb74 hb75 hb76 hN77 ha242 hn241
      refine st_nil ?_
      refine hK _ _ ?_
      clear hK K
      rcases Bool.eq_false_or_eq_true (noughtB (asM b)) with ht255 | ht255
      · skip
        have hv256 : a239.eval (.tmp 16) = .bool true := h250.trans (congrArg Value.bool ht255)
        clear h250
        refine wp_cond_true hv256 ?_
        refine wp_seq_k fun K hK => ?_
        refine wp_g0 [true, false, false] [(1, false), (2, true)] 77
          [ve (nv (Nm.mk 2 0)),
           vt,
           vt] hs243 (.eq (.tt (.tt (.nil)))) ?_ ?_
        · skip
          refine .o1 (ck rfl rfl rfl (fun _ w hn k => ⟨#[], rfl, fun _ => by kernel_rfl, nan_c  _⟩) fun _ => rfl) ?_
          refine .off ?_
          refine .off ?_
          exact .nil
        intro a257 w258 hn259 ha260
        have hs261 := ha260.size.trans hs243
        have hd262 := ha260.defers.trans hd244
        have h263 := ha260.fx 2 h245
        have h264 := ha260.fx 3 h246
        have h265 := ha260.fx 4 h247
        have h266 := ha260.fx 5 h248
        have h267 := ha260.fx 6 h249
        have h268 := ha260.ge 0 39 rfl
        have hb269 := hb251.new_ hn259
        have hb270 := hb252.new_ hn259
        have hb271 := hb253.new_ hn259
        have hN272 := hN254.transNew hn259
        clear hs243 hd244 h245 h246 h247 h248 h249 hv256 hb251 hb252 hb253 hN254 ha260 hn259
        obtain ⟨w273, -, hst274, hb275, hu276, hf277⟩ := s_two (v0 := iv 2) (v1 := iv 0) Tryd.sizeOf23 rfl rfl rfl hb271
        refine st_act rfl rfl fun K278 hL279 => a_store' rfl h265 h268 hst274 (hL279 _ _ trivial ?_)
        have hb280 := hf277 _ _ _ (hne21) hb269
        have hb281 := hf277 _ _ _ (hne22) hb270
        have hN282 := hN272.trans hu276 (fun k hk hkb => by subst hkb; omega)
        clear hb271 hst274 K278 hL279 hN272 hb269 hb270 hu276 hf277
        refine st_take rfl rfl (y_assign (v := .bool true) rfl rfl) rfl ?_
        obtain ⟨a283, ha284⟩ : ∃ a', a' = a257.put (some 5) (.bool true) := ⟨_, rfl⟩
        have hs285 : a283.tmps.size = 77 := by rw [ha284, put_size]; exact hs261
        have hd286 : a283.defers = [] := by rw [ha284, put_defers]; exact hd262
        have h287 : a283.eval (.tmp 2) = pv q8 := by rw [ha284, put_ne _ _ _ _ (by decide)]; exact h263
        have h288 : a283.eval (.tmp 3) = pv q12 := by rw [ha284, put_ne _ _ _ _ (by decide)]; exact h264
        have h289 : a283.eval (.tmp 4) = pv q16 := by rw [ha284, put_ne _ _ _ _ (by decide)]; exact h265
        have h290 : a283.eval (.tmp 6) = .bool ((belowB (asM a)) != (belowB (asM b))) := by rw [ha284, put_ne _ _ _ _ (by decide)]; exact h267
        have h291 : a283.eval (.tmp 39) = nv (Nm.mk 2 0) := by rw [ha284, put_ne _ _ _ _ (by decide)]; exact h268
        have h292 : a283.eval (.tmp 5) = .bool true := by rw [ha284]; exact put_same _ _ _ (by rw [hs261]; decide)
        show stepsTo _ _ _ _ _ (a257.put (some 5) (.bool true)) _
        rw [← ha284]
        clear ha284 hs261 hd262 h263 h264 h265 h266 h267 h268
        refine st_nil ?_
        clear h291
        refine hK _ _ ?_
        clear hK K
        refine wp_ret (ret_k hd286 (v := .tuple #[nv (Nm.mk 2 0), .bool true]) (res_ct rfl h289 h292 (l_two Tryd.isAgg23 Tryd.sizeOf23 hb275)) ?_)
        refine ⟨?_, hN282⟩
        show Ending.returned (.tuple #[nv (Nm.mk 2 0), .bool true]) = Ending.returned (.tuple #[nv ((divM a b).1), .bool ((divM a b).2)])
        first | rfl | (simp [divM, divA, ht78, ht131, ht184, ht185, ht238, ht255])
      have hv293 : a239.eval (.tmp 16) = .bool false := h250.trans (congrArg Value.bool ht255)
      clear h250
      refine wp_cond_false hv293 ?_
      refine wp_seq_k fun K hK => ?_
      refine wp_g0 [true, true, true, true, true, true, true] [] 77
        [ve (nv (asM a)),
         ve (.bool true),
         ve (.bool true),
         ve undef,
         ve undef,
         ve (.bool true),
         ve (.bool true)] hs243 (.eq (.eq (.eq (.eq (.eq (.eq (.eq (.nil)))))))) ?_ ?_
      · skip
        refine .o1 (tk rfl rfl fun _ w hn k => ⟨_, v_load rfl (k.fx 2 h245) (l_two Tryd.isAgg23 Tryd.sizeOf23 (hb251.new_ hn)), rfl⟩) ?_
        refine .o1 (ck rfl rfl rfl (fun _ w hn k => ⟨#[nv (asM a)], args1 (k.eq1 0 41 rfl), fun _ => by kernel_rfl, isInf_c (asM a) _⟩) fun _ => congrArg Value.bool ht184) ?_
        refine .o1 (tk rfl rfl fun _ w hn k => ⟨_, v_move rfl (k.eq1 1 42 rfl), rfl⟩) ?_
        refine .o1 (sk rfl rfl rfl (fun _ _ _ k => k.eq1 2 43 rfl) (fun _ => rfl)) ?_
        refine .o1 (sk rfl rfl rfl (fun _ _ _ k => k.eq1 2 43 rfl) (fun _ => rfl)) ?_
        refine .o1 (tk rfl rfl fun _ w hn k => ⟨_, v_pickT rfl (k.eq1 2 43 rfl) rfl, rfl⟩) ?_
        refine .o1 (tk rfl rfl fun _ w hn k => ⟨_, v_assign rfl (k.eq1 5 46 rfl), rfl⟩) ?_
        exact .nil
      intro a294 w295 hn296 ha297
      have hs298 := ha297.size.trans hs243
      have hd299 := ha297.defers.trans hd244
      have h300 := ha297.fx 2 h245
      have h301 := ha297.fx 3 h246
      have h302 := ha297.fx 4 h247
      have h303 := ha297.fx 5 h248
      have h304 := ha297.fx 6 h249
      have h305 := ha297.ge 6 40 rfl
      have hb306 := hb251.new_ hn296
      have hb307 := hb252.new_ hn296
      have hb308 := hb253.new_ hn296
      have hN309 := hN254.transNew hn296
      clear hs243 hd244 h245 h246 h247 h248 h249 hv293 hb251 hb252 hb253 hN254 ha297 hn296
      refine st_nil ?_
      refine hK _ _ ?_
      clear hK K
      refine wp_cond_true h305 ?_
      refine wp_seq_k fun K hK => ?_
      refine wp_g0 [true, true, false, false] [(2, false), (3, true)] 77
        [ve (.bool ((belowB (asM a)) != (belowB (asM b)))),
         ve (nv (infM ((belowB (asM a)) != (belowB (asM b))))),
         vt,
         vt] hs298 (.eq (.eq (.tt (.tt (.nil))))) ?_ ?_
      · skip
        refine .o1 (tk rfl rfl fun _ w hn k => ⟨_, v_move rfl (k.fx 6 h304), rfl⟩) ?_
        refine .o1 (ck rfl rfl rfl (fun _ w hn k => ⟨#[.bool ((belowB (asM a)) != (belowB (asM b)))], args1 (k.eq1 0 47 rfl), fun _ => by kernel_rfl, inf_c ((belowB (asM a)) != (belowB (asM b))) _⟩) fun _ => rfl) ?_
        refine .off ?_
        refine .off ?_
        exact .nil
      intro a310 w311 hn312 ha313
      have hs314 := ha313.size.trans hs298
      have hd315 := ha313.defers.trans hd299
      have h316 := ha313.fx 2 h300
      have h317 := ha313.fx 3 h301
      have h318 := ha313.fx 4 h302
      have h319 := ha313.fx 5 h303
      have h320 := ha313.fx 6 h304
      have h321 := ha313.ge 1 48 rfl
      have hb322 := hb306.new_ hn312
      have hb323 := hb307.new_ hn312
      have hb324 := hb308.new_ hn312
      have hN325 := hN309.transNew hn312
      clear hs298 hd299 h300 h301 h302 h303 h304 h305 hb306 hb307 hb308 hN309 ha313 hn312
      obtain ⟨w326, -, hst327, hb328, hu329, hf330⟩ := s_two (v0 := iv ((infM ((belowB (asM a)) != (belowB (asM b)))).k)) (v1 := iv ((infM ((belowB (asM a)) != (belowB (asM b)))).n)) Tryd.sizeOf23 rfl rfl rfl hb324
      refine st_act rfl rfl fun K331 hL332 => a_store' rfl h318 h321 hst327 (hL332 _ _ trivial ?_)
      have hb333 := hf330 _ _ _ (hne21) hb322
      have hb334 := hf330 _ _ _ (hne22) hb323
      have hN335 := hN325.trans hu329 (fun k hk hkb => by subst hkb; omega)
      clear hb324 hst327 K331 hL332 hN325 hb322 hb323 hu329 hf330
      refine st_take rfl rfl (y_assign (v := .bool true) rfl rfl) rfl ?_
      obtain ⟨a336, ha337⟩ : ∃ a', a' = a310.put (some 5) (.bool true) := ⟨_, rfl⟩
      have hs338 : a336.tmps.size = 77 := by rw [ha337, put_size]; exact hs314
      have hd339 : a336.defers = [] := by rw [ha337, put_defers]; exact hd315
      have h340 : a336.eval (.tmp 2) = pv q8 := by rw [ha337, put_ne _ _ _ _ (by decide)]; exact h316
      have h341 : a336.eval (.tmp 3) = pv q12 := by rw [ha337, put_ne _ _ _ _ (by decide)]; exact h317
      have h342 : a336.eval (.tmp 4) = pv q16 := by rw [ha337, put_ne _ _ _ _ (by decide)]; exact h318
      have h343 : a336.eval (.tmp 6) = .bool ((belowB (asM a)) != (belowB (asM b))) := by rw [ha337, put_ne _ _ _ _ (by decide)]; exact h320
      have h344 : a336.eval (.tmp 48) = nv (infM ((belowB (asM a)) != (belowB (asM b)))) := by rw [ha337, put_ne _ _ _ _ (by decide)]; exact h321
      have h345 : a336.eval (.tmp 5) = .bool true := by rw [ha337]; exact put_same _ _ _ (by rw [hs314]; decide)
      show stepsTo _ _ _ _ _ (a310.put (some 5) (.bool true)) _
      rw [← ha337]
      clear ha337 hs314 hd315 h316 h317 h318 h319 h320 h321
      refine st_nil ?_
      clear h344
      refine hK _ _ ?_
      clear hK K
      refine wp_ret (ret_k hd339 (v := .tuple #[nv (infM ((belowB (asM a)) != (belowB (asM b)))), .bool true]) (res_ct rfl h342 h345 (l_two Tryd.isAgg23 Tryd.sizeOf23 hb328)) ?_)
      refine ⟨?_, hN335⟩
      show Ending.returned (.tuple #[nv (infM ((belowB (asM a)) != (belowB (asM b)))), .bool true]) = Ending.returned (.tuple #[nv ((divM a b).1), .bool ((divM a b).2)])
      first | rfl | (simp [divM, divA, ht78, ht131, ht184, ht185, ht238, ht255])
    refine wp_g0 [true, true, true, true, true, true, true, true, true, true, true, true, true, true, true, true, true, true, true, true, true, true, true] [] 77
      [ve (nv (asM a)),
       ve (.bool false),
       ve (.bool false),
       ve (nv (asM b)),
       ve (.bool false),
       ve (.bool false),
       ve (.bool false),
       ve (nv (asM a)),
       ve (.bool true),
       ve (.bool true),
       ve (nv (asM b)),
       ve (.bool false),
       ve (.bool false),
       ve (.bool false),
       ve (.bool false),
       ve (nv (asM a)),
       ve (.bool false),
       ve (.bool false),
       ve undef,
       ve undef,
       ve (.bool false),
       ve (.bool false),
       ve (.bool false)] hs67 (.eq (.eq (.eq (.eq (.eq (.eq (.eq (.eq (.eq (.eq (.eq (.eq (.eq (.eq (.eq (.eq (.eq (.eq (.eq (.eq (.eq (.eq (.eq (.nil)))))))))))))))))))))))) ?_ ?_
    · skip
      refine .o1 (tk rfl rfl fun _ w hn k => ⟨_, v_load rfl (k.fx 2 h69) (l_two Tryd.isAgg23 Tryd.sizeOf23 (hb74.new_ hn)), rfl⟩) ?_
      refine .o1 (ck rfl rfl rfl (fun _ w hn k => ⟨#[nv (asM a)], args1 (k.eq1 0 17 rfl), fun _ => by kernel_rfl, isNaN_c (asM a) _⟩) fun _ => congrArg Value.bool ht78) ?_
      refine .o1 (tk rfl rfl fun _ w hn k => ⟨_, v_move rfl (k.eq1 1 18 rfl), rfl⟩) ?_
      refine .o1 (tg rfl rfl rfl (fun _ _ k => k.eq1 2 19 rfl) fun _ w hn k => ⟨_, v_load rfl (k.fx 3 h70) (l_two Tryd.isAgg23 Tryd.sizeOf23 (hb75.new_ hn)), rfl⟩) ?_
      refine .o1 (cg rfl rfl rfl (fun _ _ k => k.eq1 2 19 rfl) rfl (fun _ w hn k => ⟨#[nv (asM b)], args1 (k.eq1 3 20 rfl), fun _ => by kernel_rfl, isNaN_c (asM b) _⟩) fun _ => congrArg Value.bool ht131) ?_
      refine .o1 (tk rfl rfl fun _ w hn k => ⟨_, v_pickF rfl (k.eq1 2 19 rfl) (k.eq1 4 21 rfl), rfl⟩) ?_
      refine .o1 (tk rfl rfl fun _ w hn k => ⟨_, v_move rfl (k.eq1 5 22 rfl), rfl⟩) ?_
      refine .o1 (tg rfl rfl rfl (fun _ _ k => k.eq1 6 23 rfl) fun _ w hn k => ⟨_, v_load rfl (k.fx 2 h69) (l_two Tryd.isAgg23 Tryd.sizeOf23 (hb74.new_ hn)), rfl⟩) ?_
      refine .o1 (cg rfl rfl rfl (fun _ _ k => k.eq1 6 23 rfl) rfl (fun _ w hn k => ⟨#[nv (asM a)], args1 (k.eq1 7 24 rfl), fun _ => by kernel_rfl, isInf_c (asM a) _⟩) fun _ => congrArg Value.bool ht184) ?_
      refine .o1 (tg rfl rfl rfl (fun _ _ k => k.eq1 6 23 rfl) fun _ w hn k => ⟨_, v_move rfl (k.eq1 8 25 rfl), rfl⟩) ?_
      refine .o1 (tg rfl rfl rfl (fun _ _ k => k.eq1 9 26 rfl) fun _ w hn k => ⟨_, v_load rfl (k.fx 3 h70) (l_two Tryd.isAgg23 Tryd.sizeOf23 (hb75.new_ hn)), rfl⟩) ?_
      refine .o1 (cg rfl rfl rfl (fun _ _ k => k.eq1 9 26 rfl) rfl (fun _ w hn k => ⟨#[nv (asM b)], args1 (k.eq1 10 27 rfl), fun _ => by kernel_rfl, isInf_c (asM b) _⟩) fun _ => congrArg Value.bool ht185) ?_
      refine .o1 (tg rfl rfl rfl (fun _ _ k => k.eq1 6 23 rfl) fun _ w hn k => ⟨_, v_pickT rfl (k.eq1 9 26 rfl) (k.eq1 11 28 rfl), rfl⟩) ?_
      refine .o1 (tk rfl rfl fun _ w hn k => ⟨_, v_pickF rfl (k.eq1 6 23 rfl) (k.eq1 12 29 rfl), rfl⟩) ?_
      refine .o1 (tk rfl rfl fun _ w hn k => ⟨_, v_move rfl (k.eq1 13 30 rfl), rfl⟩) ?_
      refine .o1 (tg rfl rfl rfl (fun _ _ k => k.eq1 14 31 rfl) fun _ w hn k => ⟨_, v_load rfl (k.fx 2 h69) (l_two Tryd.isAgg23 Tryd.sizeOf23 (hb74.new_ hn)), rfl⟩) ?_
      refine .o1 (cg rfl rfl rfl (fun _ _ k => k.eq1 14 31 rfl) rfl (fun _ w hn k => ⟨#[nv (asM a)], args1 (k.eq1 15 32 rfl), fun _ => by kernel_rfl, isNought_c (asM a) _⟩) fun _ => congrArg Value.bool ht238) ?_
      refine .o1 (tg rfl rfl rfl (fun _ _ k => k.eq1 14 31 rfl) fun _ w hn k => ⟨_, v_move rfl (k.eq1 16 33 rfl), rfl⟩) ?_
      refine .o1 (sk rfl rfl rfl (fun _ _ _ k => k.eq1 17 34 rfl) (fun _ => rfl)) ?_
      refine .o1 (sk rfl rfl rfl (fun _ _ _ k => k.eq1 17 34 rfl) (fun _ => rfl)) ?_
      refine .o1 (tg rfl rfl rfl (fun _ _ k => k.eq1 14 31 rfl) fun _ w hn k => ⟨_, v_pickF rfl (k.eq1 17 34 rfl) rfl, rfl⟩) ?_
      refine .o1 (tk rfl rfl fun _ w hn k => ⟨_, v_pickF rfl (k.eq1 14 31 rfl) (k.eq1 20 37 rfl), rfl⟩) ?_
      refine .o1 (tk rfl rfl fun _ w hn k => ⟨_, v_assign rfl (k.eq1 21 38 rfl), rfl⟩) ?_
      exact .nil
    intro a346 w347 hn348 ha349
    have hs350 := ha349.size.trans hs67
    have hd351 := ha349.defers.trans hd68
    have h352 := ha349.fx 2 h69
    have h353 := ha349.fx 3 h70
    have h354 := ha349.fx 4 h71
    have h355 := ha349.fx 5 h72
    have h356 := ha349.fx 6 h73
    have h357 := ha349.ge 22 16 rfl
    have hb358 := hb74.new_ hn348
    have hb359 := hb75.new_ hn348
    have hb360 := hb76.new_ hn348
    have hN361 := hN77.transNew hn348
    clear hs67 hd68 h69 h70 h71 h72 h73 hb74 hb75 hb76 hN77 ha349 hn348
    refine st_nil ?_
    refine hK _ _ ?_
    clear hK K
    refine wp_cond_false h357 ?_
    refine wp_seq_k fun K hK => ?_
    refine wp_g0 [true, true, true, true, true, true, true] [] 77
      [ve (nv (asM a)),
       ve (.bool true),
       ve (.bool true),
       ve undef,
       ve undef,
       ve (.bool true),
       ve (.bool true)] hs350 (.eq (.eq (.eq (.eq (.eq (.eq (.eq (.nil)))))))) ?_ ?_
    · skip
      refine .o1 (tk rfl rfl fun _ w hn k => ⟨_, v_load rfl (k.fx 2 h352) (l_two Tryd.isAgg23 Tryd.sizeOf23 (hb358.new_ hn)), rfl⟩) ?_
      refine .o1 (ck rfl rfl rfl (fun _ w hn k => ⟨#[nv (asM a)], args1 (k.eq1 0 41 rfl), fun _ => by kernel_rfl, isInf_c (asM a) _⟩) fun _ => congrArg Value.bool ht184) ?_
      refine .o1 (tk rfl rfl fun _ w hn k => ⟨_, v_move rfl (k.eq1 1 42 rfl), rfl⟩) ?_
      refine .o1 (sk rfl rfl rfl (fun _ _ _ k => k.eq1 2 43 rfl) (fun _ => rfl)) ?_
      refine .o1 (sk rfl rfl rfl (fun _ _ _ k => k.eq1 2 43 rfl) (fun _ => rfl)) ?_
      refine .o1 (tk rfl rfl fun _ w hn k => ⟨_, v_pickT rfl (k.eq1 2 43 rfl) rfl, rfl⟩) ?_
      refine .o1 (tk rfl rfl fun _ w hn k => ⟨_, v_assign rfl (k.eq1 5 46 rfl), rfl⟩) ?_
      exact .nil
    intro a362 w363 hn364 ha365
    have hs366 := ha365.size.trans hs350
    have hd367 := ha365.defers.trans hd351
    have h368 := ha365.fx 2 h352
    have h369 := ha365.fx 3 h353
    have h370 := ha365.fx 4 h354
    have h371 := ha365.fx 5 h355
    have h372 := ha365.fx 6 h356
    have h373 := ha365.ge 6 40 rfl
    have hb374 := hb358.new_ hn364
    have hb375 := hb359.new_ hn364
    have hb376 := hb360.new_ hn364
    have hN377 := hN361.transNew hn364
    clear hs350 hd351 h352 h353 h354 h355 h356 h357 hb358 hb359 hb360 hN361 ha365 hn364
    refine st_nil ?_
    refine hK _ _ ?_
    clear hK K
    refine wp_cond_true h373 ?_
    refine wp_seq_k fun K hK => ?_
    refine wp_g0 [true, true, false, false] [(2, false), (3, true)] 77
      [ve (.bool ((belowB (asM a)) != (belowB (asM b)))),
       ve (nv (infM ((belowB (asM a)) != (belowB (asM b))))),
       vt,
       vt] hs366 (.eq (.eq (.tt (.tt (.nil))))) ?_ ?_
    · skip
      refine .o1 (tk rfl rfl fun _ w hn k => ⟨_, v_move rfl (k.fx 6 h372), rfl⟩) ?_
      refine .o1 (ck rfl rfl rfl (fun _ w hn k => ⟨#[.bool ((belowB (asM a)) != (belowB (asM b)))], args1 (k.eq1 0 47 rfl), fun _ => by kernel_rfl, inf_c ((belowB (asM a)) != (belowB (asM b))) _⟩) fun _ => rfl) ?_
      refine .off ?_
      refine .off ?_
      exact .nil
    intro a378 w379 hn380 ha381
    have hs382 := ha381.size.trans hs366
    have hd383 := ha381.defers.trans hd367
    have h384 := ha381.fx 2 h368
    have h385 := ha381.fx 3 h369
    have h386 := ha381.fx 4 h370
    have h387 := ha381.fx 5 h371
    have h388 := ha381.fx 6 h372
    have h389 := ha381.ge 1 48 rfl
    have hb390 := hb374.new_ hn380
    have hb391 := hb375.new_ hn380
    have hb392 := hb376.new_ hn380
    have hN393 := hN377.transNew hn380
    clear hs366 hd367 h368 h369 h370 h371 h372 h373 hb374 hb375 hb376 hN377 ha381 hn380
    obtain ⟨w394, -, hst395, hb396, hu397, hf398⟩ := s_two (v0 := iv ((infM ((belowB (asM a)) != (belowB (asM b)))).k)) (v1 := iv ((infM ((belowB (asM a)) != (belowB (asM b)))).n)) Tryd.sizeOf23 rfl rfl rfl hb392
    refine st_act rfl rfl fun K399 hL400 => a_store' rfl h386 h389 hst395 (hL400 _ _ trivial ?_)
    have hb401 := hf398 _ _ _ (hne21) hb390
    have hb402 := hf398 _ _ _ (hne22) hb391
    have hN403 := hN393.trans hu397 (fun k hk hkb => by subst hkb; omega)
    clear hb392 hst395 K399 hL400 hN393 hb390 hb391 hu397 hf398
    refine st_take rfl rfl (y_assign (v := .bool true) rfl rfl) rfl ?_
    obtain ⟨a404, ha405⟩ : ∃ a', a' = a378.put (some 5) (.bool true) := ⟨_, rfl⟩
    have hs406 : a404.tmps.size = 77 := by rw [ha405, put_size]; exact hs382
    have hd407 : a404.defers = [] := by rw [ha405, put_defers]; exact hd383
    have h408 : a404.eval (.tmp 2) = pv q8 := by rw [ha405, put_ne _ _ _ _ (by decide)]; exact h384
    have h409 : a404.eval (.tmp 3) = pv q12 := by rw [ha405, put_ne _ _ _ _ (by decide)]; exact h385
    have h410 : a404.eval (.tmp 4) = pv q16 := by rw [ha405, put_ne _ _ _ _ (by decide)]; exact h386
    have h411 : a404.eval (.tmp 6) = .bool ((belowB (asM a)) != (belowB (asM b))) := by rw [ha405, put_ne _ _ _ _ (by decide)]; exact h388
    have h412 : a404.eval (.tmp 48) = nv (infM ((belowB (asM a)) != (belowB (asM b)))) := by rw [ha405, put_ne _ _ _ _ (by decide)]; exact h389
    have h413 : a404.eval (.tmp 5) = .bool true := by rw [ha405]; exact put_same _ _ _ (by rw [hs382]; decide)
    show stepsTo _ _ _ _ _ (a378.put (some 5) (.bool true)) _
    rw [← ha405]
    clear ha405 hs382 hd383 h384 h385 h386 h387 h388 h389
    refine st_nil ?_
    clear h412
    refine hK _ _ ?_
    clear hK K
    refine wp_ret (ret_k hd407 (v := .tuple #[nv (infM ((belowB (asM a)) != (belowB (asM b)))), .bool true]) (res_ct rfl h410 h413 (l_two Tryd.isAgg23 Tryd.sizeOf23 hb396)) ?_)
    refine ⟨?_, hN403⟩
    show Ending.returned (.tuple #[nv (infM ((belowB (asM a)) != (belowB (asM b)))), .bool true]) = Ending.returned (.tuple #[nv ((divM a b).1), .bool ((divM a b).2)])
    first | rfl | (simp [divM, divA, ht78, ht131, ht184, ht185, ht238])
  rcases Bool.eq_false_or_eq_true (noughtB (asM a)) with ht414 | ht414
  · skip
    refine wp_g0 [true, true, true, true, true, true, true, true, true, true, true, true, true, true, true, true, true, true, true, true, true, true, true] [] 77
      [ve (nv (asM a)),
       ve (.bool false),
       ve (.bool false),
       ve (nv (asM b)),
       ve (.bool false),
       ve (.bool false),
       ve (.bool false),
       ve (nv (asM a)),
       ve (.bool false),
       ve (.bool false),
       ve undef,
       ve undef,
       ve (.bool false),
       ve (.bool false),
       ve (.bool false),
       ve (nv (asM a)),
       ve (.bool true),
       ve (.bool true),
       ve (nv (asM b)),
       ve (.bool (noughtB (asM b))),
       ve (.bool (noughtB (asM b))),
       ve (.bool (noughtB (asM b))),
       ve (.bool (noughtB (asM b)))] hs67 (.eq (.eq (.eq (.eq (.eq (.eq (.eq (.eq (.eq (.eq (.eq (.eq (.eq (.eq (.eq (.eq (.eq (.eq (.eq (.eq (.eq (.eq (.eq (.nil)))))))))))))))))))))))) ?_ ?_
    · skip
      refine .o1 (tk rfl rfl fun _ w hn k => ⟨_, v_load rfl (k.fx 2 h69) (l_two Tryd.isAgg23 Tryd.sizeOf23 (hb74.new_ hn)), rfl⟩) ?_
      refine .o1 (ck rfl rfl rfl (fun _ w hn k => ⟨#[nv (asM a)], args1 (k.eq1 0 17 rfl), fun _ => by kernel_rfl, isNaN_c (asM a) _⟩) fun _ => congrArg Value.bool ht78) ?_
      refine .o1 (tk rfl rfl fun _ w hn k => ⟨_, v_move rfl (k.eq1 1 18 rfl), rfl⟩) ?_
      refine .o1 (tg rfl rfl rfl (fun _ _ k => k.eq1 2 19 rfl) fun _ w hn k => ⟨_, v_load rfl (k.fx 3 h70) (l_two Tryd.isAgg23 Tryd.sizeOf23 (hb75.new_ hn)), rfl⟩) ?_
      refine .o1 (cg rfl rfl rfl (fun _ _ k => k.eq1 2 19 rfl) rfl (fun _ w hn k => ⟨#[nv (asM b)], args1 (k.eq1 3 20 rfl), fun _ => by kernel_rfl, isNaN_c (asM b) _⟩) fun _ => congrArg Value.bool ht131) ?_
      refine .o1 (tk rfl rfl fun _ w hn k => ⟨_, v_pickF rfl (k.eq1 2 19 rfl) (k.eq1 4 21 rfl), rfl⟩) ?_
      refine .o1 (tk rfl rfl fun _ w hn k => ⟨_, v_move rfl (k.eq1 5 22 rfl), rfl⟩) ?_
      refine .o1 (tg rfl rfl rfl (fun _ _ k => k.eq1 6 23 rfl) fun _ w hn k => ⟨_, v_load rfl (k.fx 2 h69) (l_two Tryd.isAgg23 Tryd.sizeOf23 (hb74.new_ hn)), rfl⟩) ?_
      refine .o1 (cg rfl rfl rfl (fun _ _ k => k.eq1 6 23 rfl) rfl (fun _ w hn k => ⟨#[nv (asM a)], args1 (k.eq1 7 24 rfl), fun _ => by kernel_rfl, isInf_c (asM a) _⟩) fun _ => congrArg Value.bool ht184) ?_
      refine .o1 (tg rfl rfl rfl (fun _ _ k => k.eq1 6 23 rfl) fun _ w hn k => ⟨_, v_move rfl (k.eq1 8 25 rfl), rfl⟩) ?_
      refine .o1 (sk rfl rfl rfl (fun _ _ _ k => k.eq1 9 26 rfl) (fun _ => rfl)) ?_
      refine .o1 (sk rfl rfl rfl (fun _ _ _ k => k.eq1 9 26 rfl) (fun _ => rfl)) ?_
      refine .o1 (tg rfl rfl rfl (fun _ _ k => k.eq1 6 23 rfl) fun _ w hn k => ⟨_, v_pickF rfl (k.eq1 9 26 rfl) rfl, rfl⟩) ?_
      refine .o1 (tk rfl rfl fun _ w hn k => ⟨_, v_pickF rfl (k.eq1 6 23 rfl) (k.eq1 12 29 rfl), rfl⟩) ?_
      refine .o1 (tk rfl rfl fun _ w hn k => ⟨_, v_move rfl (k.eq1 13 30 rfl), rfl⟩) ?_
      refine .o1 (tg rfl rfl rfl (fun _ _ k => k.eq1 14 31 rfl) fun _ w hn k => ⟨_, v_load rfl (k.fx 2 h69) (l_two Tryd.isAgg23 Tryd.sizeOf23 (hb74.new_ hn)), rfl⟩) ?_
      refine .o1 (cg rfl rfl rfl (fun _ _ k => k.eq1 14 31 rfl) rfl (fun _ w hn k => ⟨#[nv (asM a)], args1 (k.eq1 15 32 rfl), fun _ => by kernel_rfl, isNought_c (asM a) _⟩) fun _ => congrArg Value.bool ht414) ?_
      refine .o1 (tg rfl rfl rfl (fun _ _ k => k.eq1 14 31 rfl) fun _ w hn k => ⟨_, v_move rfl (k.eq1 16 33 rfl), rfl⟩) ?_
      refine .o1 (tg rfl rfl rfl (fun _ _ k => k.eq1 17 34 rfl) fun _ w hn k => ⟨_, v_load rfl (k.fx 3 h70) (l_two Tryd.isAgg23 Tryd.sizeOf23 (hb75.new_ hn)), rfl⟩) ?_
      refine .o1 (cg rfl rfl rfl (fun _ _ k => k.eq1 17 34 rfl) rfl (fun _ w hn k => ⟨#[nv (asM b)], args1 (k.eq1 18 35 rfl), fun _ => by kernel_rfl, isNought_c (asM b) _⟩) fun _ => rfl) ?_
      refine .o1 (tg rfl rfl rfl (fun _ _ k => k.eq1 14 31 rfl) fun _ w hn k => ⟨_, v_pickT rfl (k.eq1 17 34 rfl) (k.eq1 19 36 rfl), rfl⟩) ?_
      refine .o1 (tk rfl rfl fun _ w hn k => ⟨_, v_pickF rfl (k.eq1 14 31 rfl) (k.eq1 20 37 rfl), rfl⟩) ?_
      refine .o1 (tk rfl rfl fun _ w hn k => ⟨_, v_assign rfl (k.eq1 21 38 rfl), rfl⟩) ?_
      exact .nil
    intro a415 w416 hn417 ha418
    have hs419 := ha418.size.trans hs67
    have hd420 := ha418.defers.trans hd68
    have h421 := ha418.fx 2 h69
    have h422 := ha418.fx 3 h70
    have h423 := ha418.fx 4 h71
    have h424 := ha418.fx 5 h72
    have h425 := ha418.fx 6 h73
    have h426 := ha418.ge 22 16 rfl
    have hb427 := hb74.new_ hn417
    have hb428 := hb75.new_ hn417
    have hb429 := hb76.new_ hn417
    have hN430 := hN77.transNew hn417
    clear hs67 hd68 h69 h70 h71 h72 h73 hb74 hb75 hb76 hN77 ha418 hn417
    refine st_nil ?_
    refine hK _ _ ?_
    clear hK K
    rcases Bool.eq_false_or_eq_true (noughtB (asM b)) with ht431 | ht431
    · skip
      have hv432 : a415.eval (.tmp 16) = .bool true := h426.trans (congrArg Value.bool ht431)
      clear h426
      refine wp_cond_true hv432 ?_
      refine wp_seq_k fun K hK => ?_
      refine wp_g0 [true, false, false] [(1, false), (2, true)] 77
        [ve (nv (Nm.mk 2 0)),
         vt,
         vt] hs419 (.eq (.tt (.tt (.nil)))) ?_ ?_
      · skip
        refine .o1 (ck rfl rfl rfl (fun _ w hn k => ⟨#[], rfl, fun _ => by kernel_rfl, nan_c  _⟩) fun _ => rfl) ?_
        refine .off ?_
        refine .off ?_
        exact .nil
      intro a433 w434 hn435 ha436
      have hs437 := ha436.size.trans hs419
      have hd438 := ha436.defers.trans hd420
      have h439 := ha436.fx 2 h421
      have h440 := ha436.fx 3 h422
      have h441 := ha436.fx 4 h423
      have h442 := ha436.fx 5 h424
      have h443 := ha436.fx 6 h425
      have h444 := ha436.ge 0 39 rfl
      have hb445 := hb427.new_ hn435
      have hb446 := hb428.new_ hn435
      have hb447 := hb429.new_ hn435
      have hN448 := hN430.transNew hn435
      clear hs419 hd420 h421 h422 h423 h424 h425 hv432 hb427 hb428 hb429 hN430 ha436 hn435
      obtain ⟨w449, -, hst450, hb451, hu452, hf453⟩ := s_two (v0 := iv 2) (v1 := iv 0) Tryd.sizeOf23 rfl rfl rfl hb447
      refine st_act rfl rfl fun K454 hL455 => a_store' rfl h441 h444 hst450 (hL455 _ _ trivial ?_)
      have hb456 := hf453 _ _ _ (hne21) hb445
      have hb457 := hf453 _ _ _ (hne22) hb446
      have hN458 := hN448.trans hu452 (fun k hk hkb => by subst hkb; omega)
      clear hb447 hst450 K454 hL455 hN448 hb445 hb446 hu452 hf453
      refine st_take rfl rfl (y_assign (v := .bool true) rfl rfl) rfl ?_
      obtain ⟨a459, ha460⟩ : ∃ a', a' = a433.put (some 5) (.bool true) := ⟨_, rfl⟩
      have hs461 : a459.tmps.size = 77 := by rw [ha460, put_size]; exact hs437
      have hd462 : a459.defers = [] := by rw [ha460, put_defers]; exact hd438
      have h463 : a459.eval (.tmp 2) = pv q8 := by rw [ha460, put_ne _ _ _ _ (by decide)]; exact h439
      have h464 : a459.eval (.tmp 3) = pv q12 := by rw [ha460, put_ne _ _ _ _ (by decide)]; exact h440
      have h465 : a459.eval (.tmp 4) = pv q16 := by rw [ha460, put_ne _ _ _ _ (by decide)]; exact h441
      have h466 : a459.eval (.tmp 6) = .bool ((belowB (asM a)) != (belowB (asM b))) := by rw [ha460, put_ne _ _ _ _ (by decide)]; exact h443
      have h467 : a459.eval (.tmp 39) = nv (Nm.mk 2 0) := by rw [ha460, put_ne _ _ _ _ (by decide)]; exact h444
      have h468 : a459.eval (.tmp 5) = .bool true := by rw [ha460]; exact put_same _ _ _ (by rw [hs437]; decide)
      show stepsTo _ _ _ _ _ (a433.put (some 5) (.bool true)) _
      rw [← ha460]
      clear ha460 hs437 hd438 h439 h440 h441 h442 h443 h444
      refine st_nil ?_
      clear h467
      refine hK _ _ ?_
      clear hK K
      refine wp_ret (ret_k hd462 (v := .tuple #[nv (Nm.mk 2 0), .bool true]) (res_ct rfl h465 h468 (l_two Tryd.isAgg23 Tryd.sizeOf23 hb451)) ?_)
      refine ⟨?_, hN458⟩
      show Ending.returned (.tuple #[nv (Nm.mk 2 0), .bool true]) = Ending.returned (.tuple #[nv ((divM a b).1), .bool ((divM a b).2)])
      first | rfl | (simp [divM, divA, ht78, ht131, ht184, ht414, ht431])
    have hv469 : a415.eval (.tmp 16) = .bool false := h426.trans (congrArg Value.bool ht431)
    clear h426
    refine wp_cond_false hv469 ?_
    refine wp_seq_k fun K hK => ?_
    refine wp_g0 [true, true, true, true, true, true, true] [] 77
      [ve (nv (asM a)),
       ve (.bool false),
       ve (.bool false),
       ve (nv (asM b)),
       ve (.bool false),
       ve (.bool false),
       ve (.bool false)] hs419 (.eq (.eq (.eq (.eq (.eq (.eq (.eq (.nil)))))))) ?_ ?_
    · skip
      refine .o1 (tk rfl rfl fun _ w hn k => ⟨_, v_load rfl (k.fx 2 h421) (l_two Tryd.isAgg23 Tryd.sizeOf23 (hb427.new_ hn)), rfl⟩) ?_
      refine .o1 (ck rfl rfl rfl (fun _ w hn k => ⟨#[nv (asM a)], args1 (k.eq1 0 41 rfl), fun _ => by kernel_rfl, isInf_c (asM a) _⟩) fun _ => congrArg Value.bool ht184) ?_
      refine .o1 (tk rfl rfl fun _ w hn k => ⟨_, v_move rfl (k.eq1 1 42 rfl), rfl⟩) ?_
      refine .o1 (tg rfl rfl rfl (fun _ _ k => k.eq1 2 43 rfl) fun _ w hn k => ⟨_, v_load rfl (k.fx 3 h422) (l_two Tryd.isAgg23 Tryd.sizeOf23 (hb428.new_ hn)), rfl⟩) ?_
      refine .o1 (cg rfl rfl rfl (fun _ _ k => k.eq1 2 43 rfl) rfl (fun _ w hn k => ⟨#[nv (asM b)], args1 (k.eq1 3 44 rfl), fun _ => by kernel_rfl, isNought_c (asM b) _⟩) fun _ => congrArg Value.bool ht431) ?_
      refine .o1 (tk rfl rfl fun _ w hn k => ⟨_, v_pickF rfl (k.eq1 2 43 rfl) (k.eq1 4 45 rfl), rfl⟩) ?_
      refine .o1 (tk rfl rfl fun _ w hn k => ⟨_, v_assign rfl (k.eq1 5 46 rfl), rfl⟩) ?_
      exact .nil
    intro a470 w471 hn472 ha473
    have hs474 := ha473.size.trans hs419
    have hd475 := ha473.defers.trans hd420
    have h476 := ha473.fx 2 h421
    have h477 := ha473.fx 3 h422
    have h478 := ha473.fx 4 h423
    have h479 := ha473.fx 5 h424
    have h480 := ha473.fx 6 h425
    have h481 := ha473.ge 6 40 rfl
    have hb482 := hb427.new_ hn472
    have hb483 := hb428.new_ hn472
    have hb484 := hb429.new_ hn472
    have hN485 := hN430.transNew hn472
    clear hs419 hd420 h421 h422 h423 h424 h425 hv469 hb427 hb428 hb429 hN430 ha473 hn472
    refine st_nil ?_
    refine hK _ _ ?_
    clear hK K
    refine wp_cond_false h481 ?_
    refine wp_seq_k fun K hK => ?_
    rcases Bool.eq_false_or_eq_true (infB ((asM b).k)) with ht486 | ht486
    · skip
      refine wp_g0 [true, true, true, true, true, true, true] [] 77
        [ve (nv (asM b)),
         ve (.bool true),
         ve (.bool true),
         ve undef,
         ve undef,
         ve (.bool true),
         ve (.bool true)] hs474 (.eq (.eq (.eq (.eq (.eq (.eq (.eq (.nil)))))))) ?_ ?_
      · skip
        refine .o1 (tk rfl rfl fun _ w hn k => ⟨_, v_load rfl (k.fx 3 h477) (l_two Tryd.isAgg23 Tryd.sizeOf23 (hb483.new_ hn)), rfl⟩) ?_
        refine .o1 (ck rfl rfl rfl (fun _ w hn k => ⟨#[nv (asM b)], args1 (k.eq1 0 50 rfl), fun _ => by kernel_rfl, isInf_c (asM b) _⟩) fun _ => congrArg Value.bool ht486) ?_
        refine .o1 (tk rfl rfl fun _ w hn k => ⟨_, v_move rfl (k.eq1 1 51 rfl), rfl⟩) ?_
        refine .o1 (sk rfl rfl rfl (fun _ _ _ k => k.eq1 2 52 rfl) (fun _ => rfl)) ?_
        refine .o1 (sk rfl rfl rfl (fun _ _ _ k => k.eq1 2 52 rfl) (fun _ => rfl)) ?_
        refine .o1 (tk rfl rfl fun _ w hn k => ⟨_, v_pickT rfl (k.eq1 2 52 rfl) rfl, rfl⟩) ?_
        refine .o1 (tk rfl rfl fun _ w hn k => ⟨_, v_assign rfl (k.eq1 5 55 rfl), rfl⟩) ?_
        exact .nil
      intro a487 w488 hn489 ha490
      have hs491 := ha490.size.trans hs474
      have hd492 := ha490.defers.trans hd475
      have h493 := ha490.fx 2 h476
      have h494 := ha490.fx 3 h477
      have h495 := ha490.fx 4 h478
      have h496 := ha490.fx 5 h479
      have h497 := ha490.fx 6 h480
      have h498 := ha490.ge 6 49 rfl
      have hb499 := hb482.new_ hn489
      have hb500 := hb483.new_ hn489
      have hb501 := hb484.new_ hn489
      have hN502 := hN485.transNew hn489
      clear hs474 hd475 h476 h477 h478 h479 h480 h481 hb482 hb483 hb484 hN485 ha490 hn489
      refine st_nil ?_
      refine hK _ _ ?_
      clear hK K
      refine wp_cond_true h498 ?_
      refine wp_seq_k fun K hK => ?_
      refine wp_g0 [true, true, false, false] [(2, false), (3, true)] 77
        [ve (.bool ((belowB (asM a)) != (belowB (asM b)))),
         ve (nv (noughtM ((belowB (asM a)) != (belowB (asM b))))),
         vt,
         vt] hs491 (.eq (.eq (.tt (.tt (.nil))))) ?_ ?_
      · skip
        refine .o1 (tk rfl rfl fun _ w hn k => ⟨_, v_move rfl (k.fx 6 h497), rfl⟩) ?_
        refine .o1 (ck rfl rfl rfl (fun _ w hn k => ⟨#[.bool ((belowB (asM a)) != (belowB (asM b)))], args1 (k.eq1 0 56 rfl), fun _ => by kernel_rfl, nought_c ((belowB (asM a)) != (belowB (asM b))) _⟩) fun _ => rfl) ?_
        refine .off ?_
        refine .off ?_
        exact .nil
      intro a503 w504 hn505 ha506
      have hs507 := ha506.size.trans hs491
      have hd508 := ha506.defers.trans hd492
      have h509 := ha506.fx 2 h493
      have h510 := ha506.fx 3 h494
      have h511 := ha506.fx 4 h495
      have h512 := ha506.fx 5 h496
      have h513 := ha506.fx 6 h497
      have h514 := ha506.ge 1 57 rfl
      have hb515 := hb499.new_ hn505
      have hb516 := hb500.new_ hn505
      have hb517 := hb501.new_ hn505
      have hN518 := hN502.transNew hn505
      clear hs491 hd492 h493 h494 h495 h496 h497 h498 hb499 hb500 hb501 hN502 ha506 hn505
      obtain ⟨w519, -, hst520, hb521, hu522, hf523⟩ := s_two (v0 := iv ((noughtM ((belowB (asM a)) != (belowB (asM b)))).k)) (v1 := iv ((noughtM ((belowB (asM a)) != (belowB (asM b)))).n)) Tryd.sizeOf23 rfl rfl rfl hb517
      refine st_act rfl rfl fun K524 hL525 => a_store' rfl h511 h514 hst520 (hL525 _ _ trivial ?_)
      have hb526 := hf523 _ _ _ (hne21) hb515
      have hb527 := hf523 _ _ _ (hne22) hb516
      have hN528 := hN518.trans hu522 (fun k hk hkb => by subst hkb; omega)
      clear hb517 hst520 K524 hL525 hN518 hb515 hb516 hu522 hf523
      refine st_take rfl rfl (y_assign (v := .bool true) rfl rfl) rfl ?_
      obtain ⟨a529, ha530⟩ : ∃ a', a' = a503.put (some 5) (.bool true) := ⟨_, rfl⟩
      have hs531 : a529.tmps.size = 77 := by rw [ha530, put_size]; exact hs507
      have hd532 : a529.defers = [] := by rw [ha530, put_defers]; exact hd508
      have h533 : a529.eval (.tmp 2) = pv q8 := by rw [ha530, put_ne _ _ _ _ (by decide)]; exact h509
      have h534 : a529.eval (.tmp 3) = pv q12 := by rw [ha530, put_ne _ _ _ _ (by decide)]; exact h510
      have h535 : a529.eval (.tmp 4) = pv q16 := by rw [ha530, put_ne _ _ _ _ (by decide)]; exact h511
      have h536 : a529.eval (.tmp 6) = .bool ((belowB (asM a)) != (belowB (asM b))) := by rw [ha530, put_ne _ _ _ _ (by decide)]; exact h513
      have h537 : a529.eval (.tmp 57) = nv (noughtM ((belowB (asM a)) != (belowB (asM b)))) := by rw [ha530, put_ne _ _ _ _ (by decide)]; exact h514
      have h538 : a529.eval (.tmp 5) = .bool true := by rw [ha530]; exact put_same _ _ _ (by rw [hs507]; decide)
      show stepsTo _ _ _ _ _ (a503.put (some 5) (.bool true)) _
      rw [← ha530]
      clear ha530 hs507 hd508 h509 h510 h511 h512 h513 h514
      refine st_nil ?_
      clear h537
      refine hK _ _ ?_
      clear hK K
      refine wp_ret (ret_k hd532 (v := .tuple #[nv (noughtM ((belowB (asM a)) != (belowB (asM b)))), .bool true]) (res_ct rfl h535 h538 (l_two Tryd.isAgg23 Tryd.sizeOf23 hb521)) ?_)
      refine ⟨?_, hN528⟩
      show Ending.returned (.tuple #[nv (noughtM ((belowB (asM a)) != (belowB (asM b)))), .bool true]) = Ending.returned (.tuple #[nv ((divM a b).1), .bool ((divM a b).2)])
      first | rfl | (simp [divM, divA, ht78, ht131, ht184, ht414, ht431, ht486])
    refine wp_g0 [true, true, true, true, true, true, true] [] 77
      [ve (nv (asM b)),
       ve (.bool false),
       ve (.bool false),
       ve (nv (asM a)),
       ve (.bool true),
       ve (.bool true),
       ve (.bool true)] hs474 (.eq (.eq (.eq (.eq (.eq (.eq (.eq (.nil)))))))) ?_ ?_
    · skip
      refine .o1 (tk rfl rfl fun _ w hn k => ⟨_, v_load rfl (k.fx 3 h477) (l_two Tryd.isAgg23 Tryd.sizeOf23 (hb483.new_ hn)), rfl⟩) ?_
      refine .o1 (ck rfl rfl rfl (fun _ w hn k => ⟨#[nv (asM b)], args1 (k.eq1 0 50 rfl), fun _ => by kernel_rfl, isInf_c (asM b) _⟩) fun _ => congrArg Value.bool ht486) ?_
      refine .o1 (tk rfl rfl fun _ w hn k => ⟨_, v_move rfl (k.eq1 1 51 rfl), rfl⟩) ?_
      refine .o1 (tg rfl rfl rfl (fun _ _ k => k.eq1 2 52 rfl) fun _ w hn k => ⟨_, v_load rfl (k.fx 2 h476) (l_two Tryd.isAgg23 Tryd.sizeOf23 (hb482.new_ hn)), rfl⟩) ?_
      refine .o1 (cg rfl rfl rfl (fun _ _ k => k.eq1 2 52 rfl) rfl (fun _ w hn k => ⟨#[nv (asM a)], args1 (k.eq1 3 53 rfl), fun _ => by kernel_rfl, isNought_c (asM a) _⟩) fun _ => congrArg Value.bool ht414) ?_
      refine .o1 (tk rfl rfl fun _ w hn k => ⟨_, v_pickF rfl (k.eq1 2 52 rfl) (k.eq1 4 54 rfl), rfl⟩) ?_
      refine .o1 (tk rfl rfl fun _ w hn k => ⟨_, v_assign rfl (k.eq1 5 55 rfl), rfl⟩) ?_
      exact .nil
    intro a539 w540 hn541 ha542
    have hs543 := ha542.size.trans hs474
    have hd544 := ha542.defers.trans hd475
    have h545 := ha542.fx 2 h476
    have h546 := ha542.fx 3 h477
    have h547 := ha542.fx 4 h478
    have h548 := ha542.fx 5 h479
    have h549 := ha542.fx 6 h480
    have h550 := ha542.ge 6 49 rfl
    have hb551 := hb482.new_ hn541
    have hb552 := hb483.new_ hn541
    have hb553 := hb484.new_ hn541
    have hN554 := hN485.transNew hn541
    clear hs474 hd475 h476 h477 h478 h479 h480 h481 hb482 hb483 hb484 hN485 ha542 hn541
    refine st_nil ?_
    refine hK _ _ ?_
    clear hK K
    refine wp_cond_true h550 ?_
    refine wp_seq_k fun K hK => ?_
    refine wp_g0 [true, true, false, false] [(2, false), (3, true)] 77
      [ve (.bool ((belowB (asM a)) != (belowB (asM b)))),
       ve (nv (noughtM ((belowB (asM a)) != (belowB (asM b))))),
       vt,
       vt] hs543 (.eq (.eq (.tt (.tt (.nil))))) ?_ ?_
    · skip
      refine .o1 (tk rfl rfl fun _ w hn k => ⟨_, v_move rfl (k.fx 6 h549), rfl⟩) ?_
      refine .o1 (ck rfl rfl rfl (fun _ w hn k => ⟨#[.bool ((belowB (asM a)) != (belowB (asM b)))], args1 (k.eq1 0 56 rfl), fun _ => by kernel_rfl, nought_c ((belowB (asM a)) != (belowB (asM b))) _⟩) fun _ => rfl) ?_
      refine .off ?_
      refine .off ?_
      exact .nil
    intro a555 w556 hn557 ha558
    have hs559 := ha558.size.trans hs543
    have hd560 := ha558.defers.trans hd544
    have h561 := ha558.fx 2 h545
    have h562 := ha558.fx 3 h546
    have h563 := ha558.fx 4 h547
    have h564 := ha558.fx 5 h548
    have h565 := ha558.fx 6 h549
    have h566 := ha558.ge 1 57 rfl
    have hb567 := hb551.new_ hn557
    have hb568 := hb552.new_ hn557
    have hb569 := hb553.new_ hn557
    have hN570 := hN554.transNew hn557
    clear hs543 hd544 h545 h546 h547 h548 h549 h550 hb551 hb552 hb553 hN554 ha558 hn557
    obtain ⟨w571, -, hst572, hb573, hu574, hf575⟩ := s_two (v0 := iv ((noughtM ((belowB (asM a)) != (belowB (asM b)))).k)) (v1 := iv ((noughtM ((belowB (asM a)) != (belowB (asM b)))).n)) Tryd.sizeOf23 rfl rfl rfl hb569
    refine st_act rfl rfl fun K576 hL577 => a_store' rfl h563 h566 hst572 (hL577 _ _ trivial ?_)
    have hb578 := hf575 _ _ _ (hne21) hb567
    have hb579 := hf575 _ _ _ (hne22) hb568
    have hN580 := hN570.trans hu574 (fun k hk hkb => by subst hkb; omega)
    clear hb569 hst572 K576 hL577 hN570 hb567 hb568 hu574 hf575
    refine st_take rfl rfl (y_assign (v := .bool true) rfl rfl) rfl ?_
    obtain ⟨a581, ha582⟩ : ∃ a', a' = a555.put (some 5) (.bool true) := ⟨_, rfl⟩
    have hs583 : a581.tmps.size = 77 := by rw [ha582, put_size]; exact hs559
    have hd584 : a581.defers = [] := by rw [ha582, put_defers]; exact hd560
    have h585 : a581.eval (.tmp 2) = pv q8 := by rw [ha582, put_ne _ _ _ _ (by decide)]; exact h561
    have h586 : a581.eval (.tmp 3) = pv q12 := by rw [ha582, put_ne _ _ _ _ (by decide)]; exact h562
    have h587 : a581.eval (.tmp 4) = pv q16 := by rw [ha582, put_ne _ _ _ _ (by decide)]; exact h563
    have h588 : a581.eval (.tmp 6) = .bool ((belowB (asM a)) != (belowB (asM b))) := by rw [ha582, put_ne _ _ _ _ (by decide)]; exact h565
    have h589 : a581.eval (.tmp 57) = nv (noughtM ((belowB (asM a)) != (belowB (asM b)))) := by rw [ha582, put_ne _ _ _ _ (by decide)]; exact h566
    have h590 : a581.eval (.tmp 5) = .bool true := by rw [ha582]; exact put_same _ _ _ (by rw [hs559]; decide)
    show stepsTo _ _ _ _ _ (a555.put (some 5) (.bool true)) _
    rw [← ha582]
    clear ha582 hs559 hd560 h561 h562 h563 h564 h565 h566
    refine st_nil ?_
    clear h589
    refine hK _ _ ?_
    clear hK K
    refine wp_ret (ret_k hd584 (v := .tuple #[nv (noughtM ((belowB (asM a)) != (belowB (asM b)))), .bool true]) (res_ct rfl h587 h590 (l_two Tryd.isAgg23 Tryd.sizeOf23 hb573)) ?_)
    refine ⟨?_, hN580⟩
    show Ending.returned (.tuple #[nv (noughtM ((belowB (asM a)) != (belowB (asM b)))), .bool true]) = Ending.returned (.tuple #[nv ((divM a b).1), .bool ((divM a b).2)])
    first | rfl | (simp [divM, divA, ht78, ht131, ht184, ht414, ht431, ht486])
  refine wp_g0 [true, true, true, true, true, true, true, true, true, true, true, true, true, true, true, true, true, true, true, true, true, true, true] [] 77
    [ve (nv (asM a)),
     ve (.bool false),
     ve (.bool false),
     ve (nv (asM b)),
     ve (.bool false),
     ve (.bool false),
     ve (.bool false),
     ve (nv (asM a)),
     ve (.bool false),
     ve (.bool false),
     ve undef,
     ve undef,
     ve (.bool false),
     ve (.bool false),
     ve (.bool false),
     ve (nv (asM a)),
     ve (.bool false),
     ve (.bool false),
     ve undef,
     ve undef,
     ve (.bool false),
     ve (.bool false),
     ve (.bool false)] hs67 (.eq (.eq (.eq (.eq (.eq (.eq (.eq (.eq (.eq (.eq (.eq (.eq (.eq (.eq (.eq (.eq (.eq (.eq (.eq (.eq (.eq (.eq (.eq (.nil)))))))))))))))))))))))) ?_ ?_
  · skip
    refine .o1 (tk rfl rfl fun _ w hn k => ⟨_, v_load rfl (k.fx 2 h69) (l_two Tryd.isAgg23 Tryd.sizeOf23 (hb74.new_ hn)), rfl⟩) ?_
    refine .o1 (ck rfl rfl rfl (fun _ w hn k => ⟨#[nv (asM a)], args1 (k.eq1 0 17 rfl), fun _ => by kernel_rfl, isNaN_c (asM a) _⟩) fun _ => congrArg Value.bool ht78) ?_
    refine .o1 (tk rfl rfl fun _ w hn k => ⟨_, v_move rfl (k.eq1 1 18 rfl), rfl⟩) ?_
    refine .o1 (tg rfl rfl rfl (fun _ _ k => k.eq1 2 19 rfl) fun _ w hn k => ⟨_, v_load rfl (k.fx 3 h70) (l_two Tryd.isAgg23 Tryd.sizeOf23 (hb75.new_ hn)), rfl⟩) ?_
    refine .o1 (cg rfl rfl rfl (fun _ _ k => k.eq1 2 19 rfl) rfl (fun _ w hn k => ⟨#[nv (asM b)], args1 (k.eq1 3 20 rfl), fun _ => by kernel_rfl, isNaN_c (asM b) _⟩) fun _ => congrArg Value.bool ht131) ?_
    refine .o1 (tk rfl rfl fun _ w hn k => ⟨_, v_pickF rfl (k.eq1 2 19 rfl) (k.eq1 4 21 rfl), rfl⟩) ?_
    refine .o1 (tk rfl rfl fun _ w hn k => ⟨_, v_move rfl (k.eq1 5 22 rfl), rfl⟩) ?_
    refine .o1 (tg rfl rfl rfl (fun _ _ k => k.eq1 6 23 rfl) fun _ w hn k => ⟨_, v_load rfl (k.fx 2 h69) (l_two Tryd.isAgg23 Tryd.sizeOf23 (hb74.new_ hn)), rfl⟩) ?_
    refine .o1 (cg rfl rfl rfl (fun _ _ k => k.eq1 6 23 rfl) rfl (fun _ w hn k => ⟨#[nv (asM a)], args1 (k.eq1 7 24 rfl), fun _ => by kernel_rfl, isInf_c (asM a) _⟩) fun _ => congrArg Value.bool ht184) ?_
    refine .o1 (tg rfl rfl rfl (fun _ _ k => k.eq1 6 23 rfl) fun _ w hn k => ⟨_, v_move rfl (k.eq1 8 25 rfl), rfl⟩) ?_
    refine .o1 (sk rfl rfl rfl (fun _ _ _ k => k.eq1 9 26 rfl) (fun _ => rfl)) ?_
    refine .o1 (sk rfl rfl rfl (fun _ _ _ k => k.eq1 9 26 rfl) (fun _ => rfl)) ?_
    refine .o1 (tg rfl rfl rfl (fun _ _ k => k.eq1 6 23 rfl) fun _ w hn k => ⟨_, v_pickF rfl (k.eq1 9 26 rfl) rfl, rfl⟩) ?_
    refine .o1 (tk rfl rfl fun _ w hn k => ⟨_, v_pickF rfl (k.eq1 6 23 rfl) (k.eq1 12 29 rfl), rfl⟩) ?_
    refine .o1 (tk rfl rfl fun _ w hn k => ⟨_, v_move rfl (k.eq1 13 30 rfl), rfl⟩) ?_
    refine .o1 (tg rfl rfl rfl (fun _ _ k => k.eq1 14 31 rfl) fun _ w hn k => ⟨_, v_load rfl (k.fx 2 h69) (l_two Tryd.isAgg23 Tryd.sizeOf23 (hb74.new_ hn)), rfl⟩) ?_
    refine .o1 (cg rfl rfl rfl (fun _ _ k => k.eq1 14 31 rfl) rfl (fun _ w hn k => ⟨#[nv (asM a)], args1 (k.eq1 15 32 rfl), fun _ => by kernel_rfl, isNought_c (asM a) _⟩) fun _ => congrArg Value.bool ht414) ?_
    refine .o1 (tg rfl rfl rfl (fun _ _ k => k.eq1 14 31 rfl) fun _ w hn k => ⟨_, v_move rfl (k.eq1 16 33 rfl), rfl⟩) ?_
    refine .o1 (sk rfl rfl rfl (fun _ _ _ k => k.eq1 17 34 rfl) (fun _ => rfl)) ?_
    refine .o1 (sk rfl rfl rfl (fun _ _ _ k => k.eq1 17 34 rfl) (fun _ => rfl)) ?_
    refine .o1 (tg rfl rfl rfl (fun _ _ k => k.eq1 14 31 rfl) fun _ w hn k => ⟨_, v_pickF rfl (k.eq1 17 34 rfl) rfl, rfl⟩) ?_
    refine .o1 (tk rfl rfl fun _ w hn k => ⟨_, v_pickF rfl (k.eq1 14 31 rfl) (k.eq1 20 37 rfl), rfl⟩) ?_
    refine .o1 (tk rfl rfl fun _ w hn k => ⟨_, v_assign rfl (k.eq1 21 38 rfl), rfl⟩) ?_
    exact .nil
  intro a591 w592 hn593 ha594
  have hs595 := ha594.size.trans hs67
  have hd596 := ha594.defers.trans hd68
  have h597 := ha594.fx 2 h69
  have h598 := ha594.fx 3 h70
  have h599 := ha594.fx 4 h71
  have h600 := ha594.fx 5 h72
  have h601 := ha594.fx 6 h73
  have h602 := ha594.ge 22 16 rfl
  have hb603 := hb74.new_ hn593
  have hb604 := hb75.new_ hn593
  have hb605 := hb76.new_ hn593
  have hN606 := hN77.transNew hn593
  clear hs67 hd68 h69 h70 h71 h72 h73 hb74 hb75 hb76 hN77 ha594 hn593
  refine st_nil ?_
  refine hK _ _ ?_
  clear hK K
  refine wp_cond_false h602 ?_
  refine wp_seq_k fun K hK => ?_
  refine wp_g0 [true, true, true, true, true, true, true] [] 77
    [ve (nv (asM a)),
     ve (.bool false),
     ve (.bool false),
     ve (nv (asM b)),
     ve (.bool (noughtB (asM b))),
     ve (.bool (noughtB (asM b))),
     ve (.bool (noughtB (asM b)))] hs595 (.eq (.eq (.eq (.eq (.eq (.eq (.eq (.nil)))))))) ?_ ?_
  · skip
    refine .o1 (tk rfl rfl fun _ w hn k => ⟨_, v_load rfl (k.fx 2 h597) (l_two Tryd.isAgg23 Tryd.sizeOf23 (hb603.new_ hn)), rfl⟩) ?_
    refine .o1 (ck rfl rfl rfl (fun _ w hn k => ⟨#[nv (asM a)], args1 (k.eq1 0 41 rfl), fun _ => by kernel_rfl, isInf_c (asM a) _⟩) fun _ => congrArg Value.bool ht184) ?_
    refine .o1 (tk rfl rfl fun _ w hn k => ⟨_, v_move rfl (k.eq1 1 42 rfl), rfl⟩) ?_
    refine .o1 (tg rfl rfl rfl (fun _ _ k => k.eq1 2 43 rfl) fun _ w hn k => ⟨_, v_load rfl (k.fx 3 h598) (l_two Tryd.isAgg23 Tryd.sizeOf23 (hb604.new_ hn)), rfl⟩) ?_
    refine .o1 (cg rfl rfl rfl (fun _ _ k => k.eq1 2 43 rfl) rfl (fun _ w hn k => ⟨#[nv (asM b)], args1 (k.eq1 3 44 rfl), fun _ => by kernel_rfl, isNought_c (asM b) _⟩) fun _ => rfl) ?_
    refine .o1 (tk rfl rfl fun _ w hn k => ⟨_, v_pickF rfl (k.eq1 2 43 rfl) (k.eq1 4 45 rfl), rfl⟩) ?_
    refine .o1 (tk rfl rfl fun _ w hn k => ⟨_, v_assign rfl (k.eq1 5 46 rfl), rfl⟩) ?_
    exact .nil
  intro a607 w608 hn609 ha610
  have hs611 := ha610.size.trans hs595
  have hd612 := ha610.defers.trans hd596
  have h613 := ha610.fx 2 h597
  have h614 := ha610.fx 3 h598
  have h615 := ha610.fx 4 h599
  have h616 := ha610.fx 5 h600
  have h617 := ha610.fx 6 h601
  have h618 := ha610.ge 6 40 rfl
  have hb619 := hb603.new_ hn609
  have hb620 := hb604.new_ hn609
  have hb621 := hb605.new_ hn609
  have hN622 := hN606.transNew hn609
  clear hs595 hd596 h597 h598 h599 h600 h601 h602 hb603 hb604 hb605 hN606 ha610 hn609
  refine st_nil ?_
  refine hK _ _ ?_
  clear hK K
  rcases Bool.eq_false_or_eq_true (noughtB (asM b)) with ht623 | ht623
  · skip
    have hv624 : a607.eval (.tmp 40) = .bool true := h618.trans (congrArg Value.bool ht623)
    clear h618
    refine wp_cond_true hv624 ?_
    refine wp_seq_k fun K hK => ?_
    refine wp_g0 [true, true, false, false] [(2, false), (3, true)] 77
      [ve (.bool ((belowB (asM a)) != (belowB (asM b)))),
       ve (nv (infM ((belowB (asM a)) != (belowB (asM b))))),
       vt,
       vt] hs611 (.eq (.eq (.tt (.tt (.nil))))) ?_ ?_
    · skip
      refine .o1 (tk rfl rfl fun _ w hn k => ⟨_, v_move rfl (k.fx 6 h617), rfl⟩) ?_
      refine .o1 (ck rfl rfl rfl (fun _ w hn k => ⟨#[.bool ((belowB (asM a)) != (belowB (asM b)))], args1 (k.eq1 0 47 rfl), fun _ => by kernel_rfl, inf_c ((belowB (asM a)) != (belowB (asM b))) _⟩) fun _ => rfl) ?_
      refine .off ?_
      refine .off ?_
      exact .nil
    intro a625 w626 hn627 ha628
    have hs629 := ha628.size.trans hs611
    have hd630 := ha628.defers.trans hd612
    have h631 := ha628.fx 2 h613
    have h632 := ha628.fx 3 h614
    have h633 := ha628.fx 4 h615
    have h634 := ha628.fx 5 h616
    have h635 := ha628.fx 6 h617
    have h636 := ha628.ge 1 48 rfl
    have hb637 := hb619.new_ hn627
    have hb638 := hb620.new_ hn627
    have hb639 := hb621.new_ hn627
    have hN640 := hN622.transNew hn627
    clear hs611 hd612 h613 h614 h615 h616 h617 hv624 hb619 hb620 hb621 hN622 ha628 hn627
    obtain ⟨w641, -, hst642, hb643, hu644, hf645⟩ := s_two (v0 := iv ((infM ((belowB (asM a)) != (belowB (asM b)))).k)) (v1 := iv ((infM ((belowB (asM a)) != (belowB (asM b)))).n)) Tryd.sizeOf23 rfl rfl rfl hb639
    refine st_act rfl rfl fun K646 hL647 => a_store' rfl h633 h636 hst642 (hL647 _ _ trivial ?_)
    have hb648 := hf645 _ _ _ (hne21) hb637
    have hb649 := hf645 _ _ _ (hne22) hb638
    have hN650 := hN640.trans hu644 (fun k hk hkb => by subst hkb; omega)
    clear hb639 hst642 K646 hL647 hN640 hb637 hb638 hu644 hf645
    refine st_take rfl rfl (y_assign (v := .bool true) rfl rfl) rfl ?_
    obtain ⟨a651, ha652⟩ : ∃ a', a' = a625.put (some 5) (.bool true) := ⟨_, rfl⟩
    have hs653 : a651.tmps.size = 77 := by rw [ha652, put_size]; exact hs629
    have hd654 : a651.defers = [] := by rw [ha652, put_defers]; exact hd630
    have h655 : a651.eval (.tmp 2) = pv q8 := by rw [ha652, put_ne _ _ _ _ (by decide)]; exact h631
    have h656 : a651.eval (.tmp 3) = pv q12 := by rw [ha652, put_ne _ _ _ _ (by decide)]; exact h632
    have h657 : a651.eval (.tmp 4) = pv q16 := by rw [ha652, put_ne _ _ _ _ (by decide)]; exact h633
    have h658 : a651.eval (.tmp 6) = .bool ((belowB (asM a)) != (belowB (asM b))) := by rw [ha652, put_ne _ _ _ _ (by decide)]; exact h635
    have h659 : a651.eval (.tmp 48) = nv (infM ((belowB (asM a)) != (belowB (asM b)))) := by rw [ha652, put_ne _ _ _ _ (by decide)]; exact h636
    have h660 : a651.eval (.tmp 5) = .bool true := by rw [ha652]; exact put_same _ _ _ (by rw [hs629]; decide)
    show stepsTo _ _ _ _ _ (a625.put (some 5) (.bool true)) _
    rw [← ha652]
    clear ha652 hs629 hd630 h631 h632 h633 h634 h635 h636
    refine st_nil ?_
    clear h659
    refine hK _ _ ?_
    clear hK K
    refine wp_ret (ret_k hd654 (v := .tuple #[nv (infM ((belowB (asM a)) != (belowB (asM b)))), .bool true]) (res_ct rfl h657 h660 (l_two Tryd.isAgg23 Tryd.sizeOf23 hb643)) ?_)
    refine ⟨?_, hN650⟩
    show Ending.returned (.tuple #[nv (infM ((belowB (asM a)) != (belowB (asM b)))), .bool true]) = Ending.returned (.tuple #[nv ((divM a b).1), .bool ((divM a b).2)])
    first | rfl | (simp [divM, divA, ht78, ht131, ht184, ht414, ht623])
  have hv661 : a607.eval (.tmp 40) = .bool false := h618.trans (congrArg Value.bool ht623)
  clear h618
  refine wp_cond_false hv661 ?_
  refine wp_seq_k fun K hK => ?_
  rcases Bool.eq_false_or_eq_true (infB ((asM b).k)) with ht662 | ht662
  · skip
    refine wp_g0 [true, true, true, true, true, true, true] [] 77
      [ve (nv (asM b)),
       ve (.bool true),
       ve (.bool true),
       ve undef,
       ve undef,
       ve (.bool true),
       ve (.bool true)] hs611 (.eq (.eq (.eq (.eq (.eq (.eq (.eq (.nil)))))))) ?_ ?_
    · skip
      refine .o1 (tk rfl rfl fun _ w hn k => ⟨_, v_load rfl (k.fx 3 h614) (l_two Tryd.isAgg23 Tryd.sizeOf23 (hb620.new_ hn)), rfl⟩) ?_
      refine .o1 (ck rfl rfl rfl (fun _ w hn k => ⟨#[nv (asM b)], args1 (k.eq1 0 50 rfl), fun _ => by kernel_rfl, isInf_c (asM b) _⟩) fun _ => congrArg Value.bool ht662) ?_
      refine .o1 (tk rfl rfl fun _ w hn k => ⟨_, v_move rfl (k.eq1 1 51 rfl), rfl⟩) ?_
      refine .o1 (sk rfl rfl rfl (fun _ _ _ k => k.eq1 2 52 rfl) (fun _ => rfl)) ?_
      refine .o1 (sk rfl rfl rfl (fun _ _ _ k => k.eq1 2 52 rfl) (fun _ => rfl)) ?_
      refine .o1 (tk rfl rfl fun _ w hn k => ⟨_, v_pickT rfl (k.eq1 2 52 rfl) rfl, rfl⟩) ?_
      refine .o1 (tk rfl rfl fun _ w hn k => ⟨_, v_assign rfl (k.eq1 5 55 rfl), rfl⟩) ?_
      exact .nil
    intro a663 w664 hn665 ha666
    have hs667 := ha666.size.trans hs611
    have hd668 := ha666.defers.trans hd612
    have h669 := ha666.fx 2 h613
    have h670 := ha666.fx 3 h614
    have h671 := ha666.fx 4 h615
    have h672 := ha666.fx 5 h616
    have h673 := ha666.fx 6 h617
    have h674 := ha666.ge 6 49 rfl
    have hb675 := hb619.new_ hn665
    have hb676 := hb620.new_ hn665
    have hb677 := hb621.new_ hn665
    have hN678 := hN622.transNew hn665
    clear hs611 hd612 h613 h614 h615 h616 h617 hv661 hb619 hb620 hb621 hN622 ha666 hn665
    refine st_nil ?_
    refine hK _ _ ?_
    clear hK K
    refine wp_cond_true h674 ?_
    refine wp_seq_k fun K hK => ?_
    refine wp_g0 [true, true, false, false] [(2, false), (3, true)] 77
      [ve (.bool ((belowB (asM a)) != (belowB (asM b)))),
       ve (nv (noughtM ((belowB (asM a)) != (belowB (asM b))))),
       vt,
       vt] hs667 (.eq (.eq (.tt (.tt (.nil))))) ?_ ?_
    · skip
      refine .o1 (tk rfl rfl fun _ w hn k => ⟨_, v_move rfl (k.fx 6 h673), rfl⟩) ?_
      refine .o1 (ck rfl rfl rfl (fun _ w hn k => ⟨#[.bool ((belowB (asM a)) != (belowB (asM b)))], args1 (k.eq1 0 56 rfl), fun _ => by kernel_rfl, nought_c ((belowB (asM a)) != (belowB (asM b))) _⟩) fun _ => rfl) ?_
      refine .off ?_
      refine .off ?_
      exact .nil
    intro a679 w680 hn681 ha682
    have hs683 := ha682.size.trans hs667
    have hd684 := ha682.defers.trans hd668
    have h685 := ha682.fx 2 h669
    have h686 := ha682.fx 3 h670
    have h687 := ha682.fx 4 h671
    have h688 := ha682.fx 5 h672
    have h689 := ha682.fx 6 h673
    have h690 := ha682.ge 1 57 rfl
    have hb691 := hb675.new_ hn681
    have hb692 := hb676.new_ hn681
    have hb693 := hb677.new_ hn681
    have hN694 := hN678.transNew hn681
    clear hs667 hd668 h669 h670 h671 h672 h673 h674 hb675 hb676 hb677 hN678 ha682 hn681
    obtain ⟨w695, -, hst696, hb697, hu698, hf699⟩ := s_two (v0 := iv ((noughtM ((belowB (asM a)) != (belowB (asM b)))).k)) (v1 := iv ((noughtM ((belowB (asM a)) != (belowB (asM b)))).n)) Tryd.sizeOf23 rfl rfl rfl hb693
    refine st_act rfl rfl fun K700 hL701 => a_store' rfl h687 h690 hst696 (hL701 _ _ trivial ?_)
    have hb702 := hf699 _ _ _ (hne21) hb691
    have hb703 := hf699 _ _ _ (hne22) hb692
    have hN704 := hN694.trans hu698 (fun k hk hkb => by subst hkb; omega)
    clear hb693 hst696 K700 hL701 hN694 hb691 hb692 hu698 hf699
    refine st_take rfl rfl (y_assign (v := .bool true) rfl rfl) rfl ?_
    obtain ⟨a705, ha706⟩ : ∃ a', a' = a679.put (some 5) (.bool true) := ⟨_, rfl⟩
    have hs707 : a705.tmps.size = 77 := by rw [ha706, put_size]; exact hs683
    have hd708 : a705.defers = [] := by rw [ha706, put_defers]; exact hd684
    have h709 : a705.eval (.tmp 2) = pv q8 := by rw [ha706, put_ne _ _ _ _ (by decide)]; exact h685
    have h710 : a705.eval (.tmp 3) = pv q12 := by rw [ha706, put_ne _ _ _ _ (by decide)]; exact h686
    have h711 : a705.eval (.tmp 4) = pv q16 := by rw [ha706, put_ne _ _ _ _ (by decide)]; exact h687
    have h712 : a705.eval (.tmp 6) = .bool ((belowB (asM a)) != (belowB (asM b))) := by rw [ha706, put_ne _ _ _ _ (by decide)]; exact h689
    have h713 : a705.eval (.tmp 57) = nv (noughtM ((belowB (asM a)) != (belowB (asM b)))) := by rw [ha706, put_ne _ _ _ _ (by decide)]; exact h690
    have h714 : a705.eval (.tmp 5) = .bool true := by rw [ha706]; exact put_same _ _ _ (by rw [hs683]; decide)
    show stepsTo _ _ _ _ _ (a679.put (some 5) (.bool true)) _
    rw [← ha706]
    clear ha706 hs683 hd684 h685 h686 h687 h688 h689 h690
    refine st_nil ?_
    clear h713
    refine hK _ _ ?_
    clear hK K
    refine wp_ret (ret_k hd708 (v := .tuple #[nv (noughtM ((belowB (asM a)) != (belowB (asM b)))), .bool true]) (res_ct rfl h711 h714 (l_two Tryd.isAgg23 Tryd.sizeOf23 hb697)) ?_)
    refine ⟨?_, hN704⟩
    show Ending.returned (.tuple #[nv (noughtM ((belowB (asM a)) != (belowB (asM b)))), .bool true]) = Ending.returned (.tuple #[nv ((divM a b).1), .bool ((divM a b).2)])
    first | rfl | (simp [divM, divA, ht78, ht131, ht184, ht414, ht623, ht662])
  refine wp_g0 [true, true, true, true, true, true, true] [] 77
    [ve (nv (asM b)),
     ve (.bool false),
     ve (.bool false),
     ve (nv (asM a)),
     ve (.bool false),
     ve (.bool false),
     ve (.bool false)] hs611 (.eq (.eq (.eq (.eq (.eq (.eq (.eq (.nil)))))))) ?_ ?_
  · skip
    refine .o1 (tk rfl rfl fun _ w hn k => ⟨_, v_load rfl (k.fx 3 h614) (l_two Tryd.isAgg23 Tryd.sizeOf23 (hb620.new_ hn)), rfl⟩) ?_
    refine .o1 (ck rfl rfl rfl (fun _ w hn k => ⟨#[nv (asM b)], args1 (k.eq1 0 50 rfl), fun _ => by kernel_rfl, isInf_c (asM b) _⟩) fun _ => congrArg Value.bool ht662) ?_
    refine .o1 (tk rfl rfl fun _ w hn k => ⟨_, v_move rfl (k.eq1 1 51 rfl), rfl⟩) ?_
    refine .o1 (tg rfl rfl rfl (fun _ _ k => k.eq1 2 52 rfl) fun _ w hn k => ⟨_, v_load rfl (k.fx 2 h613) (l_two Tryd.isAgg23 Tryd.sizeOf23 (hb619.new_ hn)), rfl⟩) ?_
    refine .o1 (cg rfl rfl rfl (fun _ _ k => k.eq1 2 52 rfl) rfl (fun _ w hn k => ⟨#[nv (asM a)], args1 (k.eq1 3 53 rfl), fun _ => by kernel_rfl, isNought_c (asM a) _⟩) fun _ => congrArg Value.bool ht414) ?_
    refine .o1 (tk rfl rfl fun _ w hn k => ⟨_, v_pickF rfl (k.eq1 2 52 rfl) (k.eq1 4 54 rfl), rfl⟩) ?_
    refine .o1 (tk rfl rfl fun _ w hn k => ⟨_, v_assign rfl (k.eq1 5 55 rfl), rfl⟩) ?_
    exact .nil
  intro a715 w716 hn717 ha718
  have hs719 := ha718.size.trans hs611
  have hd720 := ha718.defers.trans hd612
  have h721 := ha718.fx 2 h613
  have h722 := ha718.fx 3 h614
  have h723 := ha718.fx 4 h615
  have h724 := ha718.fx 5 h616
  have h725 := ha718.fx 6 h617
  have h726 := ha718.ge 6 49 rfl
  have hb727 := hb619.new_ hn717
  have hb728 := hb620.new_ hn717
  have hb729 := hb621.new_ hn717
  have hN730 := hN622.transNew hn717
  clear hs611 hd612 h613 h614 h615 h616 h617 hv661 hb619 hb620 hb621 hN622 ha718 hn717
  refine st_nil ?_
  refine hK _ _ ?_
  clear hK K
  refine wp_cond_false h726 ?_
  refine wp_seq_k fun K hK => ?_
  rcases Bool.eq_false_or_eq_true (decide (((sizeI ((asM a).n)).tmod (sizeI ((asM b).n))) = 0)) with ht731 | ht731
  · skip
    have ht731d := of_decide_eq_true ht731
    have hw_a := whole_of (a := a) ht78 ht184 ht414
    have hsz_a := size_bd a
    have hnz_a := size_nz hw_a.2
    have hw_b := whole_of (a := b) ht131 ht662 ht623
    have hsz_b := size_bd b
    have hnz_b := size_nz hw_b.2
    have htd := tdiv_bd hsz_a.1 hsz_b.1
    refine wp_g0 [true, true, true, true, true, true, true, true, true] [] 77
      [ve (.pointer (some ⟨q8, 1, none⟩)),
       ve (iv ((asM a).n)),
       ve (.int .u64 (sizeI ((asM a).n))),
       ve (.pointer (some ⟨q12, 1, none⟩)),
       ve (iv ((asM b).n)),
       ve (.int .u64 (sizeI ((asM b).n))),
       ve (.int .u64 ((sizeI ((asM a).n)).tmod (sizeI ((asM b).n)))),
       ve (.bool false),
       ve (.bool false)] hs719 (.eq (.eq (.eq (.eq (.eq (.eq (.eq (.eq (.eq (.nil)))))))))) ?_ ?_
    · skip
      refine .o1 (tk rfl rfl fun _ w hn k => ⟨_, v_field rfl (k.fx 2 h721) (fun w => rfl), rfl⟩) ?_
      refine .o1 (tk rfl rfl fun _ w hn k => ⟨_, v_load rfl (k.eq1 0 59 rfl) (l_one Tryd.isAgg3 ((hb727.new_ hn).cell 1)), rfl⟩) ?_
      refine .o1 (ck rfl rfl rfl (fun _ w hn k => ⟨#[iv ((asM a).n)], args1 (k.eq1 1 60 rfl), fun _ => by kernel_rfl, size_c ((asM a).n) _ (by omega)⟩) fun _ => rfl) ?_
      refine .o1 (tk rfl rfl fun _ w hn k => ⟨_, v_field rfl (k.fx 3 h722) (fun w => rfl), rfl⟩) ?_
      refine .o1 (tk rfl rfl fun _ w hn k => ⟨_, v_load rfl (k.eq1 3 62 rfl) (l_one Tryd.isAgg3 ((hb728.new_ hn).cell 1)), rfl⟩) ?_
      refine .o1 (ck rfl rfl rfl (fun _ w hn k => ⟨#[iv ((asM b).n)], args1 (k.eq1 4 63 rfl), fun _ => by kernel_rfl, size_c ((asM b).n) _ (by omega)⟩) fun _ => rfl) ?_
      refine .o1 (tk rfl rfl fun _ w hn k => ⟨_, v_bin rfl (k.eq1 2 61 rfl) (k.eq1 5 64 rfl) (fun _ => rfl) (r_remU rfl (by omega)), rfl⟩) ?_
      refine .o1 (tk rfl rfl fun _ w hn k => ⟨_, v_bin rfl (k.eq1 6 65 rfl) rfl (fun _ => rfl) (r_neq ht731), rfl⟩) ?_
      refine .o1 (tk rfl rfl fun _ w hn k => ⟨_, v_assign rfl (k.eq1 7 66 rfl), rfl⟩) ?_
      exact .nil
    intro a732 w733 hn734 ha735
    have hs736 := ha735.size.trans hs719
    have hd737 := ha735.defers.trans hd720
    have h738 := ha735.fx 2 h721
    have h739 := ha735.fx 3 h722
    have h740 := ha735.fx 4 h723
    have h741 := ha735.fx 5 h724
    have h742 := ha735.fx 6 h725
    have h743 := ha735.ge 8 58 rfl
    have hb744 := hb727.new_ hn734
    have hb745 := hb728.new_ hn734
    have hb746 := hb729.new_ hn734
    have hN747 := hN730.transNew hn734
    clear hs719 hd720 h721 h722 h723 h724 h725 h726 hb727 hb728 hb729 hN730 ha735 hn734
    refine st_nil ?_
    refine hK _ _ ?_
    clear hK K
    refine wp_cond_false h743 ?_
    refine wp_skip ?_
    refine hK _ _ ?_
    clear hK K
    refine wp_seq_k fun K hK => ?_
    refine wp_g0 [true, true, true, true, true, true, true, true, true, false, false] [(9, false), (10, true)] 77
      [ve (.pointer (some ⟨q8, 1, none⟩)),
       ve (iv ((asM a).n)),
       ve (.int .u64 (sizeI ((asM a).n))),
       ve (.pointer (some ⟨q12, 1, none⟩)),
       ve (iv ((asM b).n)),
       ve (.int .u64 (sizeI ((asM b).n))),
       ve (.int .u64 ((sizeI ((asM a).n)).tdiv (sizeI ((asM b).n)))),
       ve (.bool ((belowB (asM a)) != (belowB (asM b)))),
       ve (nv (signedM ((sizeI ((asM a).n)).tdiv (sizeI ((asM b).n))) ((belowB (asM a)) != (belowB (asM b))))),
       vt,
       vt] hs736 (.eq (.eq (.eq (.eq (.eq (.eq (.eq (.eq (.eq (.tt (.tt (.nil)))))))))))) ?_ ?_
    · skip
      refine .o1 (tk rfl rfl fun _ w hn k => ⟨_, v_field rfl (k.fx 2 h738) (fun w => rfl), rfl⟩) ?_
      refine .o1 (tk rfl rfl fun _ w hn k => ⟨_, v_load rfl (k.eq1 0 68 rfl) (l_one Tryd.isAgg3 ((hb744.new_ hn).cell 1)), rfl⟩) ?_
      refine .o1 (ck rfl rfl rfl (fun _ w hn k => ⟨#[iv ((asM a).n)], args1 (k.eq1 1 69 rfl), fun _ => by kernel_rfl, size_c ((asM a).n) _ (by omega)⟩) fun _ => rfl) ?_
      refine .o1 (tk rfl rfl fun _ w hn k => ⟨_, v_field rfl (k.fx 3 h739) (fun w => rfl), rfl⟩) ?_
      refine .o1 (tk rfl rfl fun _ w hn k => ⟨_, v_load rfl (k.eq1 3 71 rfl) (l_one Tryd.isAgg3 ((hb745.new_ hn).cell 1)), rfl⟩) ?_
      refine .o1 (ck rfl rfl rfl (fun _ w hn k => ⟨#[iv ((asM b).n)], args1 (k.eq1 4 72 rfl), fun _ => by kernel_rfl, size_c ((asM b).n) _ (by omega)⟩) fun _ => rfl) ?_
      refine .o1 (tk rfl rfl fun _ w hn k => ⟨_, v_bin rfl (k.eq1 2 70 rfl) (k.eq1 5 73 rfl) (fun _ => rfl) (r_quoU rfl (by omega) (by omega)), rfl⟩) ?_
      refine .o1 (tk rfl rfl fun _ w hn k => ⟨_, v_move rfl (k.fx 6 h742), rfl⟩) ?_
      refine .o1 (ck rfl rfl rfl (fun _ w hn k => ⟨#[.int .u64 ((sizeI ((asM a).n)).tdiv (sizeI ((asM b).n))), .bool ((belowB (asM a)) != (belowB (asM b)))], args2 (k.eq1 6 74 rfl) (k.eq1 7 75 rfl), fun _ => by kernel_rfl, signed_c ((sizeI ((asM a).n)).tdiv (sizeI ((asM b).n))) ((belowB (asM a)) != (belowB (asM b))) _ (by omega)⟩) fun _ => rfl) ?_
      refine .off ?_
      refine .off ?_
      exact .nil
    intro a748 w749 hn750 ha751
    have hs752 := ha751.size.trans hs736
    have hd753 := ha751.defers.trans hd737
    have h754 := ha751.fx 4 h740
    have h755 := ha751.fx 5 h741
    have h756 := ha751.ge 8 76 rfl
    have hb757 := hb746.new_ hn750
    have hN758 := hN747.transNew hn750
    clear hs736 hd737 h738 h739 h740 h741 h742 h743 hb744 hq23 hb745 hq24 hb746 hN747 ha751 hn750
    obtain ⟨w759, -, hst760, hb761, hu762, hf763⟩ := s_two (v0 := iv ((signedM ((sizeI ((asM a).n)).tdiv (sizeI ((asM b).n))) ((belowB (asM a)) != (belowB (asM b)))).k)) (v1 := iv ((signedM ((sizeI ((asM a).n)).tdiv (sizeI ((asM b).n))) ((belowB (asM a)) != (belowB (asM b)))).n)) Tryd.sizeOf23 rfl rfl rfl hb757
    refine st_act rfl rfl fun K764 hL765 => a_store' rfl h754 h756 hst760 (hL765 _ _ trivial ?_)
    have hN766 := hN758.trans hu762 (fun k hk hkb => by subst hkb; omega)
    clear hb757 hst760 K764 hL765 hN758 hu762 hf763
    refine st_take rfl rfl (y_assign (v := .bool true) rfl rfl) rfl ?_
    obtain ⟨a767, ha768⟩ : ∃ a', a' = a748.put (some 5) (.bool true) := ⟨_, rfl⟩
    have hs769 : a767.tmps.size = 77 := by rw [ha768, put_size]; exact hs752
    have hd770 : a767.defers = [] := by rw [ha768, put_defers]; exact hd753
    have h771 : a767.eval (.tmp 4) = pv q16 := by rw [ha768, put_ne _ _ _ _ (by decide)]; exact h754
    have h772 : a767.eval (.tmp 76) = nv (signedM ((sizeI ((asM a).n)).tdiv (sizeI ((asM b).n))) ((belowB (asM a)) != (belowB (asM b)))) := by rw [ha768, put_ne _ _ _ _ (by decide)]; exact h756
    have h773 : a767.eval (.tmp 5) = .bool true := by rw [ha768]; exact put_same _ _ _ (by rw [hs752]; decide)
    show stepsTo _ _ _ _ _ (a748.put (some 5) (.bool true)) _
    rw [← ha768]
    clear ha768 hs752 hd753 h754 h755 h756
    refine st_nil ?_
    clear h772
    refine hK _ _ ?_
    clear hK K
    refine wp_ret (ret_k hd770 (v := .tuple #[nv (signedM ((sizeI ((asM a).n)).tdiv (sizeI ((asM b).n))) ((belowB (asM a)) != (belowB (asM b)))), .bool true]) (res_ct rfl h771 h773 (l_two Tryd.isAgg23 Tryd.sizeOf23 hb761)) ?_)
    refine ⟨?_, hN766⟩
    show Ending.returned (.tuple #[nv (signedM ((sizeI ((asM a).n)).tdiv (sizeI ((asM b).n))) ((belowB (asM a)) != (belowB (asM b)))), .bool true]) = Ending.returned (.tuple #[nv ((divM a b).1), .bool ((divM a b).2)])
    first | rfl | (simp [divM, divA, ht78, ht131, ht184, ht414, ht623, ht662, ht731])
  have ht731d := of_decide_eq_false ht731
  have hw_a := whole_of (a := a) ht78 ht184 ht414
  have hsz_a := size_bd a
  have hnz_a := size_nz hw_a.2
  have hw_b := whole_of (a := b) ht131 ht662 ht623
  have hsz_b := size_bd b
  have hnz_b := size_nz hw_b.2
  have htd := tdiv_bd hsz_a.1 hsz_b.1
  refine wp_g0 [true, true, true, true, true, true, true, true, true] [] 77
    [ve (.pointer (some ⟨q8, 1, none⟩)),
     ve (iv ((asM a).n)),
     ve (.int .u64 (sizeI ((asM a).n))),
     ve (.pointer (some ⟨q12, 1, none⟩)),
     ve (iv ((asM b).n)),
     ve (.int .u64 (sizeI ((asM b).n))),
     ve (.int .u64 ((sizeI ((asM a).n)).tmod (sizeI ((asM b).n)))),
     ve (.bool true),
     ve (.bool true)] hs719 (.eq (.eq (.eq (.eq (.eq (.eq (.eq (.eq (.eq (.nil)))))))))) ?_ ?_
  · skip
    refine .o1 (tk rfl rfl fun _ w hn k => ⟨_, v_field rfl (k.fx 2 h721) (fun w => rfl), rfl⟩) ?_
    refine .o1 (tk rfl rfl fun _ w hn k => ⟨_, v_load rfl (k.eq1 0 59 rfl) (l_one Tryd.isAgg3 ((hb727.new_ hn).cell 1)), rfl⟩) ?_
    refine .o1 (ck rfl rfl rfl (fun _ w hn k => ⟨#[iv ((asM a).n)], args1 (k.eq1 1 60 rfl), fun _ => by kernel_rfl, size_c ((asM a).n) _ (by omega)⟩) fun _ => rfl) ?_
    refine .o1 (tk rfl rfl fun _ w hn k => ⟨_, v_field rfl (k.fx 3 h722) (fun w => rfl), rfl⟩) ?_
    refine .o1 (tk rfl rfl fun _ w hn k => ⟨_, v_load rfl (k.eq1 3 62 rfl) (l_one Tryd.isAgg3 ((hb728.new_ hn).cell 1)), rfl⟩) ?_
    refine .o1 (ck rfl rfl rfl (fun _ w hn k => ⟨#[iv ((asM b).n)], args1 (k.eq1 4 63 rfl), fun _ => by kernel_rfl, size_c ((asM b).n) _ (by omega)⟩) fun _ => rfl) ?_
    refine .o1 (tk rfl rfl fun _ w hn k => ⟨_, v_bin rfl (k.eq1 2 61 rfl) (k.eq1 5 64 rfl) (fun _ => rfl) (r_remU rfl (by omega)), rfl⟩) ?_
    refine .o1 (tk rfl rfl fun _ w hn k => ⟨_, v_bin rfl (k.eq1 6 65 rfl) rfl (fun _ => rfl) (r_neq ht731), rfl⟩) ?_
    refine .o1 (tk rfl rfl fun _ w hn k => ⟨_, v_assign rfl (k.eq1 7 66 rfl), rfl⟩) ?_
    exact .nil
  intro a774 w775 hn776 ha777
  have hs778 := ha777.size.trans hs719
  have hd779 := ha777.defers.trans hd720
  have h780 := ha777.fx 2 h721
  have h781 := ha777.fx 3 h722
  have h782 := ha777.fx 4 h723
  have h783 := ha777.fx 5 h724
  have h784 := ha777.fx 6 h725
  have h785 := ha777.ge 8 58 rfl
  have hb786 := hb727.new_ hn776
  have hb787 := hb728.new_ hn776
  have hb788 := hb729.new_ hn776
  have hN789 := hN730.transNew hn776
  clear hs719 hd720 h721 h722 h723 h724 h725 h726 hb727 hb728 hb729 hN730 ha777 hn776
  refine st_nil ?_
  refine hK _ _ ?_
  clear hK K
  refine wp_cond_true h785 ?_
  refine wp_seq_k fun K hK => ?_
  refine wp_g0 [true, false, false] [(1, false), (2, true)] 77
    [ve (nv (Nm.mk 2 0)),
     vt,
     vt] hs778 (.eq (.tt (.tt (.nil)))) ?_ ?_
  · skip
    refine .o1 (ck rfl rfl rfl (fun _ w hn k => ⟨#[], rfl, fun _ => by kernel_rfl, nan_c  _⟩) fun _ => rfl) ?_
    refine .off ?_
    refine .off ?_
    exact .nil
  intro a790 w791 hn792 ha793
  have hs794 := ha793.size.trans hs778
  have hd795 := ha793.defers.trans hd779
  have h796 := ha793.fx 2 h780
  have h797 := ha793.fx 3 h781
  have h798 := ha793.fx 4 h782
  have h799 := ha793.fx 5 h783
  have h800 := ha793.fx 6 h784
  have h801 := ha793.ge 0 67 rfl
  have hb802 := hb786.new_ hn792
  have hb803 := hb787.new_ hn792
  have hb804 := hb788.new_ hn792
  have hN805 := hN789.transNew hn792
  clear hs778 hd779 h780 h781 h782 h783 h784 h785 hb786 hb787 hb788 hN789 ha793 hn792
  obtain ⟨w806, -, hst807, hb808, hu809, hf810⟩ := s_two (v0 := iv 2) (v1 := iv 0) Tryd.sizeOf23 rfl rfl rfl hb804
  refine st_act rfl rfl fun K811 hL812 => a_store' rfl h798 h801 hst807 (hL812 _ _ trivial ?_)
  have hb813 := hf810 _ _ _ (hne21) hb802
  have hb814 := hf810 _ _ _ (hne22) hb803
  have hN815 := hN805.trans hu809 (fun k hk hkb => by subst hkb; omega)
  clear hb804 hst807 K811 hL812 hN805 hb802 hb803 hu809 hf810
  refine st_take rfl rfl (y_assign (v := .bool false) rfl rfl) rfl ?_
  obtain ⟨a816, ha817⟩ : ∃ a', a' = a790.put (some 5) (.bool false) := ⟨_, rfl⟩
  have hs818 : a816.tmps.size = 77 := by rw [ha817, put_size]; exact hs794
  have hd819 : a816.defers = [] := by rw [ha817, put_defers]; exact hd795
  have h820 : a816.eval (.tmp 2) = pv q8 := by rw [ha817, put_ne _ _ _ _ (by decide)]; exact h796
  have h821 : a816.eval (.tmp 3) = pv q12 := by rw [ha817, put_ne _ _ _ _ (by decide)]; exact h797
  have h822 : a816.eval (.tmp 4) = pv q16 := by rw [ha817, put_ne _ _ _ _ (by decide)]; exact h798
  have h823 : a816.eval (.tmp 6) = .bool ((belowB (asM a)) != (belowB (asM b))) := by rw [ha817, put_ne _ _ _ _ (by decide)]; exact h800
  have h824 : a816.eval (.tmp 67) = nv (Nm.mk 2 0) := by rw [ha817, put_ne _ _ _ _ (by decide)]; exact h801
  have h825 : a816.eval (.tmp 5) = .bool false := by rw [ha817]; exact put_same _ _ _ (by rw [hs794]; decide)
  show stepsTo _ _ _ _ _ (a790.put (some 5) (.bool false)) _
  rw [← ha817]
  clear ha817 hs794 hd795 h796 h797 h798 h799 h800 h801
  refine st_nil ?_
  clear h824
  refine hK _ _ ?_
  clear hK K
  refine wp_ret (ret_k hd819 (v := .tuple #[nv (Nm.mk 2 0), .bool false]) (res_ct rfl h822 h825 (l_two Tryd.isAgg23 Tryd.sizeOf23 hb808)) ?_)
  refine ⟨?_, hN815⟩
  show Ending.returned (.tuple #[nv (Nm.mk 2 0), .bool false]) = Ending.returned (.tuple #[nv ((divM a b).1), .bool ((divM a b).2)])
  first | rfl | (simp [divM, divA, ht78, ht131, ht184, ht414, ht623, ht662, ht731])
end Go.Proofs.YtldakajmhfdfgaaDoor
