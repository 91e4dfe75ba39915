/- Package renref1. -/
import Derived.Test.YtldakajmhfdfgaaDoorNumRb
namespace Go.Proofs.YtldakajmhfdfgaaDoor
open Go.RowKit
set_option linter.unusedSimpArgs false
set_option linter.unusedVariables false
set_option maxHeartbeats 4000000 in
set_option maxRecDepth 100000 in
theorem rrank_c (a : Nm) (w : World) : Calls Tryd.prog 80 #[nv a] w (IsRet (iv (rankM a)) w) := by
  refine enter_abs Tryd.func80 rfl fun a0 hs0 hd0 hp => ?_
  have hs0 : a0.tmps.size = 11 := hs0
  have hN0 : New w w := Upd.refl _ _
  have hp0 : a0.eval (.tmp 0) = nv a := hp 0 _ rfl
  clear hp
  refine wp_seq_k fun K hK => ?_
  refine wp_g [true, true] [] [] 11
    [IsNew w 23 [iv a.k, iv a.n],
     ve (iv 0)]
    [0] (newsCons (fun v w h => IsNew.old h) newsNil) hs0 (.nw (.eq (.nil))) ?_ (fun i h => by cases h) ?_
  · skip
    refine .o2 (step_allocN (cs := [iv a.k, iv a.n]) (t := 23) rfl (noG rfl) (fun _ w hn k => v_box rfl (k.fx 0 hp0) (fun w => rfl)) (fun q _ hq hb => ⟨q, rfl, hq, hb⟩)) ?_
    refine .o1 (tk rfl rfl fun _ w hn k => ⟨_, v_assign rfl rfl, rfl⟩) ?_
    exact .nil
  intro a1 w2 hn3 ha4
  have hs5 := ha4.size.trans hs0
  have hd6 := ha4.defers.trans hd0
  obtain ⟨q8, h7, hq9, hb10⟩ : IsNew _ _ _ _ _ := ha4.got 0 1 rfl (by kernel_rfl)
  have h11 := ha4.ge 1 2 rfl
  have hq12 := Nat.le_trans hN0.size hq9
  have hN13 := hN0.transNew hn3
  clear hs0 hd0 hp0 hq9 hN0 ha4 hn3
  refine st_nil ?_
  refine hK _ _ ?_
  clear hK K
  refine wp_seq_k fun K hK => ?_
  refine wp_seq_k fun K hK => ?_
  refine wp_g0 [true, true] [] 11
    [ve (pv q8),
     ve (iv a.k)] hs5 (.eq (.eq (.nil))) ?_ ?_
  · skip
    refine .o1 (tk rfl rfl fun _ w hn k => ⟨_, v_field rfl (k.fx 1 h7) (fun w => rfl), rfl⟩) ?_
    refine .o1 (tk rfl rfl fun _ w hn k => ⟨_, v_load rfl (k.eq1 0 3 rfl) (l_one Tryd.isAgg3 ((hb10.new_ hn).cell 0)), rfl⟩) ?_
    exact .nil
  intro a14 w15 hn16 ha17
  have hs18 := ha17.size.trans hs5
  have hd19 := ha17.defers.trans hd6
  have h20 := ha17.fx 1 h7
  have h21 := ha17.fx 2 h11
  have h22 := ha17.ge 1 4 rfl
  have hb23 := hb10.new_ hn16
  have hN24 := hN13.transNew hn16
  clear hs5 hd6 h7 h11 hb10 hN13 ha17 hn16
  refine st_nil ?_
  refine hK _ _ ?_
  clear hK K
  refine wp_block ?_
  refine wp_seq_k fun K hK => ?_
  refine wp_g0 [true, true] [] 11
    [ve (.bool (decide (a.k = 3))),
     ve (.bool (decide (a.k = 3)))] hs18 (.eq (.eq (.nil))) ?_ ?_
  · skip
    refine .o1 (tk rfl rfl fun _ w hn k => ⟨_, v_bin rfl (k.fx 4 h22) rfl (fun _ => rfl) (r_eql rfl), rfl⟩) ?_
    refine .o1 (tk rfl rfl fun _ w hn k => ⟨_, v_assign rfl (k.eq1 0 6 rfl), rfl⟩) ?_
    exact .nil
  intro a25 w26 hn27 ha28
  have hs29 := ha28.size.trans hs18
  have hd30 := ha28.defers.trans hd19
  have h31 := ha28.fx 1 h20
  have h32 := ha28.fx 2 h21
  have h33 := ha28.fx 4 h22
  have h34 := ha28.ge 1 5 rfl
  have hb35 := hb23.new_ hn27
  have hN36 := hN24.transNew hn27
  clear hs18 hd19 h20 h21 h22 hb23 hN24 ha28 hn27
  refine st_nil ?_
  refine hK _ _ ?_
  clear hK K
  rcases Bool.eq_false_or_eq_true (decide (a.k = 3)) with ht37 | ht37
  · skip
    have ht37d := of_decide_eq_true ht37
    have hv38 : a25.eval (.tmp 5) = .bool true := h34.trans (congrArg Value.bool ht37)
    clear h34
    refine wp_cond_true hv38 ?_
    refine wp_seq_k fun K hK => ?_
    refine wp_g0 [true] [] 11
      [ve (iv 9007199254740992)] hs29 (.eq (.nil)) ?_ ?_
    · skip
      refine .o1 (tk rfl rfl fun _ w hn k => ⟨_, v_assign rfl rfl, rfl⟩) ?_
      exact .nil
    intro a39 w40 hn41 ha42
    have hs43 := ha42.size.trans hs29
    have hd44 := ha42.defers.trans hd30
    have h45 := ha42.fx 1 h31
    have h46 := ha42.ge 0 2 rfl
    have hb47 := hb35.new_ hn41
    have hN48 := hN36.transNew hn41
    clear hs29 hd30 h31 h32 h33 hv38 hb35 hN36 ha42 hn41
    refine st_nil ?_
    refine hK _ _ ?_
    clear hK K
    refine wp_ret (ret_k hd44 (v := iv 9007199254740992) (res_t rfl h46 _) ?_)
    refine ⟨?_, hN48⟩
    show Ending.returned (iv 9007199254740992) = Ending.returned (iv (rankM a))
    first | rfl | (simp [rankM, ht37])
  have ht37d := of_decide_eq_false ht37
  have hv49 : a25.eval (.tmp 5) = .bool false := h34.trans (congrArg Value.bool ht37)
  clear h34
  refine wp_cond_false hv49 ?_
  refine wp_seq_k fun K hK => ?_
  refine wp_g0 [true, true] [] 11
    [ve (.bool (decide (a.k = 4))),
     ve (.bool (decide (a.k = 4)))] hs29 (.eq (.eq (.nil))) ?_ ?_
  · skip
    refine .o1 (tk rfl rfl fun _ w hn k => ⟨_, v_bin rfl (k.fx 4 h33) rfl (fun _ => rfl) (r_eql rfl), rfl⟩) ?_
    refine .o1 (tk rfl rfl fun _ w hn k => ⟨_, v_assign rfl (k.eq1 0 8 rfl), rfl⟩) ?_
    exact .nil
  intro a50 w51 hn52 ha53
  have hs54 := ha53.size.trans hs29
  have hd55 := ha53.defers.trans hd30
  have h56 := ha53.fx 1 h31
  have h57 := ha53.fx 2 h32
  have h58 := ha53.ge 1 7 rfl
  have hb59 := hb35.new_ hn52
  have hN60 := hN36.transNew hn52
  clear hs29 hd30 h31 h32 h33 hv49 hb35 hN36 ha53 hn52
  refine st_nil ?_
  refine hK _ _ ?_
  clear hK K
  rcases Bool.eq_false_or_eq_true (decide (a.k = 4)) with ht61 | ht61
  · skip
    have ht61d := of_decide_eq_true ht61
    have hv62 : a50.eval (.tmp 7) = .bool true := h58.trans (congrArg Value.bool ht61)
    clear h58
    refine wp_cond_true hv62 ?_
    refine wp_seq_k fun K hK => ?_
    refine wp_g0 [true] [] 11
      [ve (iv (-9007199254740992))] hs54 (.eq (.nil)) ?_ ?_
    · skip
      refine .o1 (tk rfl rfl fun _ w hn k => ⟨_, v_assign rfl rfl, rfl⟩) ?_
      exact .nil
    intro a63 w64 hn65 ha66
    have hs67 := ha66.size.trans hs54
    have hd68 := ha66.defers.trans hd55
    have h69 := ha66.fx 1 h56
    have h70 := ha66.ge 0 2 rfl
    have hb71 := hb59.new_ hn65
    have hN72 := hN60.transNew hn65
    clear hs54 hd55 h56 h57 hv62 hb59 hN60 ha66 hn65
    refine st_nil ?_
    refine hK _ _ ?_
    clear hK K
    refine wp_ret (ret_k hd68 (v := iv (-9007199254740992)) (res_t rfl h70 _) ?_)
    refine ⟨?_, hN72⟩
    show Ending.returned (iv (-9007199254740992)) = Ending.returned (iv (rankM a))
    first | rfl | (simp [rankM, ht37, ht61])
  have ht61d := of_decide_eq_false ht61
  have hv73 : a50.eval (.tmp 7) = .bool false := h58.trans (congrArg Value.bool ht61)
  clear h58
  refine wp_cond_false hv73 ?_
  refine wp_skip ?_
  refine hK _ _ ?_
  clear hK K
  refine wp_seq_k fun K hK => ?_
  refine wp_g0 [true, true, true] [] 11
    [ve (.pointer (some ⟨q8, 1, none⟩)),
     ve (iv a.n),
     ve (iv a.n)] hs54 (.eq (.eq (.eq (.nil)))) ?_ ?_
  · skip
    refine .o1 (tk rfl rfl fun _ w hn k => ⟨_, v_field rfl (k.fx 1 h56) (fun w => rfl), rfl⟩) ?_
    refine .o1 (tk rfl rfl fun _ w hn k => ⟨_, v_load rfl (k.eq1 0 9 rfl) (l_one Tryd.isAgg3 ((hb59.new_ hn).cell 1)), rfl⟩) ?_
    refine .o1 (tk rfl rfl fun _ w hn k => ⟨_, v_assign rfl (k.eq1 1 10 rfl), rfl⟩) ?_
    exact .nil
  intro a74 w75 hn76 ha77
  have hs78 := ha77.size.trans hs54
  have hd79 := ha77.defers.trans hd55
  have h80 := ha77.ge 2 2 rfl
  have hN81 := hN60.transNew hn76
  clear hs54 hd55 h56 h57 hv73 hb59 hq12 hN60 ha77 hn76
  refine st_nil ?_
  refine hK _ _ ?_
  clear hK K
  refine wp_ret (ret_k hd79 (v := iv a.n) (res_t rfl h80 _) ?_)
  refine ⟨?_, hN81⟩
  show Ending.returned (iv a.n) = Ending.returned (iv (rankM a))
  first | rfl | (simp [rankM, ht37, ht61])
set_option maxHeartbeats 4000000 in
set_option maxRecDepth 100000 in
theorem rless_c (a : Nm) (b : Nm) (w : World) : Calls Tryd.prog 52 #[nv a, nv b] w (IsRet (.bool (lessM a b)) w) := by
  refine enter_abs Tryd.func52 rfl fun a0 hs0 hd0 hp => ?_
  have hs0 : a0.tmps.size = 26 := hs0
  have hN0 : New w w := Upd.refl _ _
  have hp0 : a0.eval (.tmp 0) = nv a := hp 0 _ rfl
  have hp1 : a0.eval (.tmp 1) = nv b := hp 1 _ rfl
  clear hp
  refine wp_seq_k fun K hK => ?_
  refine wp_g [true, true, true] [] [] 26
    [IsNew w 23 [iv a.k, iv a.n],
     IsNew w 23 [iv b.k, iv b.n],
     ve (.bool false)]
    [0, 1] (newsCons (fun v w h => IsNew.old h) (newsCons (fun v w h => IsNew.old h) newsNil)) hs0 (.nw (.nw (.eq (.nil)))) ?_ (fun i h => by cases h) ?_
  · skip
    refine .o2 (step_allocN (cs := [iv a.k, iv a.n]) (t := 23) rfl (noG rfl) (fun _ w hn k => v_box rfl (k.fx 0 hp0) (fun w => rfl)) (fun q _ hq hb => ⟨q, rfl, hq, hb⟩)) ?_
    refine .o2 (step_allocN (cs := [iv b.k, iv b.n]) (t := 23) rfl (noG rfl) (fun _ w hn k => v_box rfl (k.fx 1 hp1) (fun w => rfl)) (fun q _ hq hb => ⟨q, rfl, hq, hb⟩)) ?_
    refine .o1 (tk rfl rfl fun _ w hn k => ⟨_, v_assign rfl rfl, rfl⟩) ?_
    exact .nil
  intro a1 w2 hn3 ha4
  have hs5 := ha4.size.trans hs0
  have hd6 := ha4.defers.trans hd0
  obtain ⟨q8, h7, hq9, hb10⟩ : IsNew _ _ _ _ _ := ha4.got 0 2 rfl (by kernel_rfl)
  obtain ⟨q12, h11, hq13, hb14⟩ : IsNew _ _ _ _ _ := ha4.got 1 3 rfl (by kernel_rfl)
  have h15 := ha4.ge 2 4 rfl
  have hq16 := Nat.le_trans hN0.size hq9
  have hq17 := Nat.le_trans hN0.size hq13
  have hN18 := hN0.transNew hn3
  clear hs0 hd0 hp0 hp1 hq9 hq13 hN0 ha4 hn3
  refine st_nil ?_
  refine hK _ _ ?_
  clear hK K
  refine wp_seq_k fun K hK => ?_
  refine wp_g [true, true, true, true, true, true, false, false] [] [(6, false), (7, false)] 26
    [ve (nv a),
     ve (nv (asM a)),
     ve (nv b),
     ve (nv (asM b)),
     IsNew w2 23 [iv 0, iv 0],
     IsNew w2 23 [iv 0, iv 0],
     vt,
     vt]
    [4, 5] (newsCons (fun v w h => IsNew.old h) (newsCons (fun v w h => IsNew.old h) newsNil)) hs5 (.eq (.eq (.eq (.eq (.nw (.nw (.tt (.tt (.nil))))))))) ?_ (fun i h => by cases h) ?_
  · skip
    refine .o1 (tk rfl rfl fun _ w hn k => ⟨_, v_load rfl (k.fx 2 h7) (l_two Tryd.isAgg23 Tryd.sizeOf23 (hb10.new_ hn)), rfl⟩) ?_
    refine .o1 (ck rfl rfl rfl (fun _ w hn k => ⟨#[nv a], args1 (k.eq1 0 7 rfl), fun _ => by kernel_rfl, good_c a _⟩) fun _ => rfl) ?_
    refine .o1 (tk rfl rfl fun _ w hn k => ⟨_, v_load rfl (k.fx 3 h11) (l_two Tryd.isAgg23 Tryd.sizeOf23 (hb14.new_ hn)), rfl⟩) ?_
    refine .o1 (ck rfl rfl rfl (fun _ w hn k => ⟨#[nv b], args1 (k.eq1 2 9 rfl), fun _ => by kernel_rfl, good_c b _⟩) fun _ => rfl) ?_
    refine .o2 (step_allocN (cs := [iv 0, iv 0]) (t := 23) rfl (noG rfl) (fun _ w hn k => rfl) (fun q _ hq hb => ⟨q, rfl, hq, hb⟩)) ?_
    refine .o2 (step_allocN (cs := [iv 0, iv 0]) (t := 23) rfl (noG rfl) (fun _ w hn k => rfl) (fun q _ hq hb => ⟨q, rfl, hq, hb⟩)) ?_
    refine .off ?_
    refine .off ?_
    exact .nil
  intro a19 w20 hn21 ha22
  have hs23 := ha22.size.trans hs5
  have hd24 := ha22.defers.trans hd6
  have h25 := ha22.fx 4 h15
  have h26 := ha22.ge 1 8 rfl
  have h27 := ha22.ge 3 10 rfl
  obtain ⟨q29, h28, hq30, hb31⟩ : IsNew _ _ _ _ _ := ha22.got 4 5 rfl (by kernel_rfl)
  obtain ⟨q33, h32, hq34, hb35⟩ : IsNew _ _ _ _ _ := ha22.got 5 6 rfl (by kernel_rfl)
  have hne36 : q29 ≠ q33 := ha22.ne 4 5 5 6 h28 h32
  have hq37 := Nat.le_trans hN18.size hq30
  have hq38 := Nat.le_trans hN18.size hq34
  have hN39 := hN18.transNew hn21
  clear hs5 hd6 h7 h11 h15 hb10 hq16 hb14 hq17 hq30 hq34 hN18 ha22 hn21
  have hbd_a := as_bd a
  have hbd_b := as_bd b
  obtain ⟨w40, -, hst41, hb42, hu43, hf44⟩ := s_two (v0 := iv ((asM a).k)) (v1 := iv ((asM a).n)) Tryd.sizeOf23 rfl rfl rfl hb31
  refine st_act rfl rfl fun K45 hL46 => a_store' rfl h28 h26 hst41 (hL46 _ _ trivial ?_)
  have hb47 := hf44 _ _ _ (fun h => hne36 h.symm) hb35
  have hN48 := hN39.trans hu43 (fun k hk hkb => by subst hkb; omega)
  clear hb31 hst41 K45 hL46 hN39 hb35 hu43 hf44
  obtain ⟨w49, -, hst50, hb51, hu52, hf53⟩ := s_two (v0 := iv ((asM b).k)) (v1 := iv ((asM b).n)) Tryd.sizeOf23 rfl rfl rfl hb47
  refine st_act rfl rfl fun K54 hL55 => a_store' rfl h32 h27 hst50 (hL55 _ _ trivial ?_)
  have hb56 := hf53 _ _ _ (hne36) hb42
  have hN57 := hN48.trans hu52 (fun k hk hkb => by subst hkb; omega)
  clear hb47 hst50 K54 hL55 hN48 hb42 hu52 hf53
  clear hne36
  refine st_nil ?_
  clear h26 h27
  refine hK _ _ ?_
  clear hK K
  refine wp_seq_k fun K hK => ?_
  rcases Bool.eq_false_or_eq_true (decide (((asM a).k) = 2)) with ht58 | ht58
  · skip
    have ht58d := of_decide_eq_true ht58
    refine wp_g0 [true, true, true, true, true, true, true, true, true, true, true, true, true, true, true, true] [] 26
      [ve (nv (asM a)),
       ve (.bool true),
       ve (.bool false),
       ve (.bool false),
       ve undef,
       ve undef,
       ve undef,
       ve (.bool false),
       ve (.bool false),
       ve undef,
       ve undef,
       ve undef,
       ve undef,
       ve undef,
       ve (.bool false),
       ve (.bool false)] hs23 (.eq (.eq (.eq (.eq (.eq (.eq (.eq (.eq (.eq (.eq (.eq (.eq (.eq (.eq (.eq (.eq (.nil))))))))))))))))) ?_ ?_
    · skip
      refine .o1 (tk rfl rfl fun _ w hn k => ⟨_, v_load rfl (k.fx 5 h28) (l_two Tryd.isAgg23 Tryd.sizeOf23 (hb56.new_ hn)), rfl⟩) ?_
      refine .o1 (ck rfl rfl rfl (fun _ w hn k => ⟨#[nv (asM a)], args1 (k.eq1 0 11 rfl), fun _ => by kernel_rfl, rnan_c (asM a) _⟩) fun _ => congrArg Value.bool ht58) ?_
      refine .o1 (tk rfl rfl fun _ w hn k => ⟨_, v_not rfl (k.eq1 1 12 rfl), rfl⟩) ?_
      refine .o1 (tk rfl rfl fun _ w hn k => ⟨_, v_move rfl (k.eq1 2 13 rfl), rfl⟩) ?_
      refine .o1 (sk rfl rfl rfl (fun _ _ _ k => k.eq1 3 14 rfl) (fun _ => rfl)) ?_
      refine .o1 (sk rfl rfl rfl (fun _ _ _ k => k.eq1 3 14 rfl) (fun _ => rfl)) ?_
      refine .o1 (sk rfl rfl rfl (fun _ _ _ k => k.eq1 3 14 rfl) (fun _ => rfl)) ?_
      refine .o1 (tk rfl rfl fun _ w hn k => ⟨_, v_pickF rfl (k.eq1 3 14 rfl) rfl, rfl⟩) ?_
      refine .o1 (tk rfl rfl fun _ w hn k => ⟨_, v_move rfl (k.eq1 7 18 rfl), rfl⟩) ?_
      refine .o1 (sk rfl rfl rfl (fun _ _ _ k => k.eq1 8 19 rfl) (fun _ => rfl)) ?_
      refine .o1 (sk rfl rfl rfl (fun _ _ _ k => k.eq1 8 19 rfl) (fun _ => rfl)) ?_
      refine .o1 (sk rfl rfl rfl (fun _ _ _ k => k.eq1 8 19 rfl) (fun _ => rfl)) ?_
      refine .o1 (sk rfl rfl rfl (fun _ _ _ k => k.eq1 8 19 rfl) (fun _ => rfl)) ?_
      refine .o1 (sk rfl rfl rfl (fun _ _ _ k => k.eq1 8 19 rfl) (fun _ => rfl)) ?_
      refine .o1 (tk rfl rfl fun _ w hn k => ⟨_, v_pickF rfl (k.eq1 8 19 rfl) rfl, rfl⟩) ?_
      refine .o1 (tk rfl rfl fun _ w hn k => ⟨_, v_assign rfl (k.eq1 14 25 rfl), rfl⟩) ?_
      exact .nil
    intro a59 w60 hn61 ha62
    have hs63 := ha62.size.trans hs23
    have hd64 := ha62.defers.trans hd24
    have h65 := ha62.ge 15 4 rfl
    have hN66 := hN57.transNew hn61
    clear hs23 hd24 h25 h28 h32 hb56 hq37 hb51 hq38 hN57 ha62 hn61
    refine st_nil ?_
    refine hK _ _ ?_
    clear hK K
    refine wp_ret (ret_k hd64 (v := .bool false) (res_t rfl h65 _) ?_)
    refine ⟨?_, hN66⟩
    show Ending.returned (.bool false) = Ending.returned (.bool (lessM a b))
    first | rfl | (simp [lessM, lessA, ht58])
  have ht58d := of_decide_eq_false ht58
  rcases Bool.eq_false_or_eq_true (decide (((asM b).k) = 2)) with ht67 | ht67
  · skip
    have ht67d := of_decide_eq_true ht67
    refine wp_g0 [true, true, true, true, true, true, true, true, true, true, true, true, true, true, true, true] [] 26
      [ve (nv (asM a)),
       ve (.bool false),
       ve (.bool true),
       ve (.bool true),
       ve (nv (asM b)),
       ve (.bool true),
       ve (.bool false),
       ve (.bool false),
       ve (.bool false),
       ve undef,
       ve undef,
       ve undef,
       ve undef,
       ve undef,
       ve (.bool false),
       ve (.bool false)] hs23 (.eq (.eq (.eq (.eq (.eq (.eq (.eq (.eq (.eq (.eq (.eq (.eq (.eq (.eq (.eq (.eq (.nil))))))))))))))))) ?_ ?_
    · skip
      refine .o1 (tk rfl rfl fun _ w hn k => ⟨_, v_load rfl (k.fx 5 h28) (l_two Tryd.isAgg23 Tryd.sizeOf23 (hb56.new_ hn)), rfl⟩) ?_
      refine .o1 (ck rfl rfl rfl (fun _ w hn k => ⟨#[nv (asM a)], args1 (k.eq1 0 11 rfl), fun _ => by kernel_rfl, rnan_c (asM a) _⟩) fun _ => congrArg Value.bool ht58) ?_
      refine .o1 (tk rfl rfl fun _ w hn k => ⟨_, v_not rfl (k.eq1 1 12 rfl), rfl⟩) ?_
      refine .o1 (tk rfl rfl fun _ w hn k => ⟨_, v_move rfl (k.eq1 2 13 rfl), rfl⟩) ?_
      refine .o1 (tg rfl rfl rfl (fun _ _ k => k.eq1 3 14 rfl) fun _ w hn k => ⟨_, v_load rfl (k.fx 6 h32) (l_two Tryd.isAgg23 Tryd.sizeOf23 (hb51.new_ hn)), rfl⟩) ?_
      refine .o1 (cg rfl rfl rfl (fun _ _ k => k.eq1 3 14 rfl) rfl (fun _ w hn k => ⟨#[nv (asM b)], args1 (k.eq1 4 15 rfl), fun _ => by kernel_rfl, rnan_c (asM b) _⟩) fun _ => congrArg Value.bool ht67) ?_
      refine .o1 (tg rfl rfl rfl (fun _ _ k => k.eq1 3 14 rfl) fun _ w hn k => ⟨_, v_not rfl (k.eq1 5 16 rfl), rfl⟩) ?_
      refine .o1 (tk rfl rfl fun _ w hn k => ⟨_, v_pickT rfl (k.eq1 3 14 rfl) (k.eq1 6 17 rfl), rfl⟩) ?_
      refine .o1 (tk rfl rfl fun _ w hn k => ⟨_, v_move rfl (k.eq1 7 18 rfl), rfl⟩) ?_
      refine .o1 (sk rfl rfl rfl (fun _ _ _ k => k.eq1 8 19 rfl) (fun _ => rfl)) ?_
      refine .o1 (sk rfl rfl rfl (fun _ _ _ k => k.eq1 8 19 rfl) (fun _ => rfl)) ?_
      refine .o1 (sk rfl rfl rfl (fun _ _ _ k => k.eq1 8 19 rfl) (fun _ => rfl)) ?_
      refine .o1 (sk rfl rfl rfl (fun _ _ _ k => k.eq1 8 19 rfl) (fun _ => rfl)) ?_
      refine .o1 (sk rfl rfl rfl (fun _ _ _ k => k.eq1 8 19 rfl) (fun _ => rfl)) ?_
      refine .o1 (tk rfl rfl fun _ w hn k => ⟨_, v_pickF rfl (k.eq1 8 19 rfl) rfl, rfl⟩) ?_
      refine .o1 (tk rfl rfl fun _ w hn k => ⟨_, v_assign rfl (k.eq1 14 25 rfl), rfl⟩) ?_
      exact .nil
    intro a68 w69 hn70 ha71
    have hs72 := ha71.size.trans hs23
    have hd73 := ha71.defers.trans hd24
    have h74 := ha71.ge 15 4 rfl
    have hN75 := hN57.transNew hn70
    clear hs23 hd24 h25 h28 h32 hb56 hq37 hb51 hq38 hN57 ha71 hn70
    refine st_nil ?_
    refine hK _ _ ?_
    clear hK K
    refine wp_ret (ret_k hd73 (v := .bool false) (res_t rfl h74 _) ?_)
    refine ⟨?_, hN75⟩
    show Ending.returned (.bool false) = Ending.returned (.bool (lessM a b))
    first | rfl | (simp [lessM, lessA, ht58, ht67])
  have ht67d := of_decide_eq_false ht67
  refine wp_g0 [true, true, true, true, true, true, true, true, true, true, true, true, true, true, true, true] [] 26
    [ve (nv (asM a)),
     ve (.bool false),
     ve (.bool true),
     ve (.bool true),
     ve (nv (asM b)),
     ve (.bool false),
     ve (.bool true),
     ve (.bool true),
     ve (.bool true),
     ve (nv (asM a)),
     ve (iv (rankM (asM a))),
     ve (nv (asM b)),
     ve (iv (rankM (asM b))),
     ve (.bool (decide ((rankM (asM a)) < (rankM (asM b))))),
     ve (.bool (decide ((rankM (asM a)) < (rankM (asM b))))),
     ve (.bool (decide ((rankM (asM a)) < (rankM (asM b)))))] hs23 (.eq (.eq (.eq (.eq (.eq (.eq (.eq (.eq (.eq (.eq (.eq (.eq (.eq (.eq (.eq (.eq (.nil))))))))))))))))) ?_ ?_
  · skip
    refine .o1 (tk rfl rfl fun _ w hn k => ⟨_, v_load rfl (k.fx 5 h28) (l_two Tryd.isAgg23 Tryd.sizeOf23 (hb56.new_ hn)), rfl⟩) ?_
    refine .o1 (ck rfl rfl rfl (fun _ w hn k => ⟨#[nv (asM a)], args1 (k.eq1 0 11 rfl), fun _ => by kernel_rfl, rnan_c (asM a) _⟩) fun _ => congrArg Value.bool ht58) ?_
    refine .o1 (tk rfl rfl fun _ w hn k => ⟨_, v_not rfl (k.eq1 1 12 rfl), rfl⟩) ?_
    refine .o1 (tk rfl rfl fun _ w hn k => ⟨_, v_move rfl (k.eq1 2 13 rfl), rfl⟩) ?_
    refine .o1 (tg rfl rfl rfl (fun _ _ k => k.eq1 3 14 rfl) fun _ w hn k => ⟨_, v_load rfl (k.fx 6 h32) (l_two Tryd.isAgg23 Tryd.sizeOf23 (hb51.new_ hn)), rfl⟩) ?_
    refine .o1 (cg rfl rfl rfl (fun _ _ k => k.eq1 3 14 rfl) rfl (fun _ w hn k => ⟨#[nv (asM b)], args1 (k.eq1 4 15 rfl), fun _ => by kernel_rfl, rnan_c (asM b) _⟩) fun _ => congrArg Value.bool ht67) ?_
    refine .o1 (tg rfl rfl rfl (fun _ _ k => k.eq1 3 14 rfl) fun _ w hn k => ⟨_, v_not rfl (k.eq1 5 16 rfl), rfl⟩) ?_
    refine .o1 (tk rfl rfl fun _ w hn k => ⟨_, v_pickT rfl (k.eq1 3 14 rfl) (k.eq1 6 17 rfl), rfl⟩) ?_
    refine .o1 (tk rfl rfl fun _ w hn k => ⟨_, v_move rfl (k.eq1 7 18 rfl), rfl⟩) ?_
    refine .o1 (tg rfl rfl rfl (fun _ _ k => k.eq1 8 19 rfl) fun _ w hn k => ⟨_, v_load rfl (k.fx 5 h28) (l_two Tryd.isAgg23 Tryd.sizeOf23 (hb56.new_ hn)), rfl⟩) ?_
    refine .o1 (cg rfl rfl rfl (fun _ _ k => k.eq1 8 19 rfl) rfl (fun _ w hn k => ⟨#[nv (asM a)], args1 (k.eq1 9 20 rfl), fun _ => by kernel_rfl, rrank_c (asM a) _⟩) fun _ => rfl) ?_
    refine .o1 (tg rfl rfl rfl (fun _ _ k => k.eq1 8 19 rfl) fun _ w hn k => ⟨_, v_load rfl (k.fx 6 h32) (l_two Tryd.isAgg23 Tryd.sizeOf23 (hb51.new_ hn)), rfl⟩) ?_
    refine .o1 (cg rfl rfl rfl (fun _ _ k => k.eq1 8 19 rfl) rfl (fun _ w hn k => ⟨#[nv (asM b)], args1 (k.eq1 11 22 rfl), fun _ => by kernel_rfl, rrank_c (asM b) _⟩) fun _ => rfl) ?_
    refine .o1 (tg rfl rfl rfl (fun _ _ k => k.eq1 8 19 rfl) fun _ w hn k => ⟨_, v_bin rfl (k.eq1 10 21 rfl) (k.eq1 12 23 rfl) (fun _ => rfl) (r_lssK rfl), rfl⟩) ?_
    refine .o1 (tk rfl rfl fun _ w hn k => ⟨_, v_pickT rfl (k.eq1 8 19 rfl) (k.eq1 13 24 rfl), rfl⟩) ?_
    refine .o1 (tk rfl rfl fun _ w hn k => ⟨_, v_assign rfl (k.eq1 14 25 rfl), rfl⟩) ?_
    exact .nil
  intro a76 w77 hn78 ha79
  have hs80 := ha79.size.trans hs23
  have hd81 := ha79.defers.trans hd24
  have h82 := ha79.ge 15 4 rfl
  have hN83 := hN57.transNew hn78
  clear hs23 hd24 h25 h28 h32 hb56 hq37 hb51 hq38 hN57 ha79 hn78
  refine st_nil ?_
  refine hK _ _ ?_
  clear hK K
  refine wp_ret (ret_k hd81 (v := .bool (decide ((rankM (asM a)) < (rankM (asM b))))) (res_t rfl h82 _) ?_)
  refine ⟨?_, hN83⟩
  show Ending.returned (.bool (decide ((rankM (asM a)) < (rankM (asM b))))) = Ending.returned (.bool (lessM a b))
  first | rfl | (simp [lessM, lessA, ht58, ht67])
set_option maxHeartbeats 4000000 in
set_option maxRecDepth 100000 in
theorem requal_c (a : Nm) (b : Nm) (w : World) : Calls Tryd.prog 53 #[nv a, nv b] w (IsRet (.bool (equalM a b)) w) := by
  refine enter_abs Tryd.func53 rfl fun a0 hs0 hd0 hp => ?_
  have hs0 : a0.tmps.size = 26 := hs0
  have hN0 : New w w := Upd.refl _ _
  have hp0 : a0.eval (.tmp 0) = nv a := hp 0 _ rfl
  have hp1 : a0.eval (.tmp 1) = nv b := hp 1 _ rfl
  clear hp
  refine wp_seq_k fun K hK => ?_
  refine wp_g [true, true, true] [] [] 26
    [IsNew w 23 [iv a.k, iv a.n],
     IsNew w 23 [iv b.k, iv b.n],
     ve (.bool false)]
    [0, 1] (newsCons (fun v w h => IsNew.old h) (newsCons (fun v w h => IsNew.old h) newsNil)) hs0 (.nw (.nw (.eq (.nil)))) ?_ (fun i h => by cases h) ?_
  · skip
    refine .o2 (step_allocN (cs := [iv a.k, iv a.n]) (t := 23) rfl (noG rfl) (fun _ w hn k => v_box rfl (k.fx 0 hp0) (fun w => rfl)) (fun q _ hq hb => ⟨q, rfl, hq, hb⟩)) ?_
    refine .o2 (step_allocN (cs := [iv b.k, iv b.n]) (t := 23) rfl (noG rfl) (fun _ w hn k => v_box rfl (k.fx 1 hp1) (fun w => rfl)) (fun q _ hq hb => ⟨q, rfl, hq, hb⟩)) ?_
    refine .o1 (tk rfl rfl fun _ w hn k => ⟨_, v_assign rfl rfl, rfl⟩) ?_
    exact .nil
  intro a1 w2 hn3 ha4
  have hs5 := ha4.size.trans hs0
  have hd6 := ha4.defers.trans hd0
  obtain ⟨q8, h7, hq9, hb10⟩ : IsNew _ _ _ _ _ := ha4.got 0 2 rfl (by kernel_rfl)
  obtain ⟨q12, h11, hq13, hb14⟩ : IsNew _ _ _ _ _ := ha4.got 1 3 rfl (by kernel_rfl)
  have h15 := ha4.ge 2 4 rfl
  have hq16 := Nat.le_trans hN0.size hq9
  have hq17 := Nat.le_trans hN0.size hq13
  have hN18 := hN0.transNew hn3
  clear hs0 hd0 hp0 hp1 hq9 hq13 hN0 ha4 hn3
  refine st_nil ?_
  refine hK _ _ ?_
  clear hK K
  refine wp_seq_k fun K hK => ?_
  refine wp_g [true, true, true, true, true, true, false, false] [] [(6, false), (7, false)] 26
    [ve (nv a),
     ve (nv (asM a)),
     ve (nv b),
     ve (nv (asM b)),
     IsNew w2 23 [iv 0, iv 0],
     IsNew w2 23 [iv 0, iv 0],
     vt,
     vt]
    [4, 5] (newsCons (fun v w h => IsNew.old h) (newsCons (fun v w h => IsNew.old h) newsNil)) hs5 (.eq (.eq (.eq (.eq (.nw (.nw (.tt (.tt (.nil))))))))) ?_ (fun i h => by cases h) ?_
  · skip
    refine .o1 (tk rfl rfl fun _ w hn k => ⟨_, v_load rfl (k.fx 2 h7) (l_two Tryd.isAgg23 Tryd.sizeOf23 (hb10.new_ hn)), rfl⟩) ?_
    refine .o1 (ck rfl rfl rfl (fun _ w hn k => ⟨#[nv a], args1 (k.eq1 0 7 rfl), fun _ => by kernel_rfl, good_c a _⟩) fun _ => rfl) ?_
    refine .o1 (tk rfl rfl fun _ w hn k => ⟨_, v_load rfl (k.fx 3 h11) (l_two Tryd.isAgg23 Tryd.sizeOf23 (hb14.new_ hn)), rfl⟩) ?_
    refine .o1 (ck rfl rfl rfl (fun _ w hn k => ⟨#[nv b], args1 (k.eq1 2 9 rfl), fun _ => by kernel_rfl, good_c b _⟩) fun _ => rfl) ?_
    refine .o2 (step_allocN (cs := [iv 0, iv 0]) (t := 23) rfl (noG rfl) (fun _ w hn k => rfl) (fun q _ hq hb => ⟨q, rfl, hq, hb⟩)) ?_
    refine .o2 (step_allocN (cs := [iv 0, iv 0]) (t := 23) rfl (noG rfl) (fun _ w hn k => rfl) (fun q _ hq hb => ⟨q, rfl, hq, hb⟩)) ?_
    refine .off ?_
    refine .off ?_
    exact .nil
  intro a19 w20 hn21 ha22
  have hs23 := ha22.size.trans hs5
  have hd24 := ha22.defers.trans hd6
  have h25 := ha22.fx 4 h15
  have h26 := ha22.ge 1 8 rfl
  have h27 := ha22.ge 3 10 rfl
  obtain ⟨q29, h28, hq30, hb31⟩ : IsNew _ _ _ _ _ := ha22.got 4 5 rfl (by kernel_rfl)
  obtain ⟨q33, h32, hq34, hb35⟩ : IsNew _ _ _ _ _ := ha22.got 5 6 rfl (by kernel_rfl)
  have hne36 : q29 ≠ q33 := ha22.ne 4 5 5 6 h28 h32
  have hq37 := Nat.le_trans hN18.size hq30
  have hq38 := Nat.le_trans hN18.size hq34
  have hN39 := hN18.transNew hn21
  clear hs5 hd6 h7 h11 h15 hb10 hq16 hb14 hq17 hq30 hq34 hN18 ha22 hn21
  have hbd_a := as_bd a
  have hbd_b := as_bd b
  obtain ⟨w40, -, hst41, hb42, hu43, hf44⟩ := s_two (v0 := iv ((asM a).k)) (v1 := iv ((asM a).n)) Tryd.sizeOf23 rfl rfl rfl hb31
  refine st_act rfl rfl fun K45 hL46 => a_store' rfl h28 h26 hst41 (hL46 _ _ trivial ?_)
  have hb47 := hf44 _ _ _ (fun h => hne36 h.symm) hb35
  have hN48 := hN39.trans hu43 (fun k hk hkb => by subst hkb; omega)
  clear hb31 hst41 K45 hL46 hN39 hb35 hu43 hf44
  obtain ⟨w49, -, hst50, hb51, hu52, hf53⟩ := s_two (v0 := iv ((asM b).k)) (v1 := iv ((asM b).n)) Tryd.sizeOf23 rfl rfl rfl hb47
  refine st_act rfl rfl fun K54 hL55 => a_store' rfl h32 h27 hst50 (hL55 _ _ trivial ?_)
  have hb56 := hf53 _ _ _ (hne36) hb42
  have hN57 := hN48.trans hu52 (fun k hk hkb => by subst hkb; omega)
  clear hb47 hst50 K54 hL55 hN48 hb42 hu52 hf53
  clear hne36
  refine st_nil ?_
  clear h26 h27
  refine hK _ _ ?_
  clear hK K
  refine wp_seq_k fun K hK => ?_
  rcases Bool.eq_false_or_eq_true (decide (((asM a).k) = 2)) with ht58 | ht58
  · skip
    have ht58d := of_decide_eq_true ht58
    refine wp_g0 [true, true, true, true, true, true, true, true, true, true, true, true, true, true, true, true] [] 26
      [ve (nv (asM a)),
       ve (.bool true),
       ve (.bool false),
       ve (.bool false),
       ve undef,
       ve undef,
       ve undef,
       ve (.bool false),
       ve (.bool false),
       ve undef,
       ve undef,
       ve undef,
       ve undef,
       ve undef,
       ve (.bool false),
       ve (.bool false)] hs23 (.eq (.eq (.eq (.eq (.eq (.eq (.eq (.eq (.eq (.eq (.eq (.eq (.eq (.eq (.eq (.eq (.nil))))))))))))))))) ?_ ?_
    · skip
      refine .o1 (tk rfl rfl fun _ w hn k => ⟨_, v_load rfl (k.fx 5 h28) (l_two Tryd.isAgg23 Tryd.sizeOf23 (hb56.new_ hn)), rfl⟩) ?_
      refine .o1 (ck rfl rfl rfl (fun _ w hn k => ⟨#[nv (asM a)], args1 (k.eq1 0 11 rfl), fun _ => by kernel_rfl, rnan_c (asM a) _⟩) fun _ => congrArg Value.bool ht58) ?_
      refine .o1 (tk rfl rfl fun _ w hn k => ⟨_, v_not rfl (k.eq1 1 12 rfl), rfl⟩) ?_
      refine .o1 (tk rfl rfl fun _ w hn k => ⟨_, v_move rfl (k.eq1 2 13 rfl), rfl⟩) ?_
      refine .o1 (sk rfl rfl rfl (fun _ _ _ k => k.eq1 3 14 rfl) (fun _ => rfl)) ?_
      refine .o1 (sk rfl rfl rfl (fun _ _ _ k => k.eq1 3 14 rfl) (fun _ => rfl)) ?_
      refine .o1 (sk rfl rfl rfl (fun _ _ _ k => k.eq1 3 14 rfl) (fun _ => rfl)) ?_
      refine .o1 (tk rfl rfl fun _ w hn k => ⟨_, v_pickF rfl (k.eq1 3 14 rfl) rfl, rfl⟩) ?_
      refine .o1 (tk rfl rfl fun _ w hn k => ⟨_, v_move rfl (k.eq1 7 18 rfl), rfl⟩) ?_
      refine .o1 (sk rfl rfl rfl (fun _ _ _ k => k.eq1 8 19 rfl) (fun _ => rfl)) ?_
      refine .o1 (sk rfl rfl rfl (fun _ _ _ k => k.eq1 8 19 rfl) (fun _ => rfl)) ?_
      refine .o1 (sk rfl rfl rfl (fun _ _ _ k => k.eq1 8 19 rfl) (fun _ => rfl)) ?_
      refine .o1 (sk rfl rfl rfl (fun _ _ _ k => k.eq1 8 19 rfl) (fun _ => rfl)) ?_
      refine .o1 (sk rfl rfl rfl (fun _ _ _ k => k.eq1 8 19 rfl) (fun _ => rfl)) ?_
      refine .o1 (tk rfl rfl fun _ w hn k => ⟨_, v_pickF rfl (k.eq1 8 19 rfl) rfl, rfl⟩) ?_
      refine .o1 (tk rfl rfl fun _ w hn k => ⟨_, v_assign rfl (k.eq1 14 25 rfl), rfl⟩) ?_
      exact .nil
    intro a59 w60 hn61 ha62
    have hs63 := ha62.size.trans hs23
    have hd64 := ha62.defers.trans hd24
    have h65 := ha62.ge 15 4 rfl
    have hN66 := hN57.transNew hn61
    clear hs23 hd24 h25 h28 h32 hb56 hq37 hb51 hq38 hN57 ha62 hn61
    refine st_nil ?_
    refine hK _ _ ?_
    clear hK K
    refine wp_ret (ret_k hd64 (v := .bool false) (res_t rfl h65 _) ?_)
    refine ⟨?_, hN66⟩
    show Ending.returned (.bool false) = Ending.returned (.bool (equalM a b))
    first | rfl | (simp [equalM, equalA, ht58])
  have ht58d := of_decide_eq_false ht58
  rcases Bool.eq_false_or_eq_true (decide (((asM b).k) = 2)) with ht67 | ht67
  · skip
    have ht67d := of_decide_eq_true ht67
    refine wp_g0 [true, true, true, true, true, true, true, true, true, true, true, true, true, true, true, true] [] 26
      [ve (nv (asM a)),
       ve (.bool false),
       ve (.bool true),
       ve (.bool true),
       ve (nv (asM b)),
       ve (.bool true),
       ve (.bool false),
       ve (.bool false),
       ve (.bool false),
       ve undef,
       ve undef,
       ve undef,
       ve undef,
       ve undef,
       ve (.bool false),
       ve (.bool false)] hs23 (.eq (.eq (.eq (.eq (.eq (.eq (.eq (.eq (.eq (.eq (.eq (.eq (.eq (.eq (.eq (.eq (.nil))))))))))))))))) ?_ ?_
    · skip
      refine .o1 (tk rfl rfl fun _ w hn k => ⟨_, v_load rfl (k.fx 5 h28) (l_two Tryd.isAgg23 Tryd.sizeOf23 (hb56.new_ hn)), rfl⟩) ?_
      refine .o1 (ck rfl rfl rfl (fun _ w hn k => ⟨#[nv (asM a)], args1 (k.eq1 0 11 rfl), fun _ => by kernel_rfl, rnan_c (asM a) _⟩) fun _ => congrArg Value.bool ht58) ?_
      refine .o1 (tk rfl rfl fun _ w hn k => ⟨_, v_not rfl (k.eq1 1 12 rfl), rfl⟩) ?_
      refine .o1 (tk rfl rfl fun _ w hn k => ⟨_, v_move rfl (k.eq1 2 13 rfl), rfl⟩) ?_
      refine .o1 (tg rfl rfl rfl (fun _ _ k => k.eq1 3 14 rfl) fun _ w hn k => ⟨_, v_load rfl (k.fx 6 h32) (l_two Tryd.isAgg23 Tryd.sizeOf23 (hb51.new_ hn)), rfl⟩) ?_
      refine .o1 (cg rfl rfl rfl (fun _ _ k => k.eq1 3 14 rfl) rfl (fun _ w hn k => ⟨#[nv (asM b)], args1 (k.eq1 4 15 rfl), fun _ => by kernel_rfl, rnan_c (asM b) _⟩) fun _ => congrArg Value.bool ht67) ?_
      refine .o1 (tg rfl rfl rfl (fun _ _ k => k.eq1 3 14 rfl) fun _ w hn k => ⟨_, v_not rfl (k.eq1 5 16 rfl), rfl⟩) ?_
      refine .o1 (tk rfl rfl fun _ w hn k => ⟨_, v_pickT rfl (k.eq1 3 14 rfl) (k.eq1 6 17 rfl), rfl⟩) ?_
      refine .o1 (tk rfl rfl fun _ w hn k => ⟨_, v_move rfl (k.eq1 7 18 rfl), rfl⟩) ?_
      refine .o1 (sk rfl rfl rfl (fun _ _ _ k => k.eq1 8 19 rfl) (fun _ => rfl)) ?_
      refine .o1 (sk rfl rfl rfl (fun _ _ _ k => k.eq1 8 19 rfl) (fun _ => rfl)) ?_
      refine .o1 (sk rfl rfl rfl (fun _ _ _ k => k.eq1 8 19 rfl) (fun _ => rfl)) ?_
      refine .o1 (sk rfl rfl rfl (fun _ _ _ k => k.eq1 8 19 rfl) (fun _ => rfl)) ?_
      refine .o1 (sk rfl rfl rfl (fun _ _ _ k => k.eq1 8 19 rfl) (fun _ => rfl)) ?_
      refine .o1 (tk rfl rfl fun _ w hn k => ⟨_, v_pickF rfl (k.eq1 8 19 rfl) rfl, rfl⟩) ?_
      refine .o1 (tk rfl rfl fun _ w hn k => ⟨_, v_assign rfl (k.eq1 14 25 rfl), rfl⟩) ?_
      exact .nil
    intro a68 w69 hn70 ha71
    have hs72 := ha71.size.trans hs23
    have hd73 := ha71.defers.trans hd24
    have h74 := ha71.ge 15 4 rfl
    have hN75 := hN57.transNew hn70
    clear hs23 hd24 h25 h28 h32 hb56 hq37 hb51 hq38 hN57 ha71 hn70
    refine st_nil ?_
    refine hK _ _ ?_
    clear hK K
    refine wp_ret (ret_k hd73 (v := .bool false) (res_t rfl h74 _) ?_)
    refine ⟨?_, hN75⟩
    show Ending.returned (.bool false) = Ending.returned (.bool (equalM a b))
    first | rfl | (simp [equalM, equalA, ht58, ht67])
  have ht67d := of_decide_eq_false ht67
  refine wp_g0 [true, true, true, true, true, true, true, true, true, true, true, true, true, true, true, true] [] 26
    [ve (nv (asM a)),
     ve (.bool false),
     ve (.bool true),
     ve (.bool true),
     ve (nv (asM b)),
     ve (.bool false),
     ve (.bool true),
     ve (.bool true),
     ve (.bool true),
     ve (nv (asM a)),
     ve (iv (rankM (asM a))),
     ve (nv (asM b)),
     ve (iv (rankM (asM b))),
     ve (.bool (decide ((rankM (asM a)) = (rankM (asM b))))),
     ve (.bool (decide ((rankM (asM a)) = (rankM (asM b))))),
     ve (.bool (decide ((rankM (asM a)) = (rankM (asM b)))))] hs23 (.eq (.eq (.eq (.eq (.eq (.eq (.eq (.eq (.eq (.eq (.eq (.eq (.eq (.eq (.eq (.eq (.nil))))))))))))))))) ?_ ?_
  · skip
    refine .o1 (tk rfl rfl fun _ w hn k => ⟨_, v_load rfl (k.fx 5 h28) (l_two Tryd.isAgg23 Tryd.sizeOf23 (hb56.new_ hn)), rfl⟩) ?_
    refine .o1 (ck rfl rfl rfl (fun _ w hn k => ⟨#[nv (asM a)], args1 (k.eq1 0 11 rfl), fun _ => by kernel_rfl, rnan_c (asM a) _⟩) fun _ => congrArg Value.bool ht58) ?_
    refine .o1 (tk rfl rfl fun _ w hn k => ⟨_, v_not rfl (k.eq1 1 12 rfl), rfl⟩) ?_
    refine .o1 (tk rfl rfl fun _ w hn k => ⟨_, v_move rfl (k.eq1 2 13 rfl), rfl⟩) ?_
    refine .o1 (tg rfl rfl rfl (fun _ _ k => k.eq1 3 14 rfl) fun _ w hn k => ⟨_, v_load rfl (k.fx 6 h32) (l_two Tryd.isAgg23 Tryd.sizeOf23 (hb51.new_ hn)), rfl⟩) ?_
    refine .o1 (cg rfl rfl rfl (fun _ _ k => k.eq1 3 14 rfl) rfl (fun _ w hn k => ⟨#[nv (asM b)], args1 (k.eq1 4 15 rfl), fun _ => by kernel_rfl, rnan_c (asM b) _⟩) fun _ => congrArg Value.bool ht67) ?_
    refine .o1 (tg rfl rfl rfl (fun _ _ k => k.eq1 3 14 rfl) fun _ w hn k => ⟨_, v_not rfl (k.eq1 5 16 rfl), rfl⟩) ?_
    refine .o1 (tk rfl rfl fun _ w hn k => ⟨_, v_pickT rfl (k.eq1 3 14 rfl) (k.eq1 6 17 rfl), rfl⟩) ?_
    refine .o1 (tk rfl rfl fun _ w hn k => ⟨_, v_move rfl (k.eq1 7 18 rfl), rfl⟩) ?_
    refine .o1 (tg rfl rfl rfl (fun _ _ k => k.eq1 8 19 rfl) fun _ w hn k => ⟨_, v_load rfl (k.fx 5 h28) (l_two Tryd.isAgg23 Tryd.sizeOf23 (hb56.new_ hn)), rfl⟩) ?_
    refine .o1 (cg rfl rfl rfl (fun _ _ k => k.eq1 8 19 rfl) rfl (fun _ w hn k => ⟨#[nv (asM a)], args1 (k.eq1 9 20 rfl), fun _ => by kernel_rfl, rrank_c (asM a) _⟩) fun _ => rfl) ?_
    refine .o1 (tg rfl rfl rfl (fun _ _ k => k.eq1 8 19 rfl) fun _ w hn k => ⟨_, v_load rfl (k.fx 6 h32) (l_two Tryd.isAgg23 Tryd.sizeOf23 (hb51.new_ hn)), rfl⟩) ?_
    refine .o1 (cg rfl rfl rfl (fun _ _ k => k.eq1 8 19 rfl) rfl (fun _ w hn k => ⟨#[nv (asM b)], args1 (k.eq1 11 22 rfl), fun _ => by kernel_rfl, rrank_c (asM b) _⟩) fun _ => rfl) ?_
    refine .o1 (tg rfl rfl rfl (fun _ _ k => k.eq1 8 19 rfl) fun _ w hn k => ⟨_, v_bin rfl (k.eq1 10 21 rfl) (k.eq1 12 23 rfl) (fun _ => rfl) (r_eql rfl), rfl⟩) ?_
    refine .o1 (tk rfl rfl fun _ w hn k => ⟨_, v_pickT rfl (k.eq1 8 19 rfl) (k.eq1 13 24 rfl), rfl⟩) ?_
    refine .o1 (tk rfl rfl fun _ w hn k => ⟨_, v_assign rfl (k.eq1 14 25 rfl), rfl⟩) ?_
    exact .nil
  intro a76 w77 hn78 ha79
  have hs80 := ha79.size.trans hs23
  have hd81 := ha79.defers.trans hd24
  have h82 := ha79.ge 15 4 rfl
  have hN83 := hN57.transNew hn78
  clear hs23 hd24 h25 h28 h32 hb56 hq37 hb51 hq38 hN57 ha79 hn78
  refine st_nil ?_
  refine hK _ _ ?_
  clear hK K
  refine wp_ret (ret_k hd81 (v := .bool (decide ((rankM (asM a)) = (rankM (asM b))))) (res_t rfl h82 _) ?_)
  refine ⟨?_, hN83⟩
  show Ending.returned (.bool (decide ((rankM (asM a)) = (rankM (asM b))))) = Ending.returned (.bool (equalM a b))
  first | rfl | (simp [equalM, equalA, ht58, ht67])
set_option maxHeartbeats 4000000 in
set_option maxRecDepth 100000 in
theorem rsame_c (a : Nm) (b : Nm) (w : World) : Calls Tryd.prog 54 #[nv a, nv b] w (IsRet (.bool (sameM a b)) w) := by
  refine enter_abs Tryd.func54 rfl fun a0 hs0 hd0 hp => ?_
  have hs0 : a0.tmps.size = 10 := hs0
  have hN0 : New w w := Upd.refl _ _
  have hp0 : a0.eval (.tmp 0) = nv a := hp 0 _ rfl
  have hp1 : a0.eval (.tmp 1) = nv b := hp 1 _ rfl
  clear hp
  refine wp_seq_k fun K hK => ?_
  refine wp_g [true, true, true] [] [] 10
    [IsNew w 23 [iv a.k, iv a.n],
     IsNew w 23 [iv b.k, iv b.n],
     ve (.bool false)]
    [0, 1] (newsCons (fun v w h => IsNew.old h) (newsCons (fun v w h => IsNew.old h) newsNil)) hs0 (.nw (.nw (.eq (.nil)))) ?_ (fun i h => by cases h) ?_
  · skip
    refine .o2 (step_allocN (cs := [iv a.k, iv a.n]) (t := 23) rfl (noG rfl) (fun _ w hn k => v_box rfl (k.fx 0 hp0) (fun w => rfl)) (fun q _ hq hb => ⟨q, rfl, hq, hb⟩)) ?_
    refine .o2 (step_allocN (cs := [iv b.k, iv b.n]) (t := 23) rfl (noG rfl) (fun _ w hn k => v_box rfl (k.fx 1 hp1) (fun w => rfl)) (fun q _ hq hb => ⟨q, rfl, hq, hb⟩)) ?_
    refine .o1 (tk rfl rfl fun _ w hn k => ⟨_, v_assign rfl rfl, rfl⟩) ?_
    exact .nil
  intro a1 w2 hn3 ha4
  have hs5 := ha4.size.trans hs0
  have hd6 := ha4.defers.trans hd0
  obtain ⟨q8, h7, hq9, hb10⟩ : IsNew _ _ _ _ _ := ha4.got 0 2 rfl (by kernel_rfl)
  obtain ⟨q12, h11, hq13, hb14⟩ : IsNew _ _ _ _ _ := ha4.got 1 3 rfl (by kernel_rfl)
  have h15 := ha4.ge 2 4 rfl
  have hq16 := Nat.le_trans hN0.size hq9
  have hq17 := Nat.le_trans hN0.size hq13
  have hN18 := hN0.transNew hn3
  clear hs0 hd0 hp0 hp1 hq9 hq13 hN0 ha4 hn3
  refine st_nil ?_
  refine hK _ _ ?_
  clear hK K
  refine wp_seq_k fun K hK => ?_
  refine wp_g0 [true, true, true, true, true, true] [] 10
    [ve (nv a),
     ve (nv (asM a)),
     ve (nv b),
     ve (nv (asM b)),
     ve (.bool (eqN (asM a) (asM b))),
     ve (.bool (eqN (asM a) (asM b)))] hs5 (.eq (.eq (.eq (.eq (.eq (.eq (.nil))))))) ?_ ?_
  · skip
    refine .o1 (tk rfl rfl fun _ w hn k => ⟨_, v_load rfl (k.fx 2 h7) (l_two Tryd.isAgg23 Tryd.sizeOf23 (hb10.new_ hn)), rfl⟩) ?_
    refine .o1 (ck rfl rfl rfl (fun _ w hn k => ⟨#[nv a], args1 (k.eq1 0 5 rfl), fun _ => by kernel_rfl, good_c a _⟩) fun _ => rfl) ?_
    refine .o1 (tk rfl rfl fun _ w hn k => ⟨_, v_load rfl (k.fx 3 h11) (l_two Tryd.isAgg23 Tryd.sizeOf23 (hb14.new_ hn)), rfl⟩) ?_
    refine .o1 (ck rfl rfl rfl (fun _ w hn k => ⟨#[nv b], args1 (k.eq1 2 7 rfl), fun _ => by kernel_rfl, good_c b _⟩) fun _ => rfl) ?_
    refine .o1 (ck rfl rfl rfl (fun _ w hn k => ⟨#[nv (asM a), nv (asM b)], args2 (k.eq1 1 6 rfl) (k.eq1 3 8 rfl), fun _ => by kernel_rfl, rnum_c (asM a) (asM b) _⟩) fun _ => rfl) ?_
    refine .o1 (tk rfl rfl fun _ w hn k => ⟨_, v_assign rfl (k.eq1 4 9 rfl), rfl⟩) ?_
    exact .nil
  intro a19 w20 hn21 ha22
  have hs23 := ha22.size.trans hs5
  have hd24 := ha22.defers.trans hd6
  have h25 := ha22.ge 5 4 rfl
  have hN26 := hN18.transNew hn21
  clear hs5 hd6 h7 h11 h15 hb10 hq16 hb14 hq17 hN18 ha22 hn21
  have hbd_a := as_bd a
  have hbd_b := as_bd b
  refine st_nil ?_
  refine hK _ _ ?_
  clear hK K
  refine wp_ret (ret_k hd24 (v := .bool (eqN (asM a) (asM b))) (res_t rfl h25 _) ?_)
  refine ⟨?_, hN26⟩
  show Ending.returned (.bool (eqN (asM a) (asM b))) = Ending.returned (.bool (sameM a b))
  first | rfl | (simp [sameM, eqN])
set_option maxHeartbeats 4000000 in
set_option maxRecDepth 100000 in
theorem ru320_c (a : Nm) (w : World) : Calls Tryd.prog 33 #[nv a] w (IsRet (iv (rU32 a)) w) := by
  refine enter_abs Tryd.func33 rfl fun a0 hs0 hd0 hp => ?_
  have hs0 : a0.tmps.size = 14 := hs0
  have hN0 : New w w := Upd.refl _ _
  have hp0 : a0.eval (.tmp 0) = nv a := hp 0 _ rfl
  clear hp
  have htb := tmod_cast (asM a).n
  refine wp_seq_k fun K hK => ?_
  refine wp_g [true, true] [] [] 14
    [IsNew w 23 [iv a.k, iv a.n],
     ve (iv 0)]
    [0] (newsCons (fun v w h => IsNew.old h) newsNil) hs0 (.nw (.eq (.nil))) ?_ (fun i h => by cases h) ?_
  · skip
    refine .o2 (step_allocN (cs := [iv a.k, iv a.n]) (t := 23) rfl (noG rfl) (fun _ w hn k => v_box rfl (k.fx 0 hp0) (fun w => rfl)) (fun q _ hq hb => ⟨q, rfl, hq, hb⟩)) ?_
    refine .o1 (tk rfl rfl fun _ w hn k => ⟨_, v_assign rfl rfl, rfl⟩) ?_
    exact .nil
  intro a1 w2 hn3 ha4
  have hs5 := ha4.size.trans hs0
  have hd6 := ha4.defers.trans hd0
  obtain ⟨q8, h7, hq9, hb10⟩ : IsNew _ _ _ _ _ := ha4.got 0 1 rfl (by kernel_rfl)
  have h11 := ha4.ge 1 2 rfl
  have hq12 := Nat.le_trans hN0.size hq9
  have hN13 := hN0.transNew hn3
  clear hs0 hd0 hp0 hq9 hN0 ha4 hn3
  refine st_nil ?_
  refine hK _ _ ?_
  clear hK K
  refine wp_seq_k fun K hK => ?_
  refine wp_g [true, true, true, false] [] [(3, false)] 14
    [ve (nv a),
     ve (nv (asM a)),
     IsNew w2 23 [iv 0, iv 0],
     vt]
    [2] (newsCons (fun v w h => IsNew.old h) newsNil) hs5 (.eq (.eq (.nw (.tt (.nil))))) ?_ (fun i h => by cases h) ?_
  · skip
    refine .o1 (tk rfl rfl fun _ w hn k => ⟨_, v_load rfl (k.fx 1 h7) (l_two Tryd.isAgg23 Tryd.sizeOf23 (hb10.new_ hn)), rfl⟩) ?_
    refine .o1 (ck rfl rfl rfl (fun _ w hn k => ⟨#[nv a], args1 (k.eq1 0 4 rfl), fun _ => by kernel_rfl, good_c a _⟩) fun _ => rfl) ?_
    refine .o2 (step_allocN (cs := [iv 0, iv 0]) (t := 23) rfl (noG rfl) (fun _ w hn k => rfl) (fun q _ hq hb => ⟨q, rfl, hq, hb⟩)) ?_
    refine .off ?_
    exact .nil
  intro a14 w15 hn16 ha17
  have hs18 := ha17.size.trans hs5
  have hd19 := ha17.defers.trans hd6
  have h20 := ha17.fx 2 h11
  have h21 := ha17.ge 1 5 rfl
  obtain ⟨q23, h22, hq24, hb25⟩ : IsNew _ _ _ _ _ := ha17.got 2 3 rfl (by kernel_rfl)
  have hq26 := Nat.le_trans hN13.size hq24
  have hN27 := hN13.transNew hn16
  clear hs5 hd6 h7 h11 hb10 hq12 hq24 hN13 ha17 hn16
  have hbd_a := as_bd a
  obtain ⟨w28, -, hst29, hb30, hu31, hf32⟩ := s_two (v0 := iv ((asM a).k)) (v1 := iv ((asM a).n)) Tryd.sizeOf23 rfl rfl rfl hb25
  refine st_act rfl rfl fun K33 hL34 => a_store' rfl h22 h21 hst29 (hL34 _ _ trivial ?_)
  have hN35 := hN27.trans hu31 (fun k hk hkb => by subst hkb; omega)
  clear hb25 hst29 K33 hL34 hN27 hu31 hf32
  refine st_nil ?_
  clear h21
  refine hK _ _ ?_
  clear hK K
  refine wp_seq_k fun K hK => ?_
  refine wp_seq_k fun K hK => ?_
  rcases Bool.eq_false_or_eq_true (decide (((asM a).k) = 0)) with ht36 | ht36
  · skip
    have ht36d := of_decide_eq_true ht36
    refine wp_g0 [true, true, true] [] 14
      [ve (pv q23),
       ve (iv ((asM a).k)),
       ve (.bool false)] hs18 (.eq (.eq (.eq (.nil)))) ?_ ?_
    · skip
      refine .o1 (tk rfl rfl fun _ w hn k => ⟨_, v_field rfl (k.fx 3 h22) (fun w => rfl), rfl⟩) ?_
      refine .o1 (tk rfl rfl fun _ w hn k => ⟨_, v_load rfl (k.eq1 0 6 rfl) (l_one Tryd.isAgg3 ((hb30.new_ hn).cell 0)), rfl⟩) ?_
      refine .o1 (tk rfl rfl fun _ w hn k => ⟨_, v_bin rfl (k.eq1 1 7 rfl) rfl (fun _ => rfl) (r_neq ht36), rfl⟩) ?_
      exact .nil
    intro a37 w38 hn39 ha40
    have hs41 := ha40.size.trans hs18
    have hd42 := ha40.defers.trans hd19
    have h43 := ha40.fx 2 h20
    have h44 := ha40.fx 3 h22
    have h45 := ha40.ge 2 8 rfl
    have hb46 := hb30.new_ hn39
    have hN47 := hN35.transNew hn39
    clear hs18 hd19 h20 h22 hb30 hN35 ha40 hn39
    refine st_nil ?_
    refine hK _ _ ?_
    clear hK K
    refine wp_cond_false h45 ?_
    refine wp_skip ?_
    refine hK _ _ ?_
    clear hK K
    refine wp_seq_k fun K hK => ?_
    refine wp_g0 [true, true, true, true, true, true] [] 14
      [ve (.pointer (some ⟨q23, 1, none⟩)),
       ve (iv ((asM a).n)),
       ve (iv (((asM a).n).tmod 4294967296)),
       ve (iv ((((asM a).n).tmod 4294967296) + 4294967296)),
       ve (iv (((((asM a).n).tmod 4294967296) + 4294967296).tmod 4294967296)),
       ve (iv (((((asM a).n).tmod 4294967296) + 4294967296).tmod 4294967296))] hs41 (.eq (.eq (.eq (.eq (.eq (.eq (.nil))))))) ?_ ?_
    · skip
      refine .o1 (tk rfl rfl fun _ w hn k => ⟨_, v_field rfl (k.fx 3 h44) (fun w => rfl), rfl⟩) ?_
      refine .o1 (tk rfl rfl fun _ w hn k => ⟨_, v_load rfl (k.eq1 0 9 rfl) (l_one Tryd.isAgg3 ((hb46.new_ hn).cell 1)), rfl⟩) ?_
      refine .o1 (tk rfl rfl fun _ w hn k => ⟨_, v_bin rfl (k.eq1 1 10 rfl) rfl (fun _ => rfl) (r_remI rfl (by omega)), rfl⟩) ?_
      refine .o1 (tk rfl rfl fun _ w hn k => ⟨_, v_bin rfl (k.eq1 2 11 rfl) rfl (fun _ => rfl) (r_add rfl (by omega)), rfl⟩) ?_
      refine .o1 (tk rfl rfl fun _ w hn k => ⟨_, v_bin rfl (k.eq1 3 12 rfl) rfl (fun _ => rfl) (r_remI rfl (by omega)), rfl⟩) ?_
      refine .o1 (tk rfl rfl fun _ w hn k => ⟨_, v_assign rfl (k.eq1 4 13 rfl), rfl⟩) ?_
      exact .nil
    intro a48 w49 hn50 ha51
    have hs52 := ha51.size.trans hs41
    have hd53 := ha51.defers.trans hd42
    have h54 := ha51.ge 5 2 rfl
    have hN55 := hN47.transNew hn50
    clear hs41 hd42 h43 h44 h45 hb46 hq26 hN47 ha51 hn50
    refine st_nil ?_
    refine hK _ _ ?_
    clear hK K
    refine wp_ret (ret_k hd53 (v := iv (((((asM a).n).tmod 4294967296) + 4294967296).tmod 4294967296)) (res_t rfl h54 _) ?_)
    refine ⟨?_, hN55⟩
    show Ending.returned (iv (((((asM a).n).tmod 4294967296) + 4294967296).tmod 4294967296)) = Ending.returned (iv (rU32 a))
    first | rfl | (simp [rU32, ht36])
  have ht36d := of_decide_eq_false ht36
  refine wp_g0 [true, true, true] [] 14
    [ve (pv q23),
     ve (iv ((asM a).k)),
     ve (.bool true)] hs18 (.eq (.eq (.eq (.nil)))) ?_ ?_
  · skip
    refine .o1 (tk rfl rfl fun _ w hn k => ⟨_, v_field rfl (k.fx 3 h22) (fun w => rfl), rfl⟩) ?_
    refine .o1 (tk rfl rfl fun _ w hn k => ⟨_, v_load rfl (k.eq1 0 6 rfl) (l_one Tryd.isAgg3 ((hb30.new_ hn).cell 0)), rfl⟩) ?_
    refine .o1 (tk rfl rfl fun _ w hn k => ⟨_, v_bin rfl (k.eq1 1 7 rfl) rfl (fun _ => rfl) (r_neq ht36), rfl⟩) ?_
    exact .nil
  intro a56 w57 hn58 ha59
  have hs60 := ha59.size.trans hs18
  have hd61 := ha59.defers.trans hd19
  have h62 := ha59.fx 2 h20
  have h63 := ha59.fx 3 h22
  have h64 := ha59.ge 2 8 rfl
  have hb65 := hb30.new_ hn58
  have hN66 := hN35.transNew hn58
  clear hs18 hd19 h20 h22 hb30 hN35 ha59 hn58
  refine st_nil ?_
  refine hK _ _ ?_
  clear hK K
  refine wp_cond_true h64 ?_
  refine wp_seq_k fun K hK => ?_
  refine wp_g0 [true] [] 14
    [ve (iv 0)] hs60 (.eq (.nil)) ?_ ?_
  · skip
    refine .o1 (tk rfl rfl fun _ w hn k => ⟨_, v_assign rfl rfl, rfl⟩) ?_
    exact .nil
  intro a67 w68 hn69 ha70
  have hs71 := ha70.size.trans hs60
  have hd72 := ha70.defers.trans hd61
  have h73 := ha70.fx 3 h63
  have h74 := ha70.ge 0 2 rfl
  have hb75 := hb65.new_ hn69
  have hN76 := hN66.transNew hn69
  clear hs60 hd61 h62 h63 h64 hb65 hN66 ha70 hn69
  refine st_nil ?_
  refine hK _ _ ?_
  clear hK K
  refine wp_ret (ret_k hd72 (v := iv 0) (res_t rfl h74 _) ?_)
  refine ⟨?_, hN76⟩
  show Ending.returned (iv 0) = Ending.returned (iv (rU32 a))
  first | rfl | (simp [rU32, ht36])
theorem ru32_c (a : Nm) (w : World) : Calls Tryd.prog 33 #[nv a] w (IsRet (iv (u32M a)) w) := by
  have h := ru320_c a w
  rw [rU32_eq] at h
  exact h
set_option maxHeartbeats 4000000 in
set_option maxRecDepth 100000 in
theorem ri320_c (a : Nm) (w : World) : Calls Tryd.prog 32 #[nv a] w (IsRet (iv (rI32 a)) w) := by
  refine enter_abs Tryd.func32 rfl fun a0 hs0 hd0 hp => ?_
  have hs0 : a0.tmps.size = 11 := hs0
  have hN0 : New w w := Upd.refl _ _
  have hp0 : a0.eval (.tmp 0) = nv a := hp 0 _ rfl
  clear hp
  have hu := u32_bd a
  refine wp_seq_k fun K hK => ?_
  refine wp_g [true, true] [] [] 11
    [IsNew w 23 [iv a.k, iv a.n],
     ve (iv 0)]
    [0] (newsCons (fun v w h => IsNew.old h) newsNil) hs0 (.nw (.eq (.nil))) ?_ (fun i h => by cases h) ?_
  · skip
    refine .o2 (step_allocN (cs := [iv a.k, iv a.n]) (t := 23) rfl (noG rfl) (fun _ w hn k => v_box rfl (k.fx 0 hp0) (fun w => rfl)) (fun q _ hq hb => ⟨q, rfl, hq, hb⟩)) ?_
    refine .o1 (tk rfl rfl fun _ w hn k => ⟨_, v_assign rfl rfl, rfl⟩) ?_
    exact .nil
  intro a1 w2 hn3 ha4
  have hs5 := ha4.size.trans hs0
  have hd6 := ha4.defers.trans hd0
  obtain ⟨q8, h7, hq9, hb10⟩ : IsNew _ _ _ _ _ := ha4.got 0 1 rfl (by kernel_rfl)
  have h11 := ha4.ge 1 2 rfl
  have hq12 := Nat.le_trans hN0.size hq9
  have hN13 := hN0.transNew hn3
  clear hs0 hd0 hp0 hq9 hN0 ha4 hn3
  refine st_nil ?_
  refine hK _ _ ?_
  clear hK K
  refine wp_seq_k fun K hK => ?_
  refine wp_g0 [true, true, true] [] 11
    [ve (nv a),
     ve (iv (u32M a)),
     ve (iv (u32M a))] hs5 (.eq (.eq (.eq (.nil)))) ?_ ?_
  · skip
    refine .o1 (tk rfl rfl fun _ w hn k => ⟨_, v_load rfl (k.fx 1 h7) (l_two Tryd.isAgg23 Tryd.sizeOf23 (hb10.new_ hn)), rfl⟩) ?_
    refine .o1 (ck rfl rfl rfl (fun _ w hn k => ⟨#[nv a], args1 (k.eq1 0 4 rfl), fun _ => by kernel_rfl, ru32_c a _⟩) fun _ => rfl) ?_
    refine .o1 (tk rfl rfl fun _ w hn k => ⟨_, v_assign rfl (k.eq1 1 5 rfl), rfl⟩) ?_
    exact .nil
  intro a14 w15 hn16 ha17
  have hs18 := ha17.size.trans hs5
  have hd19 := ha17.defers.trans hd6
  have h20 := ha17.fx 2 h11
  have h21 := ha17.ge 2 3 rfl
  have hN22 := hN13.transNew hn16
  clear hs5 hd6 h7 h11 hb10 hq12 hN13 ha17 hn16
  have hu32_a := u32_bd a
  refine st_nil ?_
  refine hK _ _ ?_
  clear hK K
  refine wp_seq_k fun K hK => ?_
  refine wp_seq_k fun K hK => ?_
  rcases Bool.eq_false_or_eq_true (decide ((u32M a) < 2147483648)) with ht23 | ht23
  · skip
    have ht23d := of_decide_eq_true ht23
    refine wp_g0 [true, true] [] 11
      [ve (iv (u32M a)),
       ve (.bool false)] hs18 (.eq (.eq (.nil))) ?_ ?_
    · skip
      refine .o1 (tk rfl rfl fun _ w hn k => ⟨_, v_move rfl (k.fx 3 h21), rfl⟩) ?_
      refine .o1 (tk rfl rfl fun _ w hn k => ⟨_, v_bin rfl (k.eq1 0 6 rfl) rfl (fun _ => rfl) (r_geqK ht23), rfl⟩) ?_
      exact .nil
    intro a24 w25 hn26 ha27
    have hs28 := ha27.size.trans hs18
    have hd29 := ha27.defers.trans hd19
    have h30 := ha27.fx 2 h20
    have h31 := ha27.fx 3 h21
    have h32 := ha27.ge 1 7 rfl
    have hN33 := hN22.transNew hn26
    clear hs18 hd19 h20 h21 hN22 ha27 hn26
    refine st_nil ?_
    refine hK _ _ ?_
    clear hK K
    refine wp_cond_false h32 ?_
    refine wp_skip ?_
    refine hK _ _ ?_
    clear hK K
    refine wp_seq_k fun K hK => ?_
    refine wp_g0 [true, true] [] 11
      [ve (iv (u32M a)),
       ve (iv (u32M a))] hs28 (.eq (.eq (.nil))) ?_ ?_
    · skip
      refine .o1 (tk rfl rfl fun _ w hn k => ⟨_, v_move rfl (k.fx 3 h31), rfl⟩) ?_
      refine .o1 (tk rfl rfl fun _ w hn k => ⟨_, v_assign rfl (k.eq1 0 10 rfl), rfl⟩) ?_
      exact .nil
    intro a34 w35 hn36 ha37
    have hs38 := ha37.size.trans hs28
    have hd39 := ha37.defers.trans hd29
    have h40 := ha37.ge 1 2 rfl
    have hN41 := hN33.transNew hn36
    clear hs28 hd29 h30 h31 h32 hN33 ha37 hn36
    refine st_nil ?_
    refine hK _ _ ?_
    clear hK K
    refine wp_ret (ret_k hd39 (v := iv (u32M a)) (res_t rfl h40 _) ?_)
    refine ⟨?_, hN41⟩
    show Ending.returned (iv (u32M a)) = Ending.returned (iv (rI32 a))
    first | rfl | (simp [rI32, ht23])
  have ht23d := of_decide_eq_false ht23
  refine wp_g0 [true, true] [] 11
    [ve (iv (u32M a)),
     ve (.bool true)] hs18 (.eq (.eq (.nil))) ?_ ?_
  · skip
    refine .o1 (tk rfl rfl fun _ w hn k => ⟨_, v_move rfl (k.fx 3 h21), rfl⟩) ?_
    refine .o1 (tk rfl rfl fun _ w hn k => ⟨_, v_bin rfl (k.eq1 0 6 rfl) rfl (fun _ => rfl) (r_geqK ht23), rfl⟩) ?_
    exact .nil
  intro a42 w43 hn44 ha45
  have hs46 := ha45.size.trans hs18
  have hd47 := ha45.defers.trans hd19
  have h48 := ha45.fx 2 h20
  have h49 := ha45.fx 3 h21
  have h50 := ha45.ge 1 7 rfl
  have hN51 := hN22.transNew hn44
  clear hs18 hd19 h20 h21 hN22 ha45 hn44
  refine st_nil ?_
  refine hK _ _ ?_
  clear hK K
  refine wp_cond_true h50 ?_
  refine wp_seq_k fun K hK => ?_
  refine wp_g0 [true, true, true] [] 11
    [ve (iv (u32M a)),
     ve (iv ((u32M a) - 4294967296)),
     ve (iv ((u32M a) - 4294967296))] hs46 (.eq (.eq (.eq (.nil)))) ?_ ?_
  · skip
    refine .o1 (tk rfl rfl fun _ w hn k => ⟨_, v_move rfl (k.fx 3 h49), rfl⟩) ?_
    refine .o1 (tk rfl rfl fun _ w hn k => ⟨_, v_bin rfl (k.eq1 0 8 rfl) rfl (fun _ => rfl) (r_sub rfl (by omega)), rfl⟩) ?_
    refine .o1 (tk rfl rfl fun _ w hn k => ⟨_, v_assign rfl (k.eq1 1 9 rfl), rfl⟩) ?_
    exact .nil
  intro a52 w53 hn54 ha55
  have hs56 := ha55.size.trans hs46
  have hd57 := ha55.defers.trans hd47
  have h58 := ha55.fx 3 h49
  have h59 := ha55.ge 2 2 rfl
  have hN60 := hN51.transNew hn54
  clear hs46 hd47 h48 h49 h50 hN51 ha55 hn54
  refine st_nil ?_
  refine hK _ _ ?_
  clear hK K
  refine wp_ret (ret_k hd57 (v := iv ((u32M a) - 4294967296)) (res_t rfl h59 _) ?_)
  refine ⟨?_, hN60⟩
  show Ending.returned (iv ((u32M a) - 4294967296)) = Ending.returned (iv (rI32 a))
  first | rfl | (simp [rI32, ht23])
theorem ri32_c (a : Nm) (w : World) : Calls Tryd.prog 32 #[nv a] w (IsRet (iv (i32M a)) w) := by
  have h := ri320_c a w
  rw [rI32_eq] at h
  exact h
set_option maxHeartbeats 4000000 in
set_option maxRecDepth 100000 in
theorem rwhole_c (a : Nm) (w : World) : Calls Tryd.prog 36 #[nv a] w (IsRet (nv (wholeM a)) w) := by
  refine enter_abs Tryd.func36 rfl fun a0 hs0 hd0 hp => ?_
  have hs0 : a0.tmps.size = 15 := hs0
  have hN0 : New w w := Upd.refl _ _
  have hp0 : a0.eval (.tmp 0) = nv a := hp 0 _ rfl
  clear hp
  refine wp_seq_k fun K hK => ?_
  refine wp_g [true, true] [] [] 15
    [IsNew w 23 [iv a.k, iv a.n],
     IsNew w 23 [iv 0, iv 0]]
    [0, 1] (newsCons (fun v w h => IsNew.old h) (newsCons (fun v w h => IsNew.old h) newsNil)) hs0 (.nw (.nw (.nil))) ?_ (fun i h => by cases h) ?_
  · skip
    refine .o2 (step_allocN (cs := [iv a.k, iv a.n]) (t := 23) rfl (noG rfl) (fun _ w hn k => v_box rfl (k.fx 0 hp0) (fun w => rfl)) (fun q _ hq hb => ⟨q, rfl, hq, hb⟩)) ?_
    refine .o2 (step_allocN (cs := [iv 0, iv 0]) (t := 23) rfl (noG rfl) (fun _ w hn k => rfl) (fun q _ hq hb => ⟨q, rfl, hq, hb⟩)) ?_
    exact .nil
  intro a1 w2 hn3 ha4
  have hs5 := ha4.size.trans hs0
  have hd6 := ha4.defers.trans hd0
  obtain ⟨q8, h7, hq9, hb10⟩ : IsNew _ _ _ _ _ := ha4.got 0 1 rfl (by kernel_rfl)
  obtain ⟨q12, h11, hq13, hb14⟩ : IsNew _ _ _ _ _ := ha4.got 1 2 rfl (by kernel_rfl)
  have hne15 : q8 ≠ q12 := ha4.ne 0 1 1 2 h7 h11
  have hq16 := Nat.le_trans hN0.size hq9
  have hq17 := Nat.le_trans hN0.size hq13
  have hN18 := hN0.transNew hn3
  clear hs0 hd0 hp0 hq9 hq13 hN0 ha4 hn3
  refine st_nil ?_
  refine hK _ _ ?_
  clear hK K
  refine wp_seq_k fun K hK => ?_
  refine wp_g [true, true, true, false] [] [(3, false)] 15
    [ve (nv a),
     ve (nv (asM a)),
     IsNew w2 23 [iv 0, iv 0],
     vt]
    [2] (newsCons (fun v w h => IsNew.old h) newsNil) hs5 (.eq (.eq (.nw (.tt (.nil))))) ?_ (fun i h => by cases h) ?_
  · skip
    refine .o1 (tk rfl rfl fun _ w hn k => ⟨_, v_load rfl (k.fx 1 h7) (l_two Tryd.isAgg23 Tryd.sizeOf23 (hb10.new_ hn)), rfl⟩) ?_
    refine .o1 (ck rfl rfl rfl (fun _ w hn k => ⟨#[nv a], args1 (k.eq1 0 4 rfl), fun _ => by kernel_rfl, good_c a _⟩) fun _ => rfl) ?_
    refine .o2 (step_allocN (cs := [iv 0, iv 0]) (t := 23) rfl (noG rfl) (fun _ w hn k => rfl) (fun q _ hq hb => ⟨q, rfl, hq, hb⟩)) ?_
    refine .off ?_
    exact .nil
  intro a19 w20 hn21 ha22
  have hs23 := ha22.size.trans hs5
  have hd24 := ha22.defers.trans hd6
  have h25 := ha22.fx 2 h11
  have h26 := ha22.ge 1 5 rfl
  obtain ⟨q28, h27, hq29, hb30⟩ : IsNew _ _ _ _ _ := ha22.got 2 3 rfl (by kernel_rfl)
  have hb31 := hb14.new_ hn21
  have hne32 : q12 ≠ q28 := by have h1 := hb14.lt; have h2 := hq29; omega
  have hq33 := Nat.le_trans hN18.size hq29
  have hN34 := hN18.transNew hn21
  clear hs5 hd6 h7 h11 hb10 hq16 hb14 hq29 hN18 ha22 hn21
  have hbd_a := as_bd a
  obtain ⟨w35, -, hst36, hb37, hu38, hf39⟩ := s_two (v0 := iv ((asM a).k)) (v1 := iv ((asM a).n)) Tryd.sizeOf23 rfl rfl rfl hb30
  refine st_act rfl rfl fun K40 hL41 => a_store' rfl h27 h26 hst36 (hL41 _ _ trivial ?_)
  have hb42 := hf39 _ _ _ (hne32) hb31
  have hN43 := hN34.trans hu38 (fun k hk hkb => by subst hkb; omega)
  clear hb30 hst36 K40 hL41 hN34 hb31 hu38 hf39
  refine st_nil ?_
  clear h26
  refine hK _ _ ?_
  clear hK K
  refine wp_seq_k fun K hK => ?_
  refine wp_seq_k fun K hK => ?_
  rcases Bool.eq_false_or_eq_true (decide (((asM a).k) = 2)) with ht44 | ht44
  · skip
    have ht44d := of_decide_eq_true ht44
    refine wp_g0 [true, true, true, true, true, true, true] [] 15
      [ve (nv (asM a)),
       ve (.bool true),
       ve (.bool true),
       ve undef,
       ve undef,
       ve undef,
       ve (.bool true)] hs23 (.eq (.eq (.eq (.eq (.eq (.eq (.eq (.nil)))))))) ?_ ?_
    · skip
      refine .o1 (tk rfl rfl fun _ w hn k => ⟨_, v_load rfl (k.fx 3 h27) (l_two Tryd.isAgg23 Tryd.sizeOf23 (hb37.new_ hn)), rfl⟩) ?_
      refine .o1 (ck rfl rfl rfl (fun _ w hn k => ⟨#[nv (asM a)], args1 (k.eq1 0 6 rfl), fun _ => by kernel_rfl, rnan_c (asM a) _⟩) fun _ => congrArg Value.bool ht44) ?_
      refine .o1 (tk rfl rfl fun _ w hn k => ⟨_, v_move rfl (k.eq1 1 7 rfl), rfl⟩) ?_
      refine .o1 (sk rfl rfl rfl (fun _ _ _ k => k.eq1 2 8 rfl) (fun _ => rfl)) ?_
      refine .o1 (sk rfl rfl rfl (fun _ _ _ k => k.eq1 2 8 rfl) (fun _ => rfl)) ?_
      refine .o1 (sk rfl rfl rfl (fun _ _ _ k => k.eq1 2 8 rfl) (fun _ => rfl)) ?_
      refine .o1 (tk rfl rfl fun _ w hn k => ⟨_, v_pickT rfl (k.eq1 2 8 rfl) rfl, rfl⟩) ?_
      exact .nil
    intro a45 w46 hn47 ha48
    have hs49 := ha48.size.trans hs23
    have hd50 := ha48.defers.trans hd24
    have h51 := ha48.fx 2 h25
    have h52 := ha48.fx 3 h27
    have h53 := ha48.ge 6 12 rfl
    have hb54 := hb42.new_ hn47
    have hb55 := hb37.new_ hn47
    have hN56 := hN43.transNew hn47
    clear hs23 hd24 h25 h27 hb42 hb37 hN43 ha48 hn47
    refine st_nil ?_
    refine hK _ _ ?_
    clear hK K
    refine wp_cond_true h53 ?_
    refine wp_seq_k fun K hK => ?_
    refine wp_g0 [true, false] [(1, false)] 15
      [ve (nv (Nm.mk 0 0)),
       vt] hs49 (.eq (.tt (.nil))) ?_ ?_
    · skip
      refine .o1 (tk rfl rfl fun _ w hn k => ⟨_, v_build (ps := []) rfl parts0 (by kernel_rfl), rfl⟩) ?_
      refine .off ?_
      exact .nil
    intro a57 w58 hn59 ha60
    have hs61 := ha60.size.trans hs49
    have hd62 := ha60.defers.trans hd50
    have h63 := ha60.fx 2 h51
    have h64 := ha60.fx 3 h52
    have h65 := ha60.ge 0 13 rfl
    have hb66 := hb54.new_ hn59
    have hb67 := hb55.new_ hn59
    have hN68 := hN56.transNew hn59
    clear hs49 hd50 h51 h52 h53 hb54 hb55 hN56 ha60 hn59
    obtain ⟨w69, -, hst70, hb71, hu72, hf73⟩ := s_two (v0 := iv 0) (v1 := iv 0) Tryd.sizeOf23 rfl rfl rfl hb66
    refine st_act rfl rfl fun K74 hL75 => a_store' rfl h63 h65 hst70 (hL75 _ _ trivial ?_)
    have hb76 := hf73 _ _ _ (fun h => hne32 h.symm) hb67
    have hN77 := hN68.trans hu72 (fun k hk hkb => by subst hkb; omega)
    clear hb66 hst70 K74 hL75 hN68 hb67 hu72 hf73
    refine st_nil ?_
    clear h65
    refine hK _ _ ?_
    clear hK K
    refine wp_ret (ret_k hd62 (v := nv (Nm.mk 0 0)) (res_c rfl h63 (l_two Tryd.isAgg23 Tryd.sizeOf23 hb71)) ?_)
    refine ⟨?_, hN77⟩
    show Ending.returned (nv (Nm.mk 0 0)) = Ending.returned (nv (wholeM a))
    first | rfl | (simp [wholeM, ht44])
  have ht44d := of_decide_eq_false ht44
  refine wp_g0 [true, true, true, true, true, true, true] [] 15
    [ve (nv (asM a)),
     ve (.bool false),
     ve (.bool false),
     ve (pv q28),
     ve (iv ((asM a).k)),
     ve (.bool (decide (((asM a).k) = 1))),
     ve (.bool (decide (((asM a).k) = 1)))] hs23 (.eq (.eq (.eq (.eq (.eq (.eq (.eq (.nil)))))))) ?_ ?_
  · skip
    refine .o1 (tk rfl rfl fun _ w hn k => ⟨_, v_load rfl (k.fx 3 h27) (l_two Tryd.isAgg23 Tryd.sizeOf23 (hb37.new_ hn)), rfl⟩) ?_
    refine .o1 (ck rfl rfl rfl (fun _ w hn k => ⟨#[nv (asM a)], args1 (k.eq1 0 6 rfl), fun _ => by kernel_rfl, rnan_c (asM a) _⟩) fun _ => congrArg Value.bool ht44) ?_
    refine .o1 (tk rfl rfl fun _ w hn k => ⟨_, v_move rfl (k.eq1 1 7 rfl), rfl⟩) ?_
    refine .o1 (tg rfl rfl rfl (fun _ _ k => k.eq1 2 8 rfl) fun _ w hn k => ⟨_, v_field rfl (k.fx 3 h27) (fun w => rfl), rfl⟩) ?_
    refine .o1 (tg rfl rfl rfl (fun _ _ k => k.eq1 2 8 rfl) fun _ w hn k => ⟨_, v_load rfl (k.eq1 3 9 rfl) (l_one Tryd.isAgg3 ((hb37.new_ hn).cell 0)), rfl⟩) ?_
    refine .o1 (tg rfl rfl rfl (fun _ _ k => k.eq1 2 8 rfl) fun _ w hn k => ⟨_, v_bin rfl (k.eq1 4 10 rfl) rfl (fun _ => rfl) (r_eql rfl), rfl⟩) ?_
    refine .o1 (tk rfl rfl fun _ w hn k => ⟨_, v_pickF rfl (k.eq1 2 8 rfl) (k.eq1 5 11 rfl), rfl⟩) ?_
    exact .nil
  intro a78 w79 hn80 ha81
  have hs82 := ha81.size.trans hs23
  have hd83 := ha81.defers.trans hd24
  have h84 := ha81.fx 2 h25
  have h85 := ha81.fx 3 h27
  have h86 := ha81.ge 6 12 rfl
  have hb87 := hb42.new_ hn80
  have hb88 := hb37.new_ hn80
  have hN89 := hN43.transNew hn80
  clear hs23 hd24 h25 h27 hb42 hb37 hN43 ha81 hn80
  refine st_nil ?_
  refine hK _ _ ?_
  clear hK K
  rcases Bool.eq_false_or_eq_true (decide (((asM a).k) = 1)) with ht90 | ht90
  · skip
    have ht90d := of_decide_eq_true ht90
    have hv91 : a78.eval (.tmp 12) = .bool true := h86.trans (congrArg Value.bool ht90)
    clear h86
    refine wp_cond_true hv91 ?_
    refine wp_seq_k fun K hK => ?_
    refine wp_g0 [true, false] [(1, false)] 15
      [ve (nv (Nm.mk 0 0)),
       vt] hs82 (.eq (.tt (.nil))) ?_ ?_
    · skip
      refine .o1 (tk rfl rfl fun _ w hn k => ⟨_, v_build (ps := []) rfl parts0 (by kernel_rfl), rfl⟩) ?_
      refine .off ?_
      exact .nil
    intro a92 w93 hn94 ha95
    have hs96 := ha95.size.trans hs82
    have hd97 := ha95.defers.trans hd83
    have h98 := ha95.fx 2 h84
    have h99 := ha95.fx 3 h85
    have h100 := ha95.ge 0 13 rfl
    have hb101 := hb87.new_ hn94
    have hb102 := hb88.new_ hn94
    have hN103 := hN89.transNew hn94
    clear hs82 hd83 h84 h85 hv91 hb87 hb88 hN89 ha95 hn94
    obtain ⟨w104, -, hst105, hb106, hu107, hf108⟩ := s_two (v0 := iv 0) (v1 := iv 0) Tryd.sizeOf23 rfl rfl rfl hb101
    refine st_act rfl rfl fun K109 hL110 => a_store' rfl h98 h100 hst105 (hL110 _ _ trivial ?_)
    have hb111 := hf108 _ _ _ (fun h => hne32 h.symm) hb102
    have hN112 := hN103.trans hu107 (fun k hk hkb => by subst hkb; omega)
    clear hb101 hst105 K109 hL110 hN103 hb102 hu107 hf108
    refine st_nil ?_
    clear h100
    refine hK _ _ ?_
    clear hK K
    refine wp_ret (ret_k hd97 (v := nv (Nm.mk 0 0)) (res_c rfl h98 (l_two Tryd.isAgg23 Tryd.sizeOf23 hb106)) ?_)
    refine ⟨?_, hN112⟩
    show Ending.returned (nv (Nm.mk 0 0)) = Ending.returned (nv (wholeM a))
    first | rfl | (simp [wholeM, ht44, ht90])
  have ht90d := of_decide_eq_false ht90
  have hv113 : a78.eval (.tmp 12) = .bool false := h86.trans (congrArg Value.bool ht90)
  clear h86
  refine wp_cond_false hv113 ?_
  refine wp_skip ?_
  refine hK _ _ ?_
  clear hK K
  refine wp_seq_k fun K hK => ?_
  refine wp_g0 [true, false] [(1, false)] 15
    [ve (nv (asM a)),
     vt] hs82 (.eq (.tt (.nil))) ?_ ?_
  · skip
    refine .o1 (tk rfl rfl fun _ w hn k => ⟨_, v_load rfl (k.fx 3 h85) (l_two Tryd.isAgg23 Tryd.sizeOf23 (hb88.new_ hn)), rfl⟩) ?_
    refine .off ?_
    exact .nil
  intro a114 w115 hn116 ha117
  have hs118 := ha117.size.trans hs82
  have hd119 := ha117.defers.trans hd83
  have h120 := ha117.fx 2 h84
  have h121 := ha117.ge 0 14 rfl
  have hb122 := hb87.new_ hn116
  have hN123 := hN89.transNew hn116
  clear hs82 hd83 h84 h85 hv113 hb87 hb88 hq33 hN89 ha117 hn116
  obtain ⟨w124, -, hst125, hb126, hu127, hf128⟩ := s_two (v0 := iv ((asM a).k)) (v1 := iv ((asM a).n)) Tryd.sizeOf23 rfl rfl rfl hb122
  refine st_act rfl rfl fun K129 hL130 => a_store' rfl h120 h121 hst125 (hL130 _ _ trivial ?_)
  have hN131 := hN123.trans hu127 (fun k hk hkb => by subst hkb; omega)
  clear hb122 hst125 K129 hL130 hN123 hu127 hf128
  refine st_nil ?_
  clear h121
  refine hK _ _ ?_
  clear hK K
  refine wp_ret (ret_k hd119 (v := nv (asM a)) (res_c rfl h120 (l_two Tryd.isAgg23 Tryd.sizeOf23 hb126)) ?_)
  refine ⟨?_, hN131⟩
  show Ending.returned (nv (asM a)) = Ending.returned (nv (wholeM a))
  first | rfl | (simp [wholeM, ht44, ht90])
set_option maxHeartbeats 4000000 in
set_option maxRecDepth 100000 in
theorem rindex_c (a : Nm) (w : World) : Calls Tryd.prog 31 #[nv a] w (IsRet (.tuple #[iv ((indexM a).1), .bool ((indexM a).2)]) w) := by
  refine enter_abs Tryd.func31 rfl fun a0 hs0 hd0 hp => ?_
  have hs0 : a0.tmps.size = 17 := hs0
  have hN0 : New w w := Upd.refl _ _
  have hp0 : a0.eval (.tmp 0) = nv a := hp 0 _ rfl
  clear hp
  refine wp_seq_k fun K hK => ?_
  refine wp_g [true, true, true] [] [] 17
    [IsNew w 23 [iv a.k, iv a.n],
     ve (iv 0),
     ve (.bool false)]
    [0] (newsCons (fun v w h => IsNew.old h) newsNil) hs0 (.nw (.eq (.eq (.nil)))) ?_ (fun i h => by cases h) ?_
  · skip
    refine .o2 (step_allocN (cs := [iv a.k, iv a.n]) (t := 23) rfl (noG rfl) (fun _ w hn k => v_box rfl (k.fx 0 hp0) (fun w => rfl)) (fun q _ hq hb => ⟨q, rfl, hq, hb⟩)) ?_
    refine .o1 (tk rfl rfl fun _ w hn k => ⟨_, v_assign rfl rfl, rfl⟩) ?_
    refine .o1 (tk rfl rfl fun _ w hn k => ⟨_, v_assign rfl rfl, rfl⟩) ?_
    exact .nil
  intro a1 w2 hn3 ha4
  have hs5 := ha4.size.trans hs0
  have hd6 := ha4.defers.trans hd0
  obtain ⟨q8, h7, hq9, hb10⟩ : IsNew _ _ _ _ _ := ha4.got 0 1 rfl (by kernel_rfl)
  have h11 := ha4.ge 1 2 rfl
  have h12 := ha4.ge 2 3 rfl
  have hq13 := Nat.le_trans hN0.size hq9
  have hN14 := hN0.transNew hn3
  clear hs0 hd0 hp0 hq9 hN0 ha4 hn3
  refine st_nil ?_
  refine hK _ _ ?_
  clear hK K
  refine wp_seq_k fun K hK => ?_
  refine wp_g [true, true, true, false] [] [(3, false)] 17
    [ve (nv a),
     ve (nv (wholeM a)),
     IsNew w2 23 [iv 0, iv 0],
     vt]
    [2] (newsCons (fun v w h => IsNew.old h) newsNil) hs5 (.eq (.eq (.nw (.tt (.nil))))) ?_ (fun i h => by cases h) ?_
  · skip
    refine .o1 (tk rfl rfl fun _ w hn k => ⟨_, v_load rfl (k.fx 1 h7) (l_two Tryd.isAgg23 Tryd.sizeOf23 (hb10.new_ hn)), rfl⟩) ?_
    refine .o1 (ck rfl rfl rfl (fun _ w hn k => ⟨#[nv a], args1 (k.eq1 0 5 rfl), fun _ => by kernel_rfl, rwhole_c a _⟩) fun _ => rfl) ?_
    refine .o2 (step_allocN (cs := [iv 0, iv 0]) (t := 23) rfl (noG rfl) (fun _ w hn k => rfl) (fun q _ hq hb => ⟨q, rfl, hq, hb⟩)) ?_
    refine .off ?_
    exact .nil
  intro a15 w16 hn17 ha18
  have hs19 := ha18.size.trans hs5
  have hd20 := ha18.defers.trans hd6
  have h21 := ha18.fx 2 h11
  have h22 := ha18.fx 3 h12
  have h23 := ha18.ge 1 6 rfl
  obtain ⟨q25, h24, hq26, hb27⟩ : IsNew _ _ _ _ _ := ha18.got 2 4 rfl (by kernel_rfl)
  have hq28 := Nat.le_trans hN14.size hq26
  have hN29 := hN14.transNew hn17
  clear hs5 hd6 h7 h11 h12 hb10 hq13 hq26 hN14 ha18 hn17
  obtain ⟨w30, -, hst31, hb32, hu33, hf34⟩ := s_two (v0 := iv ((wholeM a).k)) (v1 := iv ((wholeM a).n)) Tryd.sizeOf23 rfl rfl rfl hb27
  refine st_act rfl rfl fun K35 hL36 => a_store' rfl h24 h23 hst31 (hL36 _ _ trivial ?_)
  have hN37 := hN29.trans hu33 (fun k hk hkb => by subst hkb; omega)
  clear hb27 hst31 K35 hL36 hN29 hu33 hf34
  refine st_nil ?_
  clear h23
  refine hK _ _ ?_
  clear hK K
  refine wp_seq_k fun K hK => ?_
  refine wp_seq_k fun K hK => ?_
  rcases Bool.eq_false_or_eq_true (decide (((wholeM a).k) = 0)) with ht38 | ht38
  · skip
    have ht38d := of_decide_eq_true ht38
    refine wp_g0 [true, true, true, true, true, true, true, true] [] 17
      [ve (pv q25),
       ve (iv ((wholeM a).k)),
       ve (.bool false),
       ve (.bool false),
       ve (.pointer (some ⟨q25, 1, none⟩)),
       ve (iv ((wholeM a).n)),
       ve (.bool (decide (((wholeM a).n) < 0))),
       ve (.bool (decide (((wholeM a).n) < 0)))] hs19 (.eq (.eq (.eq (.eq (.eq (.eq (.eq (.eq (.nil))))))))) ?_ ?_
    · skip
      refine .o1 (tk rfl rfl fun _ w hn k => ⟨_, v_field rfl (k.fx 4 h24) (fun w => rfl), rfl⟩) ?_
      refine .o1 (tk rfl rfl fun _ w hn k => ⟨_, v_load rfl (k.eq1 0 7 rfl) (l_one Tryd.isAgg3 ((hb32.new_ hn).cell 0)), rfl⟩) ?_
      refine .o1 (tk rfl rfl fun _ w hn k => ⟨_, v_bin rfl (k.eq1 1 8 rfl) rfl (fun _ => rfl) (r_neq ht38), rfl⟩) ?_
      refine .o1 (tk rfl rfl fun _ w hn k => ⟨_, v_move rfl (k.eq1 2 9 rfl), rfl⟩) ?_
      refine .o1 (tg rfl rfl rfl (fun _ _ k => k.eq1 3 10 rfl) fun _ w hn k => ⟨_, v_field rfl (k.fx 4 h24) (fun w => rfl), rfl⟩) ?_
      refine .o1 (tg rfl rfl rfl (fun _ _ k => k.eq1 3 10 rfl) fun _ w hn k => ⟨_, v_load rfl (k.eq1 4 11 rfl) (l_one Tryd.isAgg3 ((hb32.new_ hn).cell 1)), rfl⟩) ?_
      refine .o1 (tg rfl rfl rfl (fun _ _ k => k.eq1 3 10 rfl) fun _ w hn k => ⟨_, v_bin rfl (k.eq1 5 12 rfl) rfl (fun _ => rfl) (r_lssK rfl), rfl⟩) ?_
      refine .o1 (tk rfl rfl fun _ w hn k => ⟨_, v_pickF rfl (k.eq1 3 10 rfl) (k.eq1 6 13 rfl), rfl⟩) ?_
      exact .nil
    intro a39 w40 hn41 ha42
    have hs43 := ha42.size.trans hs19
    have hd44 := ha42.defers.trans hd20
    have h45 := ha42.fx 2 h21
    have h46 := ha42.fx 3 h22
    have h47 := ha42.fx 4 h24
    have h48 := ha42.ge 7 14 rfl
    have hb49 := hb32.new_ hn41
    have hN50 := hN37.transNew hn41
    clear hs19 hd20 h21 h22 h24 hb32 hN37 ha42 hn41
    refine st_nil ?_
    refine hK _ _ ?_
    clear hK K
    rcases Bool.eq_false_or_eq_true (decide (((wholeM a).n) < 0)) with ht51 | ht51
    · skip
      have ht51d := of_decide_eq_true ht51
      have hv52 : a39.eval (.tmp 14) = .bool true := h48.trans (congrArg Value.bool ht51)
      clear h48
      refine wp_cond_true hv52 ?_
      refine wp_seq_k fun K hK => ?_
      refine wp_g0 [true, true] [] 17
        [ve (iv 0),
         ve (.bool false)] hs43 (.eq (.eq (.nil))) ?_ ?_
      · skip
        refine .o1 (tk rfl rfl fun _ w hn k => ⟨_, v_assign rfl rfl, rfl⟩) ?_
        refine .o1 (tk rfl rfl fun _ w hn k => ⟨_, v_assign rfl rfl, rfl⟩) ?_
        exact .nil
      intro a53 w54 hn55 ha56
      have hs57 := ha56.size.trans hs43
      have hd58 := ha56.defers.trans hd44
      have h59 := ha56.fx 4 h47
      have h60 := ha56.ge 0 2 rfl
      have h61 := ha56.ge 1 3 rfl
      have hb62 := hb49.new_ hn55
      have hN63 := hN50.transNew hn55
      clear hs43 hd44 h45 h46 h47 hv52 hb49 hN50 ha56 hn55
      refine st_nil ?_
      refine hK _ _ ?_
      clear hK K
      refine wp_ret (ret_k hd58 (v := .tuple #[iv 0, .bool false]) (res_tt rfl h60 h61 _) ?_)
      refine ⟨?_, hN63⟩
      show Ending.returned (.tuple #[iv 0, .bool false]) = Ending.returned (.tuple #[iv ((indexM a).1), .bool ((indexM a).2)])
      first | rfl | (simp [indexM, ht38, ht51])
    have ht51d := of_decide_eq_false ht51
    have hv64 : a39.eval (.tmp 14) = .bool false := h48.trans (congrArg Value.bool ht51)
    clear h48
    refine wp_cond_false hv64 ?_
    refine wp_skip ?_
    refine hK _ _ ?_
    clear hK K
    refine wp_seq_k fun K hK => ?_
    refine wp_g0 [true, true, true, true] [] 17
      [ve (.pointer (some ⟨q25, 1, none⟩)),
       ve (iv ((wholeM a).n)),
       ve (iv ((wholeM a).n)),
       ve (.bool true)] hs43 (.eq (.eq (.eq (.eq (.nil))))) ?_ ?_
    · skip
      refine .o1 (tk rfl rfl fun _ w hn k => ⟨_, v_field rfl (k.fx 4 h47) (fun w => rfl), rfl⟩) ?_
      refine .o1 (tk rfl rfl fun _ w hn k => ⟨_, v_load rfl (k.eq1 0 15 rfl) (l_one Tryd.isAgg3 ((hb49.new_ hn).cell 1)), rfl⟩) ?_
      refine .o1 (tk rfl rfl fun _ w hn k => ⟨_, v_assign rfl (k.eq1 1 16 rfl), rfl⟩) ?_
      refine .o1 (tk rfl rfl fun _ w hn k => ⟨_, v_assign rfl rfl, rfl⟩) ?_
      exact .nil
    intro a65 w66 hn67 ha68
    have hs69 := ha68.size.trans hs43
    have hd70 := ha68.defers.trans hd44
    have h71 := ha68.ge 2 2 rfl
    have h72 := ha68.ge 3 3 rfl
    have hN73 := hN50.transNew hn67
    clear hs43 hd44 h45 h46 h47 hv64 hb49 hq28 hN50 ha68 hn67
    refine st_nil ?_
    refine hK _ _ ?_
    clear hK K
    refine wp_ret (ret_k hd70 (v := .tuple #[iv ((wholeM a).n), .bool true]) (res_tt rfl h71 h72 _) ?_)
    refine ⟨?_, hN73⟩
    show Ending.returned (.tuple #[iv ((wholeM a).n), .bool true]) = Ending.returned (.tuple #[iv ((indexM a).1), .bool ((indexM a).2)])
    first | rfl | (simp [indexM, ht38, ht51])
  have ht38d := of_decide_eq_false ht38
  refine wp_g0 [true, true, true, true, true, true, true, true] [] 17
    [ve (pv q25),
     ve (iv ((wholeM a).k)),
     ve (.bool true),
     ve (.bool true),
     ve undef,
     ve undef,
     ve undef,
     ve (.bool true)] hs19 (.eq (.eq (.eq (.eq (.eq (.eq (.eq (.eq (.nil))))))))) ?_ ?_
  · skip
    refine .o1 (tk rfl rfl fun _ w hn k => ⟨_, v_field rfl (k.fx 4 h24) (fun w => rfl), rfl⟩) ?_
    refine .o1 (tk rfl rfl fun _ w hn k => ⟨_, v_load rfl (k.eq1 0 7 rfl) (l_one Tryd.isAgg3 ((hb32.new_ hn).cell 0)), rfl⟩) ?_
    refine .o1 (tk rfl rfl fun _ w hn k => ⟨_, v_bin rfl (k.eq1 1 8 rfl) rfl (fun _ => rfl) (r_neq ht38), rfl⟩) ?_
    refine .o1 (tk rfl rfl fun _ w hn k => ⟨_, v_move rfl (k.eq1 2 9 rfl), rfl⟩) ?_
    refine .o1 (sk rfl rfl rfl (fun _ _ _ k => k.eq1 3 10 rfl) (fun _ => rfl)) ?_
    refine .o1 (sk rfl rfl rfl (fun _ _ _ k => k.eq1 3 10 rfl) (fun _ => rfl)) ?_
    refine .o1 (sk rfl rfl rfl (fun _ _ _ k => k.eq1 3 10 rfl) (fun _ => rfl)) ?_
    refine .o1 (tk rfl rfl fun _ w hn k => ⟨_, v_pickT rfl (k.eq1 3 10 rfl) rfl, rfl⟩) ?_
    exact .nil
  intro a74 w75 hn76 ha77
  have hs78 := ha77.size.trans hs19
  have hd79 := ha77.defers.trans hd20
  have h80 := ha77.fx 2 h21
  have h81 := ha77.fx 3 h22
  have h82 := ha77.fx 4 h24
  have h83 := ha77.ge 7 14 rfl
  have hb84 := hb32.new_ hn76
  have hN85 := hN37.transNew hn76
  clear hs19 hd20 h21 h22 h24 hb32 hN37 ha77 hn76
  refine st_nil ?_
  refine hK _ _ ?_
  clear hK K
  refine wp_cond_true h83 ?_
  refine wp_seq_k fun K hK => ?_
  refine wp_g0 [true, true] [] 17
    [ve (iv 0),
     ve (.bool false)] hs78 (.eq (.eq (.nil))) ?_ ?_
  · skip
    refine .o1 (tk rfl rfl fun _ w hn k => ⟨_, v_assign rfl rfl, rfl⟩) ?_
    refine .o1 (tk rfl rfl fun _ w hn k => ⟨_, v_assign rfl rfl, rfl⟩) ?_
    exact .nil
  intro a86 w87 hn88 ha89
  have hs90 := ha89.size.trans hs78
  have hd91 := ha89.defers.trans hd79
  have h92 := ha89.fx 4 h82
  have h93 := ha89.ge 0 2 rfl
  have h94 := ha89.ge 1 3 rfl
  have hb95 := hb84.new_ hn88
  have hN96 := hN85.transNew hn88
  clear hs78 hd79 h80 h81 h82 h83 hb84 hN85 ha89 hn88
  refine st_nil ?_
  refine hK _ _ ?_
  clear hK K
  refine wp_ret (ret_k hd91 (v := .tuple #[iv 0, .bool false]) (res_tt rfl h93 h94 _) ?_)
  refine ⟨?_, hN96⟩
  show Ending.returned (.tuple #[iv 0, .bool false]) = Ending.returned (.tuple #[iv ((indexM a).1), .bool ((indexM a).2)])
  first | rfl | (simp [indexM, ht38])
set_option maxHeartbeats 4000000 in
set_option maxRecDepth 100000 in
theorem rbit0_c (op : Int) (a : Nm) (b : Nm) (w : World) : Calls Tryd.prog 37 #[iv op, nv a, nv b] w (IsRet (nv (rBitM op a b)) w) := by
  refine enter_abs Tryd.func37 rfl fun a0 hs0 hd0 hp => ?_
  have hs0 : a0.tmps.size = 61 := hs0
  have hN0 : New w w := Upd.refl _ _
  have hp0 : a0.eval (.tmp 0) = iv op := hp 0 _ rfl
  have hp1 : a0.eval (.tmp 1) = nv a := hp 1 _ rfl
  have hp2 : a0.eval (.tmp 2) = nv b := hp 2 _ rfl
  clear hp
  have hub := u32_bd b
  have hua := u32_bd a
  have hsh := sh_bd b hub
  have hsl := shl_bd a b
  refine wp_seq_k fun K hK => ?_
  refine wp_g [true, true, true] [] [] 61
    [IsNew w 23 [iv a.k, iv a.n],
     IsNew w 23 [iv b.k, iv b.n],
     IsNew w 23 [iv 0, iv 0]]
    [0, 1, 2] (newsCons (fun v w h => IsNew.old h) (newsCons (fun v w h => IsNew.old h) (newsCons (fun v w h => IsNew.old h) newsNil))) hs0 (.nw (.nw (.nw (.nil)))) ?_ (fun i h => by cases h) ?_
  · skip
    refine .o2 (step_allocN (cs := [iv a.k, iv a.n]) (t := 23) rfl (noG rfl) (fun _ w hn k => v_box rfl (k.fx 1 hp1) (fun w => rfl)) (fun q _ hq hb => ⟨q, rfl, hq, hb⟩)) ?_
    refine .o2 (step_allocN (cs := [iv b.k, iv b.n]) (t := 23) rfl (noG rfl) (fun _ w hn k => v_box rfl (k.fx 2 hp2) (fun w => rfl)) (fun q _ hq hb => ⟨q, rfl, hq, hb⟩)) ?_
    refine .o2 (step_allocN (cs := [iv 0, iv 0]) (t := 23) rfl (noG rfl) (fun _ w hn k => rfl) (fun q _ hq hb => ⟨q, rfl, hq, hb⟩)) ?_
    exact .nil
  intro a1 w2 hn3 ha4
  have hs5 := ha4.size.trans hs0
  have hd6 := ha4.defers.trans hd0
  have h7 := ha4.fx 0 hp0
  obtain ⟨q9, h8, hq10, hb11⟩ : IsNew _ _ _ _ _ := ha4.got 0 4 rfl (by kernel_rfl)
  obtain ⟨q13, h12, hq14, hb15⟩ : IsNew _ _ _ _ _ := ha4.got 1 5 rfl (by kernel_rfl)
  obtain ⟨q17, h16, hq18, hb19⟩ : IsNew _ _ _ _ _ := ha4.got 2 6 rfl (by kernel_rfl)
  have hne20 : q9 ≠ q17 := ha4.ne 0 2 4 6 h8 h16
  have hne21 : q13 ≠ q17 := ha4.ne 1 2 5 6 h12 h16
  have hq22 := Nat.le_trans hN0.size hq10
  have hq23 := Nat.le_trans hN0.size hq14
  have hq24 := Nat.le_trans hN0.size hq18
  have hN25 := hN0.transNew hn3
  clear hs0 hd0 hp0 hp1 hp2 hq10 hq14 hq18 hN0 ha4 hn3
  refine st_nil ?_
  refine hK _ _ ?_
  clear hK K
  refine wp_seq_k fun K hK => ?_
  refine wp_g0 [true, true, true, true, true, true, true, true, true, true] [] 61
    [ve (nv a),
     ve (iv (u32M a)),
     ve (nv b),
     ve (iv (u32M b)),
     ve (nv b),
     ve (iv (u32M b)),
     ve (iv ((u32M b).tmod 32)),
     ve (iv (u32M a)),
     ve (iv (u32M b)),
     ve (iv ((u32M b).tmod 32))] hs5 (.eq (.eq (.eq (.eq (.eq (.eq (.eq (.eq (.eq (.eq (.nil))))))))))) ?_ ?_
  · skip
    refine .o1 (tk rfl rfl fun _ w hn k => ⟨_, v_load rfl (k.fx 4 h8) (l_two Tryd.isAgg23 Tryd.sizeOf23 (hb11.new_ hn)), rfl⟩) ?_
    refine .o1 (ck rfl rfl rfl (fun _ w hn k => ⟨#[nv a], args1 (k.eq1 0 11 rfl), fun _ => by kernel_rfl, ru32_c a _⟩) fun _ => rfl) ?_
    refine .o1 (tk rfl rfl fun _ w hn k => ⟨_, v_load rfl (k.fx 5 h12) (l_two Tryd.isAgg23 Tryd.sizeOf23 (hb15.new_ hn)), rfl⟩) ?_
    refine .o1 (ck rfl rfl rfl (fun _ w hn k => ⟨#[nv b], args1 (k.eq1 2 13 rfl), fun _ => by kernel_rfl, ru32_c b _⟩) fun _ => rfl) ?_
    refine .o1 (tk rfl rfl fun _ w hn k => ⟨_, v_load rfl (k.fx 5 h12) (l_two Tryd.isAgg23 Tryd.sizeOf23 (hb15.new_ hn)), rfl⟩) ?_
    refine .o1 (ck rfl rfl rfl (fun _ w hn k => ⟨#[nv b], args1 (k.eq1 4 15 rfl), fun _ => by kernel_rfl, ru32_c b _⟩) fun _ => rfl) ?_
    refine .o1 (tk rfl rfl fun _ w hn k => ⟨_, v_bin rfl (k.eq1 5 16 rfl) rfl (fun _ => rfl) (r_remI rfl (by omega)), rfl⟩) ?_
    refine .o1 (tk rfl rfl fun _ w hn k => ⟨_, v_assign rfl (k.eq1 1 12 rfl), rfl⟩) ?_
    refine .o1 (tk rfl rfl fun _ w hn k => ⟨_, v_assign rfl (k.eq1 3 14 rfl), rfl⟩) ?_
    refine .o1 (tk rfl rfl fun _ w hn k => ⟨_, v_assign rfl (k.eq1 6 17 rfl), rfl⟩) ?_
    exact .nil
  intro a26 w27 hn28 ha29
  have hs30 := ha29.size.trans hs5
  have hd31 := ha29.defers.trans hd6
  have h32 := ha29.fx 0 h7
  have h33 := ha29.fx 4 h8
  have h34 := ha29.fx 6 h16
  have h35 := ha29.ge 7 7 rfl
  have h36 := ha29.ge 8 8 rfl
  have h37 := ha29.ge 9 9 rfl
  have hb38 := hb11.new_ hn28
  have hb39 := hb19.new_ hn28
  have hN40 := hN25.transNew hn28
  clear hs5 hd6 h7 h8 h12 h16 hb11 hb15 hq23 hb19 hN25 ha29 hn28
  have hu32_a := u32_bd a
  have hu32_b := u32_bd b
  refine st_nil ?_
  refine hK _ _ ?_
  clear hK K
  refine wp_seq_k fun K hK => ?_
  refine wp_g0 [true] [] 61
    [ve (iv 0)] hs30 (.eq (.nil)) ?_ ?_
  · skip
    refine .o1 (tk rfl rfl fun _ w hn k => ⟨_, v_assign rfl rfl, rfl⟩) ?_
    exact .nil
  intro a41 w42 hn43 ha44
  have hs45 := ha44.size.trans hs30
  have hd46 := ha44.defers.trans hd31
  have h47 := ha44.fx 0 h32
  have h48 := ha44.fx 4 h33
  have h49 := ha44.fx 6 h34
  have h50 := ha44.fx 7 h35
  have h51 := ha44.fx 8 h36
  have h52 := ha44.fx 9 h37
  have h53 := ha44.ge 0 10 rfl
  have hb54 := hb38.new_ hn43
  have hb55 := hb39.new_ hn43
  have hN56 := hN40.transNew hn43
  clear hs30 hd31 h32 h33 h34 h35 h36 h37 hb38 hb39 hN40 ha44 hn43
  refine st_nil ?_
  refine hK _ _ ?_
  clear hK K
  refine wp_seq_k fun K hK => ?_
  refine wp_seq_k fun K hK => ?_
  refine wp_g0 [true] [] 61
    [ve (iv op)] hs45 (.eq (.nil)) ?_ ?_
  · skip
    refine .o1 (tk rfl rfl fun _ w hn k => ⟨_, v_move rfl (k.fx 0 h47), rfl⟩) ?_
    exact .nil
  intro a57 w58 hn59 ha60
  have hs61 := ha60.size.trans hs45
  have hd62 := ha60.defers.trans hd46
  have h63 := ha60.fx 4 h48
  have h64 := ha60.fx 6 h49
  have h65 := ha60.fx 7 h50
  have h66 := ha60.fx 8 h51
  have h67 := ha60.fx 9 h52
  have h68 := ha60.fx 10 h53
  have h69 := ha60.ge 0 18 rfl
  have hb70 := hb54.new_ hn59
  have hb71 := hb55.new_ hn59
  have hN72 := hN56.transNew hn59
  clear hs45 hd46 h47 h48 h49 h50 h51 h52 h53 hb54 hb55 hN56 ha60 hn59
  refine st_nil ?_
  refine hK _ _ ?_
  clear hK K
  refine wp_block ?_
  refine wp_seq_k fun K hK => ?_
  refine wp_g0 [true, true] [] 61
    [ve (.bool (decide (op = 1))),
     ve (.bool (decide (op = 1)))] hs61 (.eq (.eq (.nil))) ?_ ?_
  · skip
    refine .o1 (tk rfl rfl fun _ w hn k => ⟨_, v_bin rfl (k.fx 18 h69) rfl (fun _ => rfl) (r_eql rfl), rfl⟩) ?_
    refine .o1 (tk rfl rfl fun _ w hn k => ⟨_, v_assign rfl (k.eq1 0 21 rfl), rfl⟩) ?_
    exact .nil
  intro a73 w74 hn75 ha76
  have hs77 := ha76.size.trans hs61
  have hd78 := ha76.defers.trans hd62
  have h79 := ha76.fx 4 h63
  have h80 := ha76.fx 6 h64
  have h81 := ha76.fx 7 h65
  have h82 := ha76.fx 8 h66
  have h83 := ha76.fx 9 h67
  have h84 := ha76.fx 10 h68
  have h85 := ha76.fx 18 h69
  have h86 := ha76.ge 1 20 rfl
  have hb87 := hb70.new_ hn75
  have hb88 := hb71.new_ hn75
  have hN89 := hN72.transNew hn75
  clear hs61 hd62 h63 h64 h65 h66 h67 h68 h69 hb70 hb71 hN72 ha76 hn75
  refine st_nil ?_
  refine hK _ _ ?_
  clear hK K
  rcases Bool.eq_false_or_eq_true (decide (op = 1)) with ht90 | ht90
  · skip
    have ht90d := of_decide_eq_true ht90
    have hv91 : a73.eval (.tmp 20) = .bool true := h86.trans (congrArg Value.bool ht90)
    clear h86
    refine wp_cond_true hv91 ?_
    refine wp_g0 [true, true, true, true] [] 61
      [ve (iv (u32M a)),
       ve (iv (u32M b)),
       ve (iv (bandM (u32M a) (u32M b))),
       ve (iv (bandM (u32M a) (u32M b)))] hs77 (.eq (.eq (.eq (.eq (.nil))))) ?_ ?_
    · skip
      refine .o1 (tk rfl rfl fun _ w hn k => ⟨_, v_move rfl (k.fx 7 h81), rfl⟩) ?_
      refine .o1 (tk rfl rfl fun _ w hn k => ⟨_, v_move rfl (k.fx 8 h82), rfl⟩) ?_
      refine .o1 (tk rfl rfl fun _ w hn k => ⟨_, v_bin rfl (k.eq1 0 22 rfl) (k.eq1 1 23 rfl) (fun _ => rfl) (r_andI _ _), rfl⟩) ?_
      refine .o1 (tk rfl rfl fun _ w hn k => ⟨_, v_assign rfl (k.eq1 2 24 rfl), rfl⟩) ?_
      exact .nil
    intro a92 w93 hn94 ha95
    have hs96 := ha95.size.trans hs77
    have hd97 := ha95.defers.trans hd78
    have h98 := ha95.fx 6 h80
    have h99 := ha95.ge 3 10 rfl
    have hb100 := hb88.new_ hn94
    have hN101 := hN89.transNew hn94
    clear hs77 hd78 h79 h80 h81 h82 h83 h84 h85 hv91 hb87 hq22 hb88 hN89 ha95 hn94
    refine st_nil ?_
    refine hK _ _ ?_
    clear hK K
    refine wp_seq_k fun K hK => ?_
    refine wp_g0 [true, true, true, true, false] [(4, false)] 61
      [ve (iv (bandM (u32M a) (u32M b))),
       ve (nv (Nm.mk 0 (bandM (u32M a) (u32M b)))),
       ve (iv (i32M (Nm.mk 0 (bandM (u32M a) (u32M b))))),
       ve (nv (Nm.mk 0 (i32M (Nm.mk 0 (bandM (u32M a) (u32M b)))))),
       vt] hs96 (.eq (.eq (.eq (.eq (.tt (.nil)))))) ?_ ?_
    · skip
      refine .o1 (tk rfl rfl fun _ w hn k => ⟨_, v_move rfl (k.fx 10 h99), rfl⟩) ?_
      refine .o1 (tk rfl rfl fun _ w hn k => ⟨_, v_build (ps := [(1, iv (bandM (u32M a) (u32M b)))]) rfl (parts1 (k.eq1 0 57 rfl)) (by kernel_rfl), rfl⟩) ?_
      refine .o1 (ck rfl rfl rfl (fun _ w hn k => ⟨#[nv (Nm.mk 0 (bandM (u32M a) (u32M b)))], args1 (k.eq1 1 58 rfl), fun _ => by kernel_rfl, ri32_c (Nm.mk 0 (bandM (u32M a) (u32M b))) _⟩) fun _ => rfl) ?_
      refine .o1 (tk rfl rfl fun _ w hn k => ⟨_, v_build (ps := [(1, iv (i32M (Nm.mk 0 (bandM (u32M a) (u32M b)))))]) rfl (parts1 (k.eq1 2 59 rfl)) (by kernel_rfl), rfl⟩) ?_
      refine .off ?_
      exact .nil
    intro a102 w103 hn104 ha105
    have hs106 := ha105.size.trans hs96
    have hd107 := ha105.defers.trans hd97
    have h108 := ha105.fx 6 h98
    have h109 := ha105.ge 3 60 rfl
    have hb110 := hb100.new_ hn104
    have hN111 := hN101.transNew hn104
    clear hs96 hd97 h98 h99 hb100 hN101 ha105 hn104
    obtain ⟨w112, -, hst113, hb114, hu115, hf116⟩ := s_two (v0 := iv 0) (v1 := iv (i32M (Nm.mk 0 (bandM (u32M a) (u32M b))))) Tryd.sizeOf23 rfl rfl rfl hb110
    refine st_act rfl rfl fun K117 hL118 => a_store' rfl h108 h109 hst113 (hL118 _ _ trivial ?_)
    have hN119 := hN111.trans hu115 (fun k hk hkb => by subst hkb; omega)
    clear hb110 hst113 K117 hL118 hN111 hu115 hf116
    refine st_nil ?_
    clear h109
    refine hK _ _ ?_
    clear hK K
    refine wp_ret (ret_k hd107 (v := nv (Nm.mk 0 (i32M (Nm.mk 0 (bandM (u32M a) (u32M b)))))) (res_c rfl h108 (l_two Tryd.isAgg23 Tryd.sizeOf23 hb114)) ?_)
    refine ⟨?_, hN119⟩
    show Ending.returned (nv (Nm.mk 0 (i32M (Nm.mk 0 (bandM (u32M a) (u32M b)))))) = Ending.returned (nv (rBitM op a b))
    first | rfl | (simp [rBitM, rBitN, ht90])
  have ht90d := of_decide_eq_false ht90
  have hv120 : a73.eval (.tmp 20) = .bool false := h86.trans (congrArg Value.bool ht90)
  clear h86
  refine wp_cond_false hv120 ?_
  refine wp_seq_k fun K hK => ?_
  refine wp_g0 [true, true] [] 61
    [ve (.bool (decide (op = 2))),
     ve (.bool (decide (op = 2)))] hs77 (.eq (.eq (.nil))) ?_ ?_
  · skip
    refine .o1 (tk rfl rfl fun _ w hn k => ⟨_, v_bin rfl (k.fx 18 h85) rfl (fun _ => rfl) (r_eql rfl), rfl⟩) ?_
    refine .o1 (tk rfl rfl fun _ w hn k => ⟨_, v_assign rfl (k.eq1 0 26 rfl), rfl⟩) ?_
    exact .nil
  intro a121 w122 hn123 ha124
  have hs125 := ha124.size.trans hs77
  have hd126 := ha124.defers.trans hd78
  have h127 := ha124.fx 4 h79
  have h128 := ha124.fx 6 h80
  have h129 := ha124.fx 7 h81
  have h130 := ha124.fx 8 h82
  have h131 := ha124.fx 9 h83
  have h132 := ha124.fx 10 h84
  have h133 := ha124.fx 18 h85
  have h134 := ha124.ge 1 25 rfl
  have hb135 := hb87.new_ hn123
  have hb136 := hb88.new_ hn123
  have hN137 := hN89.transNew hn123
  clear hs77 hd78 h79 h80 h81 h82 h83 h84 h85 hv120 hb87 hb88 hN89 ha124 hn123
  refine st_nil ?_
  refine hK _ _ ?_
  clear hK K
  rcases Bool.eq_false_or_eq_true (decide (op = 2)) with ht138 | ht138
  · skip
    have ht138d := of_decide_eq_true ht138
    have hv139 : a121.eval (.tmp 25) = .bool true := h134.trans (congrArg Value.bool ht138)
    clear h134
    refine wp_cond_true hv139 ?_
    refine wp_g0 [true, true, true, true] [] 61
      [ve (iv (u32M a)),
       ve (iv (u32M b)),
       ve (iv (borM (u32M a) (u32M b))),
       ve (iv (borM (u32M a) (u32M b)))] hs125 (.eq (.eq (.eq (.eq (.nil))))) ?_ ?_
    · skip
      refine .o1 (tk rfl rfl fun _ w hn k => ⟨_, v_move rfl (k.fx 7 h129), rfl⟩) ?_
      refine .o1 (tk rfl rfl fun _ w hn k => ⟨_, v_move rfl (k.fx 8 h130), rfl⟩) ?_
      refine .o1 (tk rfl rfl fun _ w hn k => ⟨_, v_bin rfl (k.eq1 0 27 rfl) (k.eq1 1 28 rfl) (fun _ => rfl) (r_orI _ _), rfl⟩) ?_
      refine .o1 (tk rfl rfl fun _ w hn k => ⟨_, v_assign rfl (k.eq1 2 29 rfl), rfl⟩) ?_
      exact .nil
    intro a140 w141 hn142 ha143
    have hs144 := ha143.size.trans hs125
    have hd145 := ha143.defers.trans hd126
    have h146 := ha143.fx 6 h128
    have h147 := ha143.ge 3 10 rfl
    have hb148 := hb136.new_ hn142
    have hN149 := hN137.transNew hn142
    clear hs125 hd126 h127 h128 h129 h130 h131 h132 h133 hv139 hb135 hq22 hb136 hN137 ha143 hn142
    refine st_nil ?_
    refine hK _ _ ?_
    clear hK K
    refine wp_seq_k fun K hK => ?_
    refine wp_g0 [true, true, true, true, false] [(4, false)] 61
      [ve (iv (borM (u32M a) (u32M b))),
       ve (nv (Nm.mk 0 (borM (u32M a) (u32M b)))),
       ve (iv (i32M (Nm.mk 0 (borM (u32M a) (u32M b))))),
       ve (nv (Nm.mk 0 (i32M (Nm.mk 0 (borM (u32M a) (u32M b)))))),
       vt] hs144 (.eq (.eq (.eq (.eq (.tt (.nil)))))) ?_ ?_
    · skip
      refine .o1 (tk rfl rfl fun _ w hn k => ⟨_, v_move rfl (k.fx 10 h147), rfl⟩) ?_
      refine .o1 (tk rfl rfl fun _ w hn k => ⟨_, v_build (ps := [(1, iv (borM (u32M a) (u32M b)))]) rfl (parts1 (k.eq1 0 57 rfl)) (by kernel_rfl), rfl⟩) ?_
      refine .o1 (ck rfl rfl rfl (fun _ w hn k => ⟨#[nv (Nm.mk 0 (borM (u32M a) (u32M b)))], args1 (k.eq1 1 58 rfl), fun _ => by kernel_rfl, ri32_c (Nm.mk 0 (borM (u32M a) (u32M b))) _⟩) fun _ => rfl) ?_
      refine .o1 (tk rfl rfl fun _ w hn k => ⟨_, v_build (ps := [(1, iv (i32M (Nm.mk 0 (borM (u32M a) (u32M b)))))]) rfl (parts1 (k.eq1 2 59 rfl)) (by kernel_rfl), rfl⟩) ?_
      refine .off ?_
      exact .nil
    intro a150 w151 hn152 ha153
    have hs154 := ha153.size.trans hs144
    have hd155 := ha153.defers.trans hd145
    have h156 := ha153.fx 6 h146
    have h157 := ha153.ge 3 60 rfl
    have hb158 := hb148.new_ hn152
    have hN159 := hN149.transNew hn152
    clear hs144 hd145 h146 h147 hb148 hN149 ha153 hn152
    obtain ⟨w160, -, hst161, hb162, hu163, hf164⟩ := s_two (v0 := iv 0) (v1 := iv (i32M (Nm.mk 0 (borM (u32M a) (u32M b))))) Tryd.sizeOf23 rfl rfl rfl hb158
    refine st_act rfl rfl fun K165 hL166 => a_store' rfl h156 h157 hst161 (hL166 _ _ trivial ?_)
    have hN167 := hN159.trans hu163 (fun k hk hkb => by subst hkb; omega)
    clear hb158 hst161 K165 hL166 hN159 hu163 hf164
    refine st_nil ?_
    clear h157
    refine hK _ _ ?_
    clear hK K
    refine wp_ret (ret_k hd155 (v := nv (Nm.mk 0 (i32M (Nm.mk 0 (borM (u32M a) (u32M b)))))) (res_c rfl h156 (l_two Tryd.isAgg23 Tryd.sizeOf23 hb162)) ?_)
    refine ⟨?_, hN167⟩
    show Ending.returned (nv (Nm.mk 0 (i32M (Nm.mk 0 (borM (u32M a) (u32M b)))))) = Ending.returned (nv (rBitM op a b))
    first | rfl | (simp [rBitM, rBitN, ht90, ht138])
  have ht138d := of_decide_eq_false ht138
  have hv168 : a121.eval (.tmp 25) = .bool false := h134.trans (congrArg Value.bool ht138)
  clear h134
  refine wp_cond_false hv168 ?_
  refine wp_seq_k fun K hK => ?_
  refine wp_g0 [true, true] [] 61
    [ve (.bool (decide (op = 3))),
     ve (.bool (decide (op = 3)))] hs125 (.eq (.eq (.nil))) ?_ ?_
  · skip
    refine .o1 (tk rfl rfl fun _ w hn k => ⟨_, v_bin rfl (k.fx 18 h133) rfl (fun _ => rfl) (r_eql rfl), rfl⟩) ?_
    refine .o1 (tk rfl rfl fun _ w hn k => ⟨_, v_assign rfl (k.eq1 0 31 rfl), rfl⟩) ?_
    exact .nil
  intro a169 w170 hn171 ha172
  have hs173 := ha172.size.trans hs125
  have hd174 := ha172.defers.trans hd126
  have h175 := ha172.fx 4 h127
  have h176 := ha172.fx 6 h128
  have h177 := ha172.fx 7 h129
  have h178 := ha172.fx 8 h130
  have h179 := ha172.fx 9 h131
  have h180 := ha172.fx 10 h132
  have h181 := ha172.fx 18 h133
  have h182 := ha172.ge 1 30 rfl
  have hb183 := hb135.new_ hn171
  have hb184 := hb136.new_ hn171
  have hN185 := hN137.transNew hn171
  clear hs125 hd126 h127 h128 h129 h130 h131 h132 h133 hv168 hb135 hb136 hN137 ha172 hn171
  refine st_nil ?_
  refine hK _ _ ?_
  clear hK K
  rcases Bool.eq_false_or_eq_true (decide (op = 3)) with ht186 | ht186
  · skip
    have ht186d := of_decide_eq_true ht186
    have hv187 : a169.eval (.tmp 30) = .bool true := h182.trans (congrArg Value.bool ht186)
    clear h182
    refine wp_cond_true hv187 ?_
    refine wp_g0 [true, true, true, true] [] 61
      [ve (iv (u32M a)),
       ve (iv (u32M b)),
       ve (iv (bxorM (u32M a) (u32M b))),
       ve (iv (bxorM (u32M a) (u32M b)))] hs173 (.eq (.eq (.eq (.eq (.nil))))) ?_ ?_
    · skip
      refine .o1 (tk rfl rfl fun _ w hn k => ⟨_, v_move rfl (k.fx 7 h177), rfl⟩) ?_
      refine .o1 (tk rfl rfl fun _ w hn k => ⟨_, v_move rfl (k.fx 8 h178), rfl⟩) ?_
      refine .o1 (tk rfl rfl fun _ w hn k => ⟨_, v_bin rfl (k.eq1 0 32 rfl) (k.eq1 1 33 rfl) (fun _ => rfl) (r_xorI _ _), rfl⟩) ?_
      refine .o1 (tk rfl rfl fun _ w hn k => ⟨_, v_assign rfl (k.eq1 2 34 rfl), rfl⟩) ?_
      exact .nil
    intro a188 w189 hn190 ha191
    have hs192 := ha191.size.trans hs173
    have hd193 := ha191.defers.trans hd174
    have h194 := ha191.fx 6 h176
    have h195 := ha191.ge 3 10 rfl
    have hb196 := hb184.new_ hn190
    have hN197 := hN185.transNew hn190
    clear hs173 hd174 h175 h176 h177 h178 h179 h180 h181 hv187 hb183 hq22 hb184 hN185 ha191 hn190
    refine st_nil ?_
    refine hK _ _ ?_
    clear hK K
    refine wp_seq_k fun K hK => ?_
    refine wp_g0 [true, true, true, true, false] [(4, false)] 61
      [ve (iv (bxorM (u32M a) (u32M b))),
       ve (nv (Nm.mk 0 (bxorM (u32M a) (u32M b)))),
       ve (iv (i32M (Nm.mk 0 (bxorM (u32M a) (u32M b))))),
       ve (nv (Nm.mk 0 (i32M (Nm.mk 0 (bxorM (u32M a) (u32M b)))))),
       vt] hs192 (.eq (.eq (.eq (.eq (.tt (.nil)))))) ?_ ?_
    · skip
      refine .o1 (tk rfl rfl fun _ w hn k => ⟨_, v_move rfl (k.fx 10 h195), rfl⟩) ?_
      refine .o1 (tk rfl rfl fun _ w hn k => ⟨_, v_build (ps := [(1, iv (bxorM (u32M a) (u32M b)))]) rfl (parts1 (k.eq1 0 57 rfl)) (by kernel_rfl), rfl⟩) ?_
      refine .o1 (ck rfl rfl rfl (fun _ w hn k => ⟨#[nv (Nm.mk 0 (bxorM (u32M a) (u32M b)))], args1 (k.eq1 1 58 rfl), fun _ => by kernel_rfl, ri32_c (Nm.mk 0 (bxorM (u32M a) (u32M b))) _⟩) fun _ => rfl) ?_
      refine .o1 (tk rfl rfl fun _ w hn k => ⟨_, v_build (ps := [(1, iv (i32M (Nm.mk 0 (bxorM (u32M a) (u32M b)))))]) rfl (parts1 (k.eq1 2 59 rfl)) (by kernel_rfl), rfl⟩) ?_
      refine .off ?_
      exact .nil
    intro a198 w199 hn200 ha201
    have hs202 := ha201.size.trans hs192
    have hd203 := ha201.defers.trans hd193
    have h204 := ha201.fx 6 h194
    have h205 := ha201.ge 3 60 rfl
    have hb206 := hb196.new_ hn200
    have hN207 := hN197.transNew hn200
    clear hs192 hd193 h194 h195 hb196 hN197 ha201 hn200
    obtain ⟨w208, -, hst209, hb210, hu211, hf212⟩ := s_two (v0 := iv 0) (v1 := iv (i32M (Nm.mk 0 (bxorM (u32M a) (u32M b))))) Tryd.sizeOf23 rfl rfl rfl hb206
    refine st_act rfl rfl fun K213 hL214 => a_store' rfl h204 h205 hst209 (hL214 _ _ trivial ?_)
    have hN215 := hN207.trans hu211 (fun k hk hkb => by subst hkb; omega)
    clear hb206 hst209 K213 hL214 hN207 hu211 hf212
    refine st_nil ?_
    clear h205
    refine hK _ _ ?_
    clear hK K
    refine wp_ret (ret_k hd203 (v := nv (Nm.mk 0 (i32M (Nm.mk 0 (bxorM (u32M a) (u32M b)))))) (res_c rfl h204 (l_two Tryd.isAgg23 Tryd.sizeOf23 hb210)) ?_)
    refine ⟨?_, hN215⟩
    show Ending.returned (nv (Nm.mk 0 (i32M (Nm.mk 0 (bxorM (u32M a) (u32M b)))))) = Ending.returned (nv (rBitM op a b))
    first | rfl | (simp [rBitM, rBitN, ht90, ht138, ht186])
  have ht186d := of_decide_eq_false ht186
  have hv216 : a169.eval (.tmp 30) = .bool false := h182.trans (congrArg Value.bool ht186)
  clear h182
  refine wp_cond_false hv216 ?_
  refine wp_seq_k fun K hK => ?_
  refine wp_g0 [true, true] [] 61
    [ve (.bool (decide (op = 4))),
     ve (.bool (decide (op = 4)))] hs173 (.eq (.eq (.nil))) ?_ ?_
  · skip
    refine .o1 (tk rfl rfl fun _ w hn k => ⟨_, v_bin rfl (k.fx 18 h181) rfl (fun _ => rfl) (r_eql rfl), rfl⟩) ?_
    refine .o1 (tk rfl rfl fun _ w hn k => ⟨_, v_assign rfl (k.eq1 0 36 rfl), rfl⟩) ?_
    exact .nil
  intro a217 w218 hn219 ha220
  have hs221 := ha220.size.trans hs173
  have hd222 := ha220.defers.trans hd174
  have h223 := ha220.fx 4 h175
  have h224 := ha220.fx 6 h176
  have h225 := ha220.fx 7 h177
  have h226 := ha220.fx 9 h179
  have h227 := ha220.fx 10 h180
  have h228 := ha220.fx 18 h181
  have h229 := ha220.ge 1 35 rfl
  have hb230 := hb183.new_ hn219
  have hb231 := hb184.new_ hn219
  have hN232 := hN185.transNew hn219
  clear hs173 hd174 h175 h176 h177 h178 h179 h180 h181 hv216 hb183 hb184 hN185 ha220 hn219
  refine st_nil ?_
  refine hK _ _ ?_
  clear hK K
  rcases Bool.eq_false_or_eq_true (decide (op = 4)) with ht233 | ht233
  · skip
    have ht233d := of_decide_eq_true ht233
    have hv234 : a217.eval (.tmp 35) = .bool true := h229.trans (congrArg Value.bool ht233)
    clear h229
    refine wp_cond_true hv234 ?_
    refine wp_g0 [true, true, true, true, true, true] [] 61
      [ve (iv (u32M a)),
       ve (iv ((u32M b).tmod 32)),
       ve (.int .u64 ((u32M b).tmod 32)),
       ve (iv ((u32M a) * 2 ^ ((u32M b).tmod 32).toNat)),
       ve (iv (((u32M a) * 2 ^ ((u32M b).tmod 32).toNat).tmod 4294967296)),
       ve (iv (((u32M a) * 2 ^ ((u32M b).tmod 32).toNat).tmod 4294967296))] hs221 (.eq (.eq (.eq (.eq (.eq (.eq (.nil))))))) ?_ ?_
    · skip
      refine .o1 (tk rfl rfl fun _ w hn k => ⟨_, v_move rfl (k.fx 7 h225), rfl⟩) ?_
      refine .o1 (tk rfl rfl fun _ w hn k => ⟨_, v_move rfl (k.fx 9 h226), rfl⟩) ?_
      refine .o1 (tk rfl rfl fun _ w hn k => ⟨_, v_conv rfl (k.eq1 1 38 rfl) (run_conv (by kernel_rfl) (by kernel_rfl) (by kernel_rfl) (IntWalk.u64_in _ (by omega))), rfl⟩) ?_
      refine .o1 (tk rfl rfl fun _ w hn k => ⟨_, v_bin rfl (k.eq1 0 37 rfl) (k.eq1 2 39 rfl) (fun _ => rfl) (r_shlIU (by omega) (by omega)), rfl⟩) ?_
      refine .o1 (tk rfl rfl fun _ w hn k => ⟨_, v_bin rfl (k.eq1 3 40 rfl) rfl (fun _ => rfl) (r_remI rfl (by omega)), rfl⟩) ?_
      refine .o1 (tk rfl rfl fun _ w hn k => ⟨_, v_assign rfl (k.eq1 4 41 rfl), rfl⟩) ?_
      exact .nil
    intro a235 w236 hn237 ha238
    have hs239 := ha238.size.trans hs221
    have hd240 := ha238.defers.trans hd222
    have h241 := ha238.fx 6 h224
    have h242 := ha238.ge 5 10 rfl
    have hb243 := hb231.new_ hn237
    have hN244 := hN232.transNew hn237
    clear hs221 hd222 h223 h224 h225 h226 h227 h228 hv234 hb230 hq22 hb231 hN232 ha238 hn237
    refine st_nil ?_
    refine hK _ _ ?_
    clear hK K
    refine wp_seq_k fun K hK => ?_
    refine wp_g0 [true, true, true, true, false] [(4, false)] 61
      [ve (iv (((u32M a) * 2 ^ ((u32M b).tmod 32).toNat).tmod 4294967296)),
       ve (nv (Nm.mk 0 (((u32M a) * 2 ^ ((u32M b).tmod 32).toNat).tmod 4294967296))),
       ve (iv (i32M (Nm.mk 0 (((u32M a) * 2 ^ ((u32M b).tmod 32).toNat).tmod 4294967296)))),
       ve (nv (Nm.mk 0 (i32M (Nm.mk 0 (((u32M a) * 2 ^ ((u32M b).tmod 32).toNat).tmod 4294967296))))),
       vt] hs239 (.eq (.eq (.eq (.eq (.tt (.nil)))))) ?_ ?_
    · skip
      refine .o1 (tk rfl rfl fun _ w hn k => ⟨_, v_move rfl (k.fx 10 h242), rfl⟩) ?_
      refine .o1 (tk rfl rfl fun _ w hn k => ⟨_, v_build (ps := [(1, iv (((u32M a) * 2 ^ ((u32M b).tmod 32).toNat).tmod 4294967296))]) rfl (parts1 (k.eq1 0 57 rfl)) (by kernel_rfl), rfl⟩) ?_
      refine .o1 (ck rfl rfl rfl (fun _ w hn k => ⟨#[nv (Nm.mk 0 (((u32M a) * 2 ^ ((u32M b).tmod 32).toNat).tmod 4294967296))], args1 (k.eq1 1 58 rfl), fun _ => by kernel_rfl, ri32_c (Nm.mk 0 (((u32M a) * 2 ^ ((u32M b).tmod 32).toNat).tmod 4294967296)) _⟩) fun _ => rfl) ?_
      refine .o1 (tk rfl rfl fun _ w hn k => ⟨_, v_build (ps := [(1, iv (i32M (Nm.mk 0 (((u32M a) * 2 ^ ((u32M b).tmod 32).toNat).tmod 4294967296))))]) rfl (parts1 (k.eq1 2 59 rfl)) (by kernel_rfl), rfl⟩) ?_
      refine .off ?_
      exact .nil
    intro a245 w246 hn247 ha248
    have hs249 := ha248.size.trans hs239
    have hd250 := ha248.defers.trans hd240
    have h251 := ha248.fx 6 h241
    have h252 := ha248.ge 3 60 rfl
    have hb253 := hb243.new_ hn247
    have hN254 := hN244.transNew hn247
    clear hs239 hd240 h241 h242 hb243 hN244 ha248 hn247
    obtain ⟨w255, -, hst256, hb257, hu258, hf259⟩ := s_two (v0 := iv 0) (v1 := iv (i32M (Nm.mk 0 (((u32M a) * 2 ^ ((u32M b).tmod 32).toNat).tmod 4294967296)))) Tryd.sizeOf23 rfl rfl rfl hb253
    refine st_act rfl rfl fun K260 hL261 => a_store' rfl h251 h252 hst256 (hL261 _ _ trivial ?_)
    have hN262 := hN254.trans hu258 (fun k hk hkb => by subst hkb; omega)
    clear hb253 hst256 K260 hL261 hN254 hu258 hf259
    refine st_nil ?_
    clear h252
    refine hK _ _ ?_
    clear hK K
    refine wp_ret (ret_k hd250 (v := nv (Nm.mk 0 (i32M (Nm.mk 0 (((u32M a) * 2 ^ ((u32M b).tmod 32).toNat).tmod 4294967296))))) (res_c rfl h251 (l_two Tryd.isAgg23 Tryd.sizeOf23 hb257)) ?_)
    refine ⟨?_, hN262⟩
    show Ending.returned (nv (Nm.mk 0 (i32M (Nm.mk 0 (((u32M a) * 2 ^ ((u32M b).tmod 32).toNat).tmod 4294967296))))) = Ending.returned (nv (rBitM op a b))
    first | rfl | (simp [rBitM, rBitN, ht90, ht138, ht186, ht233])
  have ht233d := of_decide_eq_false ht233
  have hv263 : a217.eval (.tmp 35) = .bool false := h229.trans (congrArg Value.bool ht233)
  clear h229
  refine wp_cond_false hv263 ?_
  refine wp_seq_k fun K hK => ?_
  refine wp_g0 [true, true] [] 61
    [ve (.bool (decide (op = 5))),
     ve (.bool (decide (op = 5)))] hs221 (.eq (.eq (.nil))) ?_ ?_
  · skip
    refine .o1 (tk rfl rfl fun _ w hn k => ⟨_, v_bin rfl (k.fx 18 h228) rfl (fun _ => rfl) (r_eql rfl), rfl⟩) ?_
    refine .o1 (tk rfl rfl fun _ w hn k => ⟨_, v_assign rfl (k.eq1 0 43 rfl), rfl⟩) ?_
    exact .nil
  intro a264 w265 hn266 ha267
  have hs268 := ha267.size.trans hs221
  have hd269 := ha267.defers.trans hd222
  have h270 := ha267.fx 4 h223
  have h271 := ha267.fx 6 h224
  have h272 := ha267.fx 7 h225
  have h273 := ha267.fx 9 h226
  have h274 := ha267.fx 10 h227
  have h275 := ha267.fx 18 h228
  have h276 := ha267.ge 1 42 rfl
  have hb277 := hb230.new_ hn266
  have hb278 := hb231.new_ hn266
  have hN279 := hN232.transNew hn266
  clear hs221 hd222 h223 h224 h225 h226 h227 h228 hv263 hb230 hb231 hN232 ha267 hn266
  refine st_nil ?_
  refine hK _ _ ?_
  clear hK K
  rcases Bool.eq_false_or_eq_true (decide (op = 5)) with ht280 | ht280
  · skip
    have ht280d := of_decide_eq_true ht280
    have hv281 : a264.eval (.tmp 42) = .bool true := h276.trans (congrArg Value.bool ht280)
    clear h276
    refine wp_cond_true hv281 ?_
    refine wp_seq_k fun K hK => ?_
    refine wp_g0 [true, true, true, true, true, true, false] [(6, false)] 61
      [ve (nv a),
       ve (iv (i32M a)),
       ve (iv ((u32M b).tmod 32)),
       ve (.int .u64 ((u32M b).tmod 32)),
       ve (iv ((i32M a) / 2 ^ ((u32M b).tmod 32).toNat)),
       ve (nv (Nm.mk 0 ((i32M a) / 2 ^ ((u32M b).tmod 32).toNat))),
       vt] hs268 (.eq (.eq (.eq (.eq (.eq (.eq (.tt (.nil)))))))) ?_ ?_
    · skip
      refine .o1 (tk rfl rfl fun _ w hn k => ⟨_, v_load rfl (k.fx 4 h270) (l_two Tryd.isAgg23 Tryd.sizeOf23 (hb277.new_ hn)), rfl⟩) ?_
      refine .o1 (ck rfl rfl rfl (fun _ w hn k => ⟨#[nv a], args1 (k.eq1 0 44 rfl), fun _ => by kernel_rfl, ri32_c a _⟩) fun _ => rfl) ?_
      refine .o1 (tk rfl rfl fun _ w hn k => ⟨_, v_move rfl (k.fx 9 h273), rfl⟩) ?_
      refine .o1 (tk rfl rfl fun _ w hn k => ⟨_, v_conv rfl (k.eq1 2 46 rfl) (run_conv (by kernel_rfl) (by kernel_rfl) (by kernel_rfl) (IntWalk.u64_in _ (by omega))), rfl⟩) ?_
      refine .o1 (tk rfl rfl fun _ w hn k => ⟨_, v_bin rfl (k.eq1 1 45 rfl) (k.eq1 3 47 rfl) (fun _ => rfl) (r_shrIU (by omega)), rfl⟩) ?_
      refine .o1 (tk rfl rfl fun _ w hn k => ⟨_, v_build (ps := [(1, iv ((i32M a) / 2 ^ ((u32M b).tmod 32).toNat))]) rfl (parts1 (k.eq1 4 48 rfl)) (by kernel_rfl), rfl⟩) ?_
      refine .off ?_
      exact .nil
    intro a282 w283 hn284 ha285
    have hs286 := ha285.size.trans hs268
    have hd287 := ha285.defers.trans hd269
    have h288 := ha285.fx 6 h271
    have h289 := ha285.fx 10 h274
    have h290 := ha285.ge 5 49 rfl
    have hb291 := hb278.new_ hn284
    have hN292 := hN279.transNew hn284
    clear hs268 hd269 h270 h271 h272 h273 h274 h275 hv281 hb277 hq22 hb278 hN279 ha285 hn284
    obtain ⟨w293, -, hst294, hb295, hu296, hf297⟩ := s_two (v0 := iv 0) (v1 := iv ((i32M a) / 2 ^ ((u32M b).tmod 32).toNat)) Tryd.sizeOf23 rfl rfl rfl hb291
    refine st_act rfl rfl fun K298 hL299 => a_store' rfl h288 h290 hst294 (hL299 _ _ trivial ?_)
    have hN300 := hN292.trans hu296 (fun k hk hkb => by subst hkb; omega)
    clear hb291 hst294 K298 hL299 hN292 hu296 hf297
    refine st_nil ?_
    clear h290
    refine hK _ _ ?_
    clear hK K
    refine wp_ret (ret_k hd287 (v := nv (Nm.mk 0 ((i32M a) / 2 ^ ((u32M b).tmod 32).toNat))) (res_c rfl h288 (l_two Tryd.isAgg23 Tryd.sizeOf23 hb295)) ?_)
    refine ⟨?_, hN300⟩
    show Ending.returned (nv (Nm.mk 0 ((i32M a) / 2 ^ ((u32M b).tmod 32).toNat))) = Ending.returned (nv (rBitM op a b))
    first | rfl | (simp [rBitM, rBitN, ht90, ht138, ht186, ht233, ht280])
  have ht280d := of_decide_eq_false ht280
  have hv301 : a264.eval (.tmp 42) = .bool false := h276.trans (congrArg Value.bool ht280)
  clear h276
  refine wp_cond_false hv301 ?_
  refine wp_seq_k fun K hK => ?_
  refine wp_g0 [true, true] [] 61
    [ve (.bool (decide (op = 6))),
     ve (.bool (decide (op = 6)))] hs268 (.eq (.eq (.nil))) ?_ ?_
  · skip
    refine .o1 (tk rfl rfl fun _ w hn k => ⟨_, v_bin rfl (k.fx 18 h275) rfl (fun _ => rfl) (r_eql rfl), rfl⟩) ?_
    refine .o1 (tk rfl rfl fun _ w hn k => ⟨_, v_assign rfl (k.eq1 0 51 rfl), rfl⟩) ?_
    exact .nil
  intro a302 w303 hn304 ha305
  have hs306 := ha305.size.trans hs268
  have hd307 := ha305.defers.trans hd269
  have h308 := ha305.fx 6 h271
  have h309 := ha305.fx 7 h272
  have h310 := ha305.fx 9 h273
  have h311 := ha305.fx 10 h274
  have h312 := ha305.ge 1 50 rfl
  have hb313 := hb278.new_ hn304
  have hN314 := hN279.transNew hn304
  clear hs268 hd269 h270 h271 h272 h273 h274 h275 hv301 hb277 hq22 hb278 hN279 ha305 hn304
  refine st_nil ?_
  refine hK _ _ ?_
  clear hK K
  rcases Bool.eq_false_or_eq_true (decide (op = 6)) with ht315 | ht315
  · skip
    have ht315d := of_decide_eq_true ht315
    have hv316 : a302.eval (.tmp 50) = .bool true := h312.trans (congrArg Value.bool ht315)
    clear h312
    refine wp_cond_true hv316 ?_
    refine wp_seq_k fun K hK => ?_
    refine wp_g0 [true, true, true, true, true, false] [(5, false)] 61
      [ve (iv (u32M a)),
       ve (iv ((u32M b).tmod 32)),
       ve (.int .u64 ((u32M b).tmod 32)),
       ve (iv ((u32M a) / 2 ^ ((u32M b).tmod 32).toNat)),
       ve (nv (Nm.mk 0 ((u32M a) / 2 ^ ((u32M b).tmod 32).toNat))),
       vt] hs306 (.eq (.eq (.eq (.eq (.eq (.tt (.nil))))))) ?_ ?_
    · skip
      refine .o1 (tk rfl rfl fun _ w hn k => ⟨_, v_move rfl (k.fx 7 h309), rfl⟩) ?_
      refine .o1 (tk rfl rfl fun _ w hn k => ⟨_, v_move rfl (k.fx 9 h310), rfl⟩) ?_
      refine .o1 (tk rfl rfl fun _ w hn k => ⟨_, v_conv rfl (k.eq1 1 53 rfl) (run_conv (by kernel_rfl) (by kernel_rfl) (by kernel_rfl) (IntWalk.u64_in _ (by omega))), rfl⟩) ?_
      refine .o1 (tk rfl rfl fun _ w hn k => ⟨_, v_bin rfl (k.eq1 0 52 rfl) (k.eq1 2 54 rfl) (fun _ => rfl) (r_shrIU (by omega)), rfl⟩) ?_
      refine .o1 (tk rfl rfl fun _ w hn k => ⟨_, v_build (ps := [(1, iv ((u32M a) / 2 ^ ((u32M b).tmod 32).toNat))]) rfl (parts1 (k.eq1 3 55 rfl)) (by kernel_rfl), rfl⟩) ?_
      refine .off ?_
      exact .nil
    intro a317 w318 hn319 ha320
    have hs321 := ha320.size.trans hs306
    have hd322 := ha320.defers.trans hd307
    have h323 := ha320.fx 6 h308
    have h324 := ha320.fx 10 h311
    have h325 := ha320.ge 4 56 rfl
    have hb326 := hb313.new_ hn319
    have hN327 := hN314.transNew hn319
    clear hs306 hd307 h308 h309 h310 h311 hv316 hb313 hN314 ha320 hn319
    obtain ⟨w328, -, hst329, hb330, hu331, hf332⟩ := s_two (v0 := iv 0) (v1 := iv ((u32M a) / 2 ^ ((u32M b).tmod 32).toNat)) Tryd.sizeOf23 rfl rfl rfl hb326
    refine st_act rfl rfl fun K333 hL334 => a_store' rfl h323 h325 hst329 (hL334 _ _ trivial ?_)
    have hN335 := hN327.trans hu331 (fun k hk hkb => by subst hkb; omega)
    clear hb326 hst329 K333 hL334 hN327 hu331 hf332
    refine st_nil ?_
    clear h325
    refine hK _ _ ?_
    clear hK K
    refine wp_ret (ret_k hd322 (v := nv (Nm.mk 0 ((u32M a) / 2 ^ ((u32M b).tmod 32).toNat))) (res_c rfl h323 (l_two Tryd.isAgg23 Tryd.sizeOf23 hb330)) ?_)
    refine ⟨?_, hN335⟩
    show Ending.returned (nv (Nm.mk 0 ((u32M a) / 2 ^ ((u32M b).tmod 32).toNat))) = Ending.returned (nv (rBitM op a b))
    first | rfl | (simp [rBitM, rBitN, ht90, ht138, ht186, ht233, ht280, ht315])
  have ht315d := of_decide_eq_false ht315
  have hv336 : a302.eval (.tmp 50) = .bool false := h312.trans (congrArg Value.bool ht315)
  clear h312
  refine wp_cond_false hv336 ?_
  refine wp_seq_k fun K hK => ?_
  refine wp_g0 [true, false] [(1, false)] 61
    [ve (nv (Nm.mk 2 0)),
     vt] hs306 (.eq (.tt (.nil))) ?_ ?_
  · skip
    refine .o1 (ck rfl rfl rfl (fun _ w hn k => ⟨#[], rfl, fun _ => by kernel_rfl, rNaN_c  _⟩) fun _ => rfl) ?_
    refine .off ?_
    exact .nil
  intro a337 w338 hn339 ha340
  have hs341 := ha340.size.trans hs306
  have hd342 := ha340.defers.trans hd307
  have h343 := ha340.fx 6 h308
  have h344 := ha340.fx 10 h311
  have h345 := ha340.ge 0 19 rfl
  have hb346 := hb313.new_ hn339
  have hN347 := hN314.transNew hn339
  clear hs306 hd307 h308 h309 h310 h311 hv336 hb313 hN314 ha340 hn339
  obtain ⟨w348, -, hst349, hb350, hu351, hf352⟩ := s_two (v0 := iv 2) (v1 := iv 0) Tryd.sizeOf23 rfl rfl rfl hb346
  refine st_act rfl rfl fun K353 hL354 => a_store' rfl h343 h345 hst349 (hL354 _ _ trivial ?_)
  have hN355 := hN347.trans hu351 (fun k hk hkb => by subst hkb; omega)
  clear hb346 hst349 K353 hL354 hN347 hu351 hf352
  refine st_nil ?_
  clear h345
  refine hK _ _ ?_
  clear hK K
  refine wp_ret (ret_k hd342 (v := nv (Nm.mk 2 0)) (res_c rfl h343 (l_two Tryd.isAgg23 Tryd.sizeOf23 hb350)) ?_)
  refine ⟨?_, hN355⟩
  show Ending.returned (nv (Nm.mk 2 0)) = Ending.returned (nv (rBitM op a b))
  first | rfl | (simp [rBitM, rBitN, ht90, ht138, ht186, ht233, ht280, ht315])
end Go.Proofs.YtldakajmhfdfgaaDoor
