/- NumOrders: the walk -/
import Derived.Test.YtldakajmhfdfgaaDoorNumF
import Derived.Test.YtldakajmhfdfgaaDoorNumR
namespace Go.Proofs.YtldakajmhfdfgaaDoor
open Go.RowKit
set_option linter.unusedSimpArgs false
set_option linter.unusedVariables false
set_option maxHeartbeats 8000000 in
set_option maxRecDepth 100000 in
theorem orders_walk (a : Nm) (b : Nm) (w : World) : Calls Tryd.prog 10 #[nv a, nv b] w (IsRet (.bool true) w) := by
  refine enter_abs Tryd.func10 rfl fun a0 hs0 hd0 hp => ?_
  have hs0 : a0.tmps.size = 35 := hs0
  have hN0 : New w w := Upd.refl _ _
  have hp0 : a0.eval (.tmp 0) = nv a := hp 0 _ rfl
  have hp1 : a0.eval (.tmp 1) = nv b := hp 1 _ rfl
  clear hp
  refine wp_seq_k fun K hK => ?_
  refine wp_g [true, true, true] [] [] 35
    [IsNew w 23 [iv a.k, iv a.n],
     IsNew w 23 [iv b.k, iv b.n],
     ve (.bool false)]
    [0, 1] (newsCons (fun v w h => IsNew.old h) (newsCons (fun v w h => IsNew.old h) newsNil)) hs0 (.nw (.nw (.eq (.nil)))) ?_ (fun i h => by cases h) ?_
  · skip
    refine .o2 (step_allocN (cs := [iv a.k, iv a.n]) (t := 23) rfl (noG rfl) (fun _ w hn k => v_box rfl (k.fx 0 hp0) (fun w => rfl)) (fun q _ hq hb => ⟨q, rfl, hq, hb⟩)) ?_
    refine .o2 (step_allocN (cs := [iv b.k, iv b.n]) (t := 23) rfl (noG rfl) (fun _ w hn k => v_box rfl (k.fx 1 hp1) (fun w => rfl)) (fun q _ hq hb => ⟨q, rfl, hq, hb⟩)) ?_
    refine .o1 (tk rfl rfl fun _ w hn k => ⟨_, v_assign rfl rfl, rfl⟩) ?_
    exact .nil
  intro a1 w2 hn3 ha4
  have hs5 := ha4.size.trans hs0
  have hd6 := ha4.defers.trans hd0
  obtain ⟨q8, h7, hq9, hb10⟩ : IsNew _ _ _ _ _ := ha4.got 0 2 rfl (by kernel_rfl)
  obtain ⟨q12, h11, hq13, hb14⟩ : IsNew _ _ _ _ _ := ha4.got 1 3 rfl (by kernel_rfl)
  have h15 := ha4.ge 2 4 rfl
  have hq16 := Nat.le_trans hN0.size hq9
  have hq17 := Nat.le_trans hN0.size hq13
  have hN18 := hN0.transNew hn3
  clear hs0 hd0 hp0 hp1 hq9 hq13 hN0 ha4 hn3
  refine st_nil ?_
  refine hK _ _ ?_
  clear hK K
  refine wp_seq_k fun K hK => ?_
  refine wp_seq_k fun K hK => ?_
  refine wp_g0 [true, true] [] 35
    [ve (.bool true),
     ve (.bool false)] hs5 (.eq (.eq (.nil))) ?_ ?_
  · skip
    refine .o1 (ck rfl rfl rfl (fun _ w hn k => ⟨#[], rfl, fun _ => by kernel_rfl, first_c  _⟩) fun _ => rfl) ?_
    refine .o1 (tk rfl rfl fun _ w hn k => ⟨_, v_not rfl (k.eq1 0 5 rfl), rfl⟩) ?_
    exact .nil
  intro a19 w20 hn21 ha22
  have hs23 := ha22.size.trans hs5
  have hd24 := ha22.defers.trans hd6
  have h25 := ha22.fx 2 h7
  have h26 := ha22.fx 3 h11
  have h27 := ha22.fx 4 h15
  have h28 := ha22.ge 1 6 rfl
  have hb29 := hb10.new_ hn21
  have hb30 := hb14.new_ hn21
  have hN31 := hN18.transNew hn21
  clear hs5 hd6 h7 h11 h15 hb10 hb14 hN18 ha22 hn21
  refine st_nil ?_
  refine hK _ _ ?_
  clear hK K
  refine wp_cond_false h28 ?_
  refine wp_skip ?_
  refine hK _ _ ?_
  clear hK K
  refine wp_seq_k fun K hK => ?_
  rcases Bool.eq_false_or_eq_true (lessM a b) with ht32 | ht32
  · skip
    rcases Bool.eq_false_or_eq_true (equalM a b) with ht33 | ht33
    · skip
      rcases Bool.eq_false_or_eq_true (sameM a b) with ht34 | ht34
      · skip
        refine wp_g0 [true, true, true, true, true, true, true, true, true, true, true, true, true, true, true, true, true, true, true, true, true, true, true, true, true, true, true, true, true] [] 35
          [ve (.bool true),
           ve (.bool true),
           ve (nv a),
           ve (nv b),
           ve (.bool true),
           ve (nv a),
           ve (nv b),
           ve (.bool true),
           ve (.bool true),
           ve (.bool true),
           ve (.bool true),
           ve (nv a),
           ve (nv b),
           ve (.bool true),
           ve (nv a),
           ve (nv b),
           ve (.bool true),
           ve (.bool true),
           ve (.bool true),
           ve (.bool true),
           ve (nv a),
           ve (nv b),
           ve (.bool true),
           ve (nv a),
           ve (nv b),
           ve (.bool true),
           ve (.bool true),
           ve (.bool true),
           ve (.bool true)] hs23 (.eq (.eq (.eq (.eq (.eq (.eq (.eq (.eq (.eq (.eq (.eq (.eq (.eq (.eq (.eq (.eq (.eq (.eq (.eq (.eq (.eq (.eq (.eq (.eq (.eq (.eq (.eq (.eq (.eq (.nil)))))))))))))))))))))))))))))) ?_ ?_
        · skip
          refine .o1 (ck rfl rfl rfl (fun _ w hn k => ⟨#[], rfl, fun _ => by kernel_rfl, first_c  _⟩) fun _ => rfl) ?_
          refine .o1 (tk rfl rfl fun _ w hn k => ⟨_, v_move rfl (k.eq1 0 7 rfl), rfl⟩) ?_
          refine .o1 (tg rfl rfl rfl (fun _ _ k => k.eq1 1 8 rfl) fun _ w hn k => ⟨_, v_load rfl (k.fx 2 h25) (l_two Tryd.isAgg23 Tryd.sizeOf23 (hb29.new_ hn)), rfl⟩) ?_
          refine .o1 (tg rfl rfl rfl (fun _ _ k => k.eq1 1 8 rfl) fun _ w hn k => ⟨_, v_load rfl (k.fx 3 h26) (l_two Tryd.isAgg23 Tryd.sizeOf23 (hb30.new_ hn)), rfl⟩) ?_
          refine .o1 (cg rfl rfl rfl (fun _ _ k => k.eq1 1 8 rfl) rfl (fun _ w hn k => ⟨#[nv a, nv b], args2 (k.eq1 2 9 rfl) (k.eq1 3 10 rfl), fun _ => by kernel_rfl, less_c a b _⟩) fun _ => congrArg Value.bool ht32) ?_
          refine .o1 (tg rfl rfl rfl (fun _ _ k => k.eq1 1 8 rfl) fun _ w hn k => ⟨_, v_load rfl (k.fx 2 h25) (l_two Tryd.isAgg23 Tryd.sizeOf23 (hb29.new_ hn)), rfl⟩) ?_
          refine .o1 (tg rfl rfl rfl (fun _ _ k => k.eq1 1 8 rfl) fun _ w hn k => ⟨_, v_load rfl (k.fx 3 h26) (l_two Tryd.isAgg23 Tryd.sizeOf23 (hb30.new_ hn)), rfl⟩) ?_
          refine .o1 (cg rfl rfl rfl (fun _ _ k => k.eq1 1 8 rfl) rfl (fun _ w hn k => ⟨#[nv a, nv b], args2 (k.eq1 5 12 rfl) (k.eq1 6 13 rfl), fun _ => by kernel_rfl, rless_c a b _⟩) fun _ => congrArg Value.bool ht32) ?_
          refine .o1 (tg rfl rfl rfl (fun _ _ k => k.eq1 1 8 rfl) fun _ w hn k => ⟨_, v_bin rfl (k.eq1 4 11 rfl) (k.eq1 7 14 rfl) (fun _ => rfl) (fun w => by kernel_rfl), rfl⟩) ?_
          refine .o1 (tk rfl rfl fun _ w hn k => ⟨_, v_pickT rfl (k.eq1 1 8 rfl) (k.eq1 8 15 rfl), rfl⟩) ?_
          refine .o1 (tk rfl rfl fun _ w hn k => ⟨_, v_move rfl (k.eq1 9 16 rfl), rfl⟩) ?_
          refine .o1 (tg rfl rfl rfl (fun _ _ k => k.eq1 10 17 rfl) fun _ w hn k => ⟨_, v_load rfl (k.fx 2 h25) (l_two Tryd.isAgg23 Tryd.sizeOf23 (hb29.new_ hn)), rfl⟩) ?_
          refine .o1 (tg rfl rfl rfl (fun _ _ k => k.eq1 10 17 rfl) fun _ w hn k => ⟨_, v_load rfl (k.fx 3 h26) (l_two Tryd.isAgg23 Tryd.sizeOf23 (hb30.new_ hn)), rfl⟩) ?_
          refine .o1 (cg rfl rfl rfl (fun _ _ k => k.eq1 10 17 rfl) rfl (fun _ w hn k => ⟨#[nv a, nv b], args2 (k.eq1 11 18 rfl) (k.eq1 12 19 rfl), fun _ => by kernel_rfl, equal_c a b _⟩) fun _ => congrArg Value.bool ht33) ?_
          refine .o1 (tg rfl rfl rfl (fun _ _ k => k.eq1 10 17 rfl) fun _ w hn k => ⟨_, v_load rfl (k.fx 2 h25) (l_two Tryd.isAgg23 Tryd.sizeOf23 (hb29.new_ hn)), rfl⟩) ?_
          refine .o1 (tg rfl rfl rfl (fun _ _ k => k.eq1 10 17 rfl) fun _ w hn k => ⟨_, v_load rfl (k.fx 3 h26) (l_two Tryd.isAgg23 Tryd.sizeOf23 (hb30.new_ hn)), rfl⟩) ?_
          refine .o1 (cg rfl rfl rfl (fun _ _ k => k.eq1 10 17 rfl) rfl (fun _ w hn k => ⟨#[nv a, nv b], args2 (k.eq1 14 21 rfl) (k.eq1 15 22 rfl), fun _ => by kernel_rfl, requal_c a b _⟩) fun _ => congrArg Value.bool ht33) ?_
          refine .o1 (tg rfl rfl rfl (fun _ _ k => k.eq1 10 17 rfl) fun _ w hn k => ⟨_, v_bin rfl (k.eq1 13 20 rfl) (k.eq1 16 23 rfl) (fun _ => rfl) (fun w => by kernel_rfl), rfl⟩) ?_
          refine .o1 (tk rfl rfl fun _ w hn k => ⟨_, v_pickT rfl (k.eq1 10 17 rfl) (k.eq1 17 24 rfl), rfl⟩) ?_
          refine .o1 (tk rfl rfl fun _ w hn k => ⟨_, v_move rfl (k.eq1 18 25 rfl), rfl⟩) ?_
          refine .o1 (tg rfl rfl rfl (fun _ _ k => k.eq1 19 26 rfl) fun _ w hn k => ⟨_, v_load rfl (k.fx 2 h25) (l_two Tryd.isAgg23 Tryd.sizeOf23 (hb29.new_ hn)), rfl⟩) ?_
          refine .o1 (tg rfl rfl rfl (fun _ _ k => k.eq1 19 26 rfl) fun _ w hn k => ⟨_, v_load rfl (k.fx 3 h26) (l_two Tryd.isAgg23 Tryd.sizeOf23 (hb30.new_ hn)), rfl⟩) ?_
          refine .o1 (cg rfl rfl rfl (fun _ _ k => k.eq1 19 26 rfl) rfl (fun _ w hn k => ⟨#[nv a, nv b], args2 (k.eq1 20 27 rfl) (k.eq1 21 28 rfl), fun _ => by kernel_rfl, same_c a b _⟩) fun _ => congrArg Value.bool ht34) ?_
          refine .o1 (tg rfl rfl rfl (fun _ _ k => k.eq1 19 26 rfl) fun _ w hn k => ⟨_, v_load rfl (k.fx 2 h25) (l_two Tryd.isAgg23 Tryd.sizeOf23 (hb29.new_ hn)), rfl⟩) ?_
          refine .o1 (tg rfl rfl rfl (fun _ _ k => k.eq1 19 26 rfl) fun _ w hn k => ⟨_, v_load rfl (k.fx 3 h26) (l_two Tryd.isAgg23 Tryd.sizeOf23 (hb30.new_ hn)), rfl⟩) ?_
          refine .o1 (cg rfl rfl rfl (fun _ _ k => k.eq1 19 26 rfl) rfl (fun _ w hn k => ⟨#[nv a, nv b], args2 (k.eq1 23 30 rfl) (k.eq1 24 31 rfl), fun _ => by kernel_rfl, rsame_c a b _⟩) fun _ => congrArg Value.bool ht34) ?_
          refine .o1 (tg rfl rfl rfl (fun _ _ k => k.eq1 19 26 rfl) fun _ w hn k => ⟨_, v_bin rfl (k.eq1 22 29 rfl) (k.eq1 25 32 rfl) (fun _ => rfl) (fun w => by kernel_rfl), rfl⟩) ?_
          refine .o1 (tk rfl rfl fun _ w hn k => ⟨_, v_pickT rfl (k.eq1 19 26 rfl) (k.eq1 26 33 rfl), rfl⟩) ?_
          refine .o1 (tk rfl rfl fun _ w hn k => ⟨_, v_assign rfl (k.eq1 27 34 rfl), rfl⟩) ?_
          exact .nil
        intro a35 w36 hn37 ha38
        have hs39 := ha38.size.trans hs23
        have hd40 := ha38.defers.trans hd24
        have h41 := ha38.ge 28 4 rfl
        have hN42 := hN31.transNew hn37
        clear hs23 hd24 h25 h26 h27 h28 hb29 hq16 hb30 hq17 hN31 ha38 hn37
        refine st_nil ?_
        refine hK _ _ ?_
        clear hK K
        refine wp_ret (ret_k hd40 (v := .bool true) (res_t rfl h41 _) ?_)
        exact ⟨rfl, hN42⟩
      refine wp_g0 [true, true, true, true, true, true, true, true, true, true, true, true, true, true, true, true, true, true, true, true, true, true, true, true, true, true, true, true, true] [] 35
        [ve (.bool true),
         ve (.bool true),
         ve (nv a),
         ve (nv b),
         ve (.bool true),
         ve (nv a),
         ve (nv b),
         ve (.bool true),
         ve (.bool true),
         ve (.bool true),
         ve (.bool true),
         ve (nv a),
         ve (nv b),
         ve (.bool true),
         ve (nv a),
         ve (nv b),
         ve (.bool true),
         ve (.bool true),
         ve (.bool true),
         ve (.bool true),
         ve (nv a),
         ve (nv b),
         ve (.bool false),
         ve (nv a),
         ve (nv b),
         ve (.bool false),
         ve (.bool true),
         ve (.bool true),
         ve (.bool true)] hs23 (.eq (.eq (.eq (.eq (.eq (.eq (.eq (.eq (.eq (.eq (.eq (.eq (.eq (.eq (.eq (.eq (.eq (.eq (.eq (.eq (.eq (.eq (.eq (.eq (.eq (.eq (.eq (.eq (.eq (.nil)))))))))))))))))))))))))))))) ?_ ?_
      · skip
        refine .o1 (ck rfl rfl rfl (fun _ w hn k => ⟨#[], rfl, fun _ => by kernel_rfl, first_c  _⟩) fun _ => rfl) ?_
        refine .o1 (tk rfl rfl fun _ w hn k => ⟨_, v_move rfl (k.eq1 0 7 rfl), rfl⟩) ?_
        refine .o1 (tg rfl rfl rfl (fun _ _ k => k.eq1 1 8 rfl) fun _ w hn k => ⟨_, v_load rfl (k.fx 2 h25) (l_two Tryd.isAgg23 Tryd.sizeOf23 (hb29.new_ hn)), rfl⟩) ?_
        refine .o1 (tg rfl rfl rfl (fun _ _ k => k.eq1 1 8 rfl) fun _ w hn k => ⟨_, v_load rfl (k.fx 3 h26) (l_two Tryd.isAgg23 Tryd.sizeOf23 (hb30.new_ hn)), rfl⟩) ?_
        refine .o1 (cg rfl rfl rfl (fun _ _ k => k.eq1 1 8 rfl) rfl (fun _ w hn k => ⟨#[nv a, nv b], args2 (k.eq1 2 9 rfl) (k.eq1 3 10 rfl), fun _ => by kernel_rfl, less_c a b _⟩) fun _ => congrArg Value.bool ht32) ?_
        refine .o1 (tg rfl rfl rfl (fun _ _ k => k.eq1 1 8 rfl) fun _ w hn k => ⟨_, v_load rfl (k.fx 2 h25) (l_two Tryd.isAgg23 Tryd.sizeOf23 (hb29.new_ hn)), rfl⟩) ?_
        refine .o1 (tg rfl rfl rfl (fun _ _ k => k.eq1 1 8 rfl) fun _ w hn k => ⟨_, v_load rfl (k.fx 3 h26) (l_two Tryd.isAgg23 Tryd.sizeOf23 (hb30.new_ hn)), rfl⟩) ?_
        refine .o1 (cg rfl rfl rfl (fun _ _ k => k.eq1 1 8 rfl) rfl (fun _ w hn k => ⟨#[nv a, nv b], args2 (k.eq1 5 12 rfl) (k.eq1 6 13 rfl), fun _ => by kernel_rfl, rless_c a b _⟩) fun _ => congrArg Value.bool ht32) ?_
        refine .o1 (tg rfl rfl rfl (fun _ _ k => k.eq1 1 8 rfl) fun _ w hn k => ⟨_, v_bin rfl (k.eq1 4 11 rfl) (k.eq1 7 14 rfl) (fun _ => rfl) (fun w => by kernel_rfl), rfl⟩) ?_
        refine .o1 (tk rfl rfl fun _ w hn k => ⟨_, v_pickT rfl (k.eq1 1 8 rfl) (k.eq1 8 15 rfl), rfl⟩) ?_
        refine .o1 (tk rfl rfl fun _ w hn k => ⟨_, v_move rfl (k.eq1 9 16 rfl), rfl⟩) ?_
        refine .o1 (tg rfl rfl rfl (fun _ _ k => k.eq1 10 17 rfl) fun _ w hn k => ⟨_, v_load rfl (k.fx 2 h25) (l_two Tryd.isAgg23 Tryd.sizeOf23 (hb29.new_ hn)), rfl⟩) ?_
        refine .o1 (tg rfl rfl rfl (fun _ _ k => k.eq1 10 17 rfl) fun _ w hn k => ⟨_, v_load rfl (k.fx 3 h26) (l_two Tryd.isAgg23 Tryd.sizeOf23 (hb30.new_ hn)), rfl⟩) ?_
        refine .o1 (cg rfl rfl rfl (fun _ _ k => k.eq1 10 17 rfl) rfl (fun _ w hn k => ⟨#[nv a, nv b], args2 (k.eq1 11 18 rfl) (k.eq1 12 19 rfl), fun _ => by kernel_rfl, equal_c a b _⟩) fun _ => congrArg Value.bool ht33) ?_
        refine .o1 (tg rfl rfl rfl (fun _ _ k => k.eq1 10 17 rfl) fun _ w hn k => ⟨_, v_load rfl (k.fx 2 h25) (l_two Tryd.isAgg23 Tryd.sizeOf23 (hb29.new_ hn)), rfl⟩) ?_
        refine .o1 (tg rfl rfl rfl (fun _ _ k => k.eq1 10 17 rfl) fun _ w hn k => ⟨_, v_load rfl (k.fx 3 h26) (l_two Tryd.isAgg23 Tryd.sizeOf23 (hb30.new_ hn)), rfl⟩) ?_
        refine .o1 (cg rfl rfl rfl (fun _ _ k => k.eq1 10 17 rfl) rfl (fun _ w hn k => ⟨#[nv a, nv b], args2 (k.eq1 14 21 rfl) (k.eq1 15 22 rfl), fun _ => by kernel_rfl, requal_c a b _⟩) fun _ => congrArg Value.bool ht33) ?_
        refine .o1 (tg rfl rfl rfl (fun _ _ k => k.eq1 10 17 rfl) fun _ w hn k => ⟨_, v_bin rfl (k.eq1 13 20 rfl) (k.eq1 16 23 rfl) (fun _ => rfl) (fun w => by kernel_rfl), rfl⟩) ?_
        refine .o1 (tk rfl rfl fun _ w hn k => ⟨_, v_pickT rfl (k.eq1 10 17 rfl) (k.eq1 17 24 rfl), rfl⟩) ?_
        refine .o1 (tk rfl rfl fun _ w hn k => ⟨_, v_move rfl (k.eq1 18 25 rfl), rfl⟩) ?_
        refine .o1 (tg rfl rfl rfl (fun _ _ k => k.eq1 19 26 rfl) fun _ w hn k => ⟨_, v_load rfl (k.fx 2 h25) (l_two Tryd.isAgg23 Tryd.sizeOf23 (hb29.new_ hn)), rfl⟩) ?_
        refine .o1 (tg rfl rfl rfl (fun _ _ k => k.eq1 19 26 rfl) fun _ w hn k => ⟨_, v_load rfl (k.fx 3 h26) (l_two Tryd.isAgg23 Tryd.sizeOf23 (hb30.new_ hn)), rfl⟩) ?_
        refine .o1 (cg rfl rfl rfl (fun _ _ k => k.eq1 19 26 rfl) rfl (fun _ w hn k => ⟨#[nv a, nv b], args2 (k.eq1 20 27 rfl) (k.eq1 21 28 rfl), fun _ => by kernel_rfl, same_c a b _⟩) fun _ => congrArg Value.bool ht34) ?_
        refine .o1 (tg rfl rfl rfl (fun _ _ k => k.eq1 19 26 rfl) fun _ w hn k => ⟨_, v_load rfl (k.fx 2 h25) (l_two Tryd.isAgg23 Tryd.sizeOf23 (hb29.new_ hn)), rfl⟩) ?_
        refine .o1 (tg rfl rfl rfl (fun _ _ k => k.eq1 19 26 rfl) fun _ w hn k => ⟨_, v_load rfl (k.fx 3 h26) (l_two Tryd.isAgg23 Tryd.sizeOf23 (hb30.new_ hn)), rfl⟩) ?_
        refine .o1 (cg rfl rfl rfl (fun _ _ k => k.eq1 19 26 rfl) rfl (fun _ w hn k => ⟨#[nv a, nv b], args2 (k.eq1 23 30 rfl) (k.eq1 24 31 rfl), fun _ => by kernel_rfl, rsame_c a b _⟩) fun _ => congrArg Value.bool ht34) ?_
        refine .o1 (tg rfl rfl rfl (fun _ _ k => k.eq1 19 26 rfl) fun _ w hn k => ⟨_, v_bin rfl (k.eq1 22 29 rfl) (k.eq1 25 32 rfl) (fun _ => rfl) (fun w => by kernel_rfl), rfl⟩) ?_
        refine .o1 (tk rfl rfl fun _ w hn k => ⟨_, v_pickT rfl (k.eq1 19 26 rfl) (k.eq1 26 33 rfl), rfl⟩) ?_
        refine .o1 (tk rfl rfl fun _ w hn k => ⟨_, v_assign rfl (k.eq1 27 34 rfl), rfl⟩) ?_
        exact .nil
      intro a43 w44 hn45 ha46
      have hs47 := ha46.size.trans hs23
      have hd48 := ha46.defers.trans hd24
      have h49 := ha46.ge 28 4 rfl
      have hN50 := hN31.transNew hn45
      clear hs23 hd24 h25 h26 h27 h28 hb29 hq16 hb30 hq17 hN31 ha46 hn45
      refine st_nil ?_
      refine hK _ _ ?_
      clear hK K
      refine wp_ret (ret_k hd48 (v := .bool true) (res_t rfl h49 _) ?_)
      exact ⟨rfl, hN50⟩
    rcases Bool.eq_false_or_eq_true (sameM a b) with ht51 | ht51
    · skip
      refine wp_g0 [true, true, true, true, true, true, true, true, true, true, true, true, true, true, true, true, true, true, true, true, true, true, true, true, true, true, true, true, true] [] 35
        [ve (.bool true),
         ve (.bool true),
         ve (nv a),
         ve (nv b),
         ve (.bool true),
         ve (nv a),
         ve (nv b),
         ve (.bool true),
         ve (.bool true),
         ve (.bool true),
         ve (.bool true),
         ve (nv a),
         ve (nv b),
         ve (.bool false),
         ve (nv a),
         ve (nv b),
         ve (.bool false),
         ve (.bool true),
         ve (.bool true),
         ve (.bool true),
         ve (nv a),
         ve (nv b),
         ve (.bool true),
         ve (nv a),
         ve (nv b),
         ve (.bool true),
         ve (.bool true),
         ve (.bool true),
         ve (.bool true)] hs23 (.eq (.eq (.eq (.eq (.eq (.eq (.eq (.eq (.eq (.eq (.eq (.eq (.eq (.eq (.eq (.eq (.eq (.eq (.eq (.eq (.eq (.eq (.eq (.eq (.eq (.eq (.eq (.eq (.eq (.nil)))))))))))))))))))))))))))))) ?_ ?_
      · skip
        refine .o1 (ck rfl rfl rfl (fun _ w hn k => ⟨#[], rfl, fun _ => by kernel_rfl, first_c  _⟩) fun _ => rfl) ?_
        refine .o1 (tk rfl rfl fun _ w hn k => ⟨_, v_move rfl (k.eq1 0 7 rfl), rfl⟩) ?_
        refine .o1 (tg rfl rfl rfl (fun _ _ k => k.eq1 1 8 rfl) fun _ w hn k => ⟨_, v_load rfl (k.fx 2 h25) (l_two Tryd.isAgg23 Tryd.sizeOf23 (hb29.new_ hn)), rfl⟩) ?_
        refine .o1 (tg rfl rfl rfl (fun _ _ k => k.eq1 1 8 rfl) fun _ w hn k => ⟨_, v_load rfl (k.fx 3 h26) (l_two Tryd.isAgg23 Tryd.sizeOf23 (hb30.new_ hn)), rfl⟩) ?_
        refine .o1 (cg rfl rfl rfl (fun _ _ k => k.eq1 1 8 rfl) rfl (fun _ w hn k => ⟨#[nv a, nv b], args2 (k.eq1 2 9 rfl) (k.eq1 3 10 rfl), fun _ => by kernel_rfl, less_c a b _⟩) fun _ => congrArg Value.bool ht32) ?_
        refine .o1 (tg rfl rfl rfl (fun _ _ k => k.eq1 1 8 rfl) fun _ w hn k => ⟨_, v_load rfl (k.fx 2 h25) (l_two Tryd.isAgg23 Tryd.sizeOf23 (hb29.new_ hn)), rfl⟩) ?_
        refine .o1 (tg rfl rfl rfl (fun _ _ k => k.eq1 1 8 rfl) fun _ w hn k => ⟨_, v_load rfl (k.fx 3 h26) (l_two Tryd.isAgg23 Tryd.sizeOf23 (hb30.new_ hn)), rfl⟩) ?_
        refine .o1 (cg rfl rfl rfl (fun _ _ k => k.eq1 1 8 rfl) rfl (fun _ w hn k => ⟨#[nv a, nv b], args2 (k.eq1 5 12 rfl) (k.eq1 6 13 rfl), fun _ => by kernel_rfl, rless_c a b _⟩) fun _ => congrArg Value.bool ht32) ?_
        refine .o1 (tg rfl rfl rfl (fun _ _ k => k.eq1 1 8 rfl) fun _ w hn k => ⟨_, v_bin rfl (k.eq1 4 11 rfl) (k.eq1 7 14 rfl) (fun _ => rfl) (fun w => by kernel_rfl), rfl⟩) ?_
        refine .o1 (tk rfl rfl fun _ w hn k => ⟨_, v_pickT rfl (k.eq1 1 8 rfl) (k.eq1 8 15 rfl), rfl⟩) ?_
        refine .o1 (tk rfl rfl fun _ w hn k => ⟨_, v_move rfl (k.eq1 9 16 rfl), rfl⟩) ?_
        refine .o1 (tg rfl rfl rfl (fun _ _ k => k.eq1 10 17 rfl) fun _ w hn k => ⟨_, v_load rfl (k.fx 2 h25) (l_two Tryd.isAgg23 Tryd.sizeOf23 (hb29.new_ hn)), rfl⟩) ?_
        refine .o1 (tg rfl rfl rfl (fun _ _ k => k.eq1 10 17 rfl) fun _ w hn k => ⟨_, v_load rfl (k.fx 3 h26) (l_two Tryd.isAgg23 Tryd.sizeOf23 (hb30.new_ hn)), rfl⟩) ?_
        refine .o1 (cg rfl rfl rfl (fun _ _ k => k.eq1 10 17 rfl) rfl (fun _ w hn k => ⟨#[nv a, nv b], args2 (k.eq1 11 18 rfl) (k.eq1 12 19 rfl), fun _ => by kernel_rfl, equal_c a b _⟩) fun _ => congrArg Value.bool ht33) ?_
        refine .o1 (tg rfl rfl rfl (fun _ _ k => k.eq1 10 17 rfl) fun _ w hn k => ⟨_, v_load rfl (k.fx 2 h25) (l_two Tryd.isAgg23 Tryd.sizeOf23 (hb29.new_ hn)), rfl⟩) ?_
        refine .o1 (tg rfl rfl rfl (fun _ _ k => k.eq1 10 17 rfl) fun _ w hn k => ⟨_, v_load rfl (k.fx 3 h26) (l_two Tryd.isAgg23 Tryd.sizeOf23 (hb30.new_ hn)), rfl⟩) ?_
        refine .o1 (cg rfl rfl rfl (fun _ _ k => k.eq1 10 17 rfl) rfl (fun _ w hn k => ⟨#[nv a, nv b], args2 (k.eq1 14 21 rfl) (k.eq1 15 22 rfl), fun _ => by kernel_rfl, requal_c a b _⟩) fun _ => congrArg Value.bool ht33) ?_
        refine .o1 (tg rfl rfl rfl (fun _ _ k => k.eq1 10 17 rfl) fun _ w hn k => ⟨_, v_bin rfl (k.eq1 13 20 rfl) (k.eq1 16 23 rfl) (fun _ => rfl) (fun w => by kernel_rfl), rfl⟩) ?_
        refine .o1 (tk rfl rfl fun _ w hn k => ⟨_, v_pickT rfl (k.eq1 10 17 rfl) (k.eq1 17 24 rfl), rfl⟩) ?_
        refine .o1 (tk rfl rfl fun _ w hn k => ⟨_, v_move rfl (k.eq1 18 25 rfl), rfl⟩) ?_
        refine .o1 (tg rfl rfl rfl (fun _ _ k => k.eq1 19 26 rfl) fun _ w hn k => ⟨_, v_load rfl (k.fx 2 h25) (l_two Tryd.isAgg23 Tryd.sizeOf23 (hb29.new_ hn)), rfl⟩) ?_
        refine .o1 (tg rfl rfl rfl (fun _ _ k => k.eq1 19 26 rfl) fun _ w hn k => ⟨_, v_load rfl (k.fx 3 h26) (l_two Tryd.isAgg23 Tryd.sizeOf23 (hb30.new_ hn)), rfl⟩) ?_
        refine .o1 (cg rfl rfl rfl (fun _ _ k => k.eq1 19 26 rfl) rfl (fun _ w hn k => ⟨#[nv a, nv b], args2 (k.eq1 20 27 rfl) (k.eq1 21 28 rfl), fun _ => by kernel_rfl, same_c a b _⟩) fun _ => congrArg Value.bool ht51) ?_
        refine .o1 (tg rfl rfl rfl (fun _ _ k => k.eq1 19 26 rfl) fun _ w hn k => ⟨_, v_load rfl (k.fx 2 h25) (l_two Tryd.isAgg23 Tryd.sizeOf23 (hb29.new_ hn)), rfl⟩) ?_
        refine .o1 (tg rfl rfl rfl (fun _ _ k => k.eq1 19 26 rfl) fun _ w hn k => ⟨_, v_load rfl (k.fx 3 h26) (l_two Tryd.isAgg23 Tryd.sizeOf23 (hb30.new_ hn)), rfl⟩) ?_
        refine .o1 (cg rfl rfl rfl (fun _ _ k => k.eq1 19 26 rfl) rfl (fun _ w hn k => ⟨#[nv a, nv b], args2 (k.eq1 23 30 rfl) (k.eq1 24 31 rfl), fun _ => by kernel_rfl, rsame_c a b _⟩) fun _ => congrArg Value.bool ht51) ?_
        refine .o1 (tg rfl rfl rfl (fun _ _ k => k.eq1 19 26 rfl) fun _ w hn k => ⟨_, v_bin rfl (k.eq1 22 29 rfl) (k.eq1 25 32 rfl) (fun _ => rfl) (fun w => by kernel_rfl), rfl⟩) ?_
        refine .o1 (tk rfl rfl fun _ w hn k => ⟨_, v_pickT rfl (k.eq1 19 26 rfl) (k.eq1 26 33 rfl), rfl⟩) ?_
        refine .o1 (tk rfl rfl fun _ w hn k => ⟨_, v_assign rfl (k.eq1 27 34 rfl), rfl⟩) ?_
        exact .nil
      intro a52 w53 hn54 ha55
      have hs56 := ha55.size.trans hs23
      have hd57 := ha55.defers.trans hd24
      have h58 := ha55.ge 28 4 rfl
      have hN59 := hN31.transNew hn54
      clear hs23 hd24 h25 h26 h27 h28 hb29 hq16 hb30 hq17 hN31 ha55 hn54
      refine st_nil ?_
      refine hK _ _ ?_
      clear hK K
      refine wp_ret (ret_k hd57 (v := .bool true) (res_t rfl h58 _) ?_)
      exact ⟨rfl, hN59⟩
    refine wp_g0 [true, true, true, true, true, true, true, true, true, true, true, true, true, true, true, true, true, true, true, true, true, true, true, true, true, true, true, true, true] [] 35
      [ve (.bool true),
       ve (.bool true),
       ve (nv a),
       ve (nv b),
       ve (.bool true),
       ve (nv a),
       ve (nv b),
       ve (.bool true),
       ve (.bool true),
       ve (.bool true),
       ve (.bool true),
       ve (nv a),
       ve (nv b),
       ve (.bool false),
       ve (nv a),
       ve (nv b),
       ve (.bool false),
       ve (.bool true),
       ve (.bool true),
       ve (.bool true),
       ve (nv a),
       ve (nv b),
       ve (.bool false),
       ve (nv a),
       ve (nv b),
       ve (.bool false),
       ve (.bool true),
       ve (.bool true),
       ve (.bool true)] hs23 (.eq (.eq (.eq (.eq (.eq (.eq (.eq (.eq (.eq (.eq (.eq (.eq (.eq (.eq (.eq (.eq (.eq (.eq (.eq (.eq (.eq (.eq (.eq (.eq (.eq (.eq (.eq (.eq (.eq (.nil)))))))))))))))))))))))))))))) ?_ ?_
    · skip
      refine .o1 (ck rfl rfl rfl (fun _ w hn k => ⟨#[], rfl, fun _ => by kernel_rfl, first_c  _⟩) fun _ => rfl) ?_
      refine .o1 (tk rfl rfl fun _ w hn k => ⟨_, v_move rfl (k.eq1 0 7 rfl), rfl⟩) ?_
      refine .o1 (tg rfl rfl rfl (fun _ _ k => k.eq1 1 8 rfl) fun _ w hn k => ⟨_, v_load rfl (k.fx 2 h25) (l_two Tryd.isAgg23 Tryd.sizeOf23 (hb29.new_ hn)), rfl⟩) ?_
      refine .o1 (tg rfl rfl rfl (fun _ _ k => k.eq1 1 8 rfl) fun _ w hn k => ⟨_, v_load rfl (k.fx 3 h26) (l_two Tryd.isAgg23 Tryd.sizeOf23 (hb30.new_ hn)), rfl⟩) ?_
      refine .o1 (cg rfl rfl rfl (fun _ _ k => k.eq1 1 8 rfl) rfl (fun _ w hn k => ⟨#[nv a, nv b], args2 (k.eq1 2 9 rfl) (k.eq1 3 10 rfl), fun _ => by kernel_rfl, less_c a b _⟩) fun _ => congrArg Value.bool ht32) ?_
      refine .o1 (tg rfl rfl rfl (fun _ _ k => k.eq1 1 8 rfl) fun _ w hn k => ⟨_, v_load rfl (k.fx 2 h25) (l_two Tryd.isAgg23 Tryd.sizeOf23 (hb29.new_ hn)), rfl⟩) ?_
      refine .o1 (tg rfl rfl rfl (fun _ _ k => k.eq1 1 8 rfl) fun _ w hn k => ⟨_, v_load rfl (k.fx 3 h26) (l_two Tryd.isAgg23 Tryd.sizeOf23 (hb30.new_ hn)), rfl⟩) ?_
      refine .o1 (cg rfl rfl rfl (fun _ _ k => k.eq1 1 8 rfl) rfl (fun _ w hn k => ⟨#[nv a, nv b], args2 (k.eq1 5 12 rfl) (k.eq1 6 13 rfl), fun _ => by kernel_rfl, rless_c a b _⟩) fun _ => congrArg Value.bool ht32) ?_
      refine .o1 (tg rfl rfl rfl (fun _ _ k => k.eq1 1 8 rfl) fun _ w hn k => ⟨_, v_bin rfl (k.eq1 4 11 rfl) (k.eq1 7 14 rfl) (fun _ => rfl) (fun w => by kernel_rfl), rfl⟩) ?_
      refine .o1 (tk rfl rfl fun _ w hn k => ⟨_, v_pickT rfl (k.eq1 1 8 rfl) (k.eq1 8 15 rfl), rfl⟩) ?_
      refine .o1 (tk rfl rfl fun _ w hn k => ⟨_, v_move rfl (k.eq1 9 16 rfl), rfl⟩) ?_
      refine .o1 (tg rfl rfl rfl (fun _ _ k => k.eq1 10 17 rfl) fun _ w hn k => ⟨_, v_load rfl (k.fx 2 h25) (l_two Tryd.isAgg23 Tryd.sizeOf23 (hb29.new_ hn)), rfl⟩) ?_
      refine .o1 (tg rfl rfl rfl (fun _ _ k => k.eq1 10 17 rfl) fun _ w hn k => ⟨_, v_load rfl (k.fx 3 h26) (l_two Tryd.isAgg23 Tryd.sizeOf23 (hb30.new_ hn)), rfl⟩) ?_
      refine .o1 (cg rfl rfl rfl (fun _ _ k => k.eq1 10 17 rfl) rfl (fun _ w hn k => ⟨#[nv a, nv b], args2 (k.eq1 11 18 rfl) (k.eq1 12 19 rfl), fun _ => by kernel_rfl, equal_c a b _⟩) fun _ => congrArg Value.bool ht33) ?_
      refine .o1 (tg rfl rfl rfl (fun _ _ k => k.eq1 10 17 rfl) fun _ w hn k => ⟨_, v_load rfl (k.fx 2 h25) (l_two Tryd.isAgg23 Tryd.sizeOf23 (hb29.new_ hn)), rfl⟩) ?_
      refine .o1 (tg rfl rfl rfl (fun _ _ k => k.eq1 10 17 rfl) fun _ w hn k => ⟨_, v_load rfl (k.fx 3 h26) (l_two Tryd.isAgg23 Tryd.sizeOf23 (hb30.new_ hn)), rfl⟩) ?_
      refine .o1 (cg rfl rfl rfl (fun _ _ k => k.eq1 10 17 rfl) rfl (fun _ w hn k => ⟨#[nv a, nv b], args2 (k.eq1 14 21 rfl) (k.eq1 15 22 rfl), fun _ => by kernel_rfl, requal_c a b _⟩) fun _ => congrArg Value.bool ht33) ?_
      refine .o1 (tg rfl rfl rfl (fun _ _ k => k.eq1 10 17 rfl) fun _ w hn k => ⟨_, v_bin rfl (k.eq1 13 20 rfl) (k.eq1 16 23 rfl) (fun _ => rfl) (fun w => by kernel_rfl), rfl⟩) ?_
      refine .o1 (tk rfl rfl fun _ w hn k => ⟨_, v_pickT rfl (k.eq1 10 17 rfl) (k.eq1 17 24 rfl), rfl⟩) ?_
      refine .o1 (tk rfl rfl fun _ w hn k => ⟨_, v_move rfl (k.eq1 18 25 rfl), rfl⟩) ?_
      refine .o1 (tg rfl rfl rfl (fun _ _ k => k.eq1 19 26 rfl) fun _ w hn k => ⟨_, v_load rfl (k.fx 2 h25) (l_two Tryd.isAgg23 Tryd.sizeOf23 (hb29.new_ hn)), rfl⟩) ?_
      refine .o1 (tg rfl rfl rfl (fun _ _ k => k.eq1 19 26 rfl) fun _ w hn k => ⟨_, v_load rfl (k.fx 3 h26) (l_two Tryd.isAgg23 Tryd.sizeOf23 (hb30.new_ hn)), rfl⟩) ?_
      refine .o1 (cg rfl rfl rfl (fun _ _ k => k.eq1 19 26 rfl) rfl (fun _ w hn k => ⟨#[nv a, nv b], args2 (k.eq1 20 27 rfl) (k.eq1 21 28 rfl), fun _ => by kernel_rfl, same_c a b _⟩) fun _ => congrArg Value.bool ht51) ?_
      refine .o1 (tg rfl rfl rfl (fun _ _ k => k.eq1 19 26 rfl) fun _ w hn k => ⟨_, v_load rfl (k.fx 2 h25) (l_two Tryd.isAgg23 Tryd.sizeOf23 (hb29.new_ hn)), rfl⟩) ?_
      refine .o1 (tg rfl rfl rfl (fun _ _ k => k.eq1 19 26 rfl) fun _ w hn k => ⟨_, v_load rfl (k.fx 3 h26) (l_two Tryd.isAgg23 Tryd.sizeOf23 (hb30.new_ hn)), rfl⟩) ?_
      refine .o1 (cg rfl rfl rfl (fun _ _ k => k.eq1 19 26 rfl) rfl (fun _ w hn k => ⟨#[nv a, nv b], args2 (k.eq1 23 30 rfl) (k.eq1 24 31 rfl), fun _ => by kernel_rfl, rsame_c a b _⟩) fun _ => congrArg Value.bool ht51) ?_
      refine .o1 (tg rfl rfl rfl (fun _ _ k => k.eq1 19 26 rfl) fun _ w hn k => ⟨_, v_bin rfl (k.eq1 22 29 rfl) (k.eq1 25 32 rfl) (fun _ => rfl) (fun w => by kernel_rfl), rfl⟩) ?_
      refine .o1 (tk rfl rfl fun _ w hn k => ⟨_, v_pickT rfl (k.eq1 19 26 rfl) (k.eq1 26 33 rfl), rfl⟩) ?_
      refine .o1 (tk rfl rfl fun _ w hn k => ⟨_, v_assign rfl (k.eq1 27 34 rfl), rfl⟩) ?_
      exact .nil
    intro a60 w61 hn62 ha63
    have hs64 := ha63.size.trans hs23
    have hd65 := ha63.defers.trans hd24
    have h66 := ha63.ge 28 4 rfl
    have hN67 := hN31.transNew hn62
    clear hs23 hd24 h25 h26 h27 h28 hb29 hq16 hb30 hq17 hN31 ha63 hn62
    refine st_nil ?_
    refine hK _ _ ?_
    clear hK K
    refine wp_ret (ret_k hd65 (v := .bool true) (res_t rfl h66 _) ?_)
    exact ⟨rfl, hN67⟩
  rcases Bool.eq_false_or_eq_true (equalM a b) with ht68 | ht68
  · skip
    rcases Bool.eq_false_or_eq_true (sameM a b) with ht69 | ht69
    · skip
      refine wp_g0 [true, true, true, true, true, true, true, true, true, true, true, true, true, true, true, true, true, true, true, true, true, true, true, true, true, true, true, true, true] [] 35
        [ve (.bool true),
         ve (.bool true),
         ve (nv a),
         ve (nv b),
         ve (.bool false),
         ve (nv a),
         ve (nv b),
         ve (.bool false),
         ve (.bool true),
         ve (.bool true),
         ve (.bool true),
         ve (nv a),
         ve (nv b),
         ve (.bool true),
         ve (nv a),
         ve (nv b),
         ve (.bool true),
         ve (.bool true),
         ve (.bool true),
         ve (.bool true),
         ve (nv a),
         ve (nv b),
         ve (.bool true),
         ve (nv a),
         ve (nv b),
         ve (.bool true),
         ve (.bool true),
         ve (.bool true),
         ve (.bool true)] hs23 (.eq (.eq (.eq (.eq (.eq (.eq (.eq (.eq (.eq (.eq (.eq (.eq (.eq (.eq (.eq (.eq (.eq (.eq (.eq (.eq (.eq (.eq (.eq (.eq (.eq (.eq (.eq (.eq (.eq (.nil)))))))))))))))))))))))))))))) ?_ ?_
      · skip
        refine .o1 (ck rfl rfl rfl (fun _ w hn k => ⟨#[], rfl, fun _ => by kernel_rfl, first_c  _⟩) fun _ => rfl) ?_
        refine .o1 (tk rfl rfl fun _ w hn k => ⟨_, v_move rfl (k.eq1 0 7 rfl), rfl⟩) ?_
        refine .o1 (tg rfl rfl rfl (fun _ _ k => k.eq1 1 8 rfl) fun _ w hn k => ⟨_, v_load rfl (k.fx 2 h25) (l_two Tryd.isAgg23 Tryd.sizeOf23 (hb29.new_ hn)), rfl⟩) ?_
        refine .o1 (tg rfl rfl rfl (fun _ _ k => k.eq1 1 8 rfl) fun _ w hn k => ⟨_, v_load rfl (k.fx 3 h26) (l_two Tryd.isAgg23 Tryd.sizeOf23 (hb30.new_ hn)), rfl⟩) ?_
        refine .o1 (cg rfl rfl rfl (fun _ _ k => k.eq1 1 8 rfl) rfl (fun _ w hn k => ⟨#[nv a, nv b], args2 (k.eq1 2 9 rfl) (k.eq1 3 10 rfl), fun _ => by kernel_rfl, less_c a b _⟩) fun _ => congrArg Value.bool ht32) ?_
        refine .o1 (tg rfl rfl rfl (fun _ _ k => k.eq1 1 8 rfl) fun _ w hn k => ⟨_, v_load rfl (k.fx 2 h25) (l_two Tryd.isAgg23 Tryd.sizeOf23 (hb29.new_ hn)), rfl⟩) ?_
        refine .o1 (tg rfl rfl rfl (fun _ _ k => k.eq1 1 8 rfl) fun _ w hn k => ⟨_, v_load rfl (k.fx 3 h26) (l_two Tryd.isAgg23 Tryd.sizeOf23 (hb30.new_ hn)), rfl⟩) ?_
        refine .o1 (cg rfl rfl rfl (fun _ _ k => k.eq1 1 8 rfl) rfl (fun _ w hn k => ⟨#[nv a, nv b], args2 (k.eq1 5 12 rfl) (k.eq1 6 13 rfl), fun _ => by kernel_rfl, rless_c a b _⟩) fun _ => congrArg Value.bool ht32) ?_
        refine .o1 (tg rfl rfl rfl (fun _ _ k => k.eq1 1 8 rfl) fun _ w hn k => ⟨_, v_bin rfl (k.eq1 4 11 rfl) (k.eq1 7 14 rfl) (fun _ => rfl) (fun w => by kernel_rfl), rfl⟩) ?_
        refine .o1 (tk rfl rfl fun _ w hn k => ⟨_, v_pickT rfl (k.eq1 1 8 rfl) (k.eq1 8 15 rfl), rfl⟩) ?_
        refine .o1 (tk rfl rfl fun _ w hn k => ⟨_, v_move rfl (k.eq1 9 16 rfl), rfl⟩) ?_
        refine .o1 (tg rfl rfl rfl (fun _ _ k => k.eq1 10 17 rfl) fun _ w hn k => ⟨_, v_load rfl (k.fx 2 h25) (l_two Tryd.isAgg23 Tryd.sizeOf23 (hb29.new_ hn)), rfl⟩) ?_
        refine .o1 (tg rfl rfl rfl (fun _ _ k => k.eq1 10 17 rfl) fun _ w hn k => ⟨_, v_load rfl (k.fx 3 h26) (l_two Tryd.isAgg23 Tryd.sizeOf23 (hb30.new_ hn)), rfl⟩) ?_
        refine .o1 (cg rfl rfl rfl (fun _ _ k => k.eq1 10 17 rfl) rfl (fun _ w hn k => ⟨#[nv a, nv b], args2 (k.eq1 11 18 rfl) (k.eq1 12 19 rfl), fun _ => by kernel_rfl, equal_c a b _⟩) fun _ => congrArg Value.bool ht68) ?_
        refine .o1 (tg rfl rfl rfl (fun _ _ k => k.eq1 10 17 rfl) fun _ w hn k => ⟨_, v_load rfl (k.fx 2 h25) (l_two Tryd.isAgg23 Tryd.sizeOf23 (hb29.new_ hn)), rfl⟩) ?_
        refine .o1 (tg rfl rfl rfl (fun _ _ k => k.eq1 10 17 rfl) fun _ w hn k => ⟨_, v_load rfl (k.fx 3 h26) (l_two Tryd.isAgg23 Tryd.sizeOf23 (hb30.new_ hn)), rfl⟩) ?_
        refine .o1 (cg rfl rfl rfl (fun _ _ k => k.eq1 10 17 rfl) rfl (fun _ w hn k => ⟨#[nv a, nv b], args2 (k.eq1 14 21 rfl) (k.eq1 15 22 rfl), fun _ => by kernel_rfl, requal_c a b _⟩) fun _ => congrArg Value.bool ht68) ?_
        refine .o1 (tg rfl rfl rfl (fun _ _ k => k.eq1 10 17 rfl) fun _ w hn k => ⟨_, v_bin rfl (k.eq1 13 20 rfl) (k.eq1 16 23 rfl) (fun _ => rfl) (fun w => by kernel_rfl), rfl⟩) ?_
        refine .o1 (tk rfl rfl fun _ w hn k => ⟨_, v_pickT rfl (k.eq1 10 17 rfl) (k.eq1 17 24 rfl), rfl⟩) ?_
        refine .o1 (tk rfl rfl fun _ w hn k => ⟨_, v_move rfl (k.eq1 18 25 rfl), rfl⟩) ?_
        refine .o1 (tg rfl rfl rfl (fun _ _ k => k.eq1 19 26 rfl) fun _ w hn k => ⟨_, v_load rfl (k.fx 2 h25) (l_two Tryd.isAgg23 Tryd.sizeOf23 (hb29.new_ hn)), rfl⟩) ?_
        refine .o1 (tg rfl rfl rfl (fun _ _ k => k.eq1 19 26 rfl) fun _ w hn k => ⟨_, v_load rfl (k.fx 3 h26) (l_two Tryd.isAgg23 Tryd.sizeOf23 (hb30.new_ hn)), rfl⟩) ?_
        refine .o1 (cg rfl rfl rfl (fun _ _ k => k.eq1 19 26 rfl) rfl (fun _ w hn k => ⟨#[nv a, nv b], args2 (k.eq1 20 27 rfl) (k.eq1 21 28 rfl), fun _ => by kernel_rfl, same_c a b _⟩) fun _ => congrArg Value.bool ht69) ?_
        refine .o1 (tg rfl rfl rfl (fun _ _ k => k.eq1 19 26 rfl) fun _ w hn k => ⟨_, v_load rfl (k.fx 2 h25) (l_two Tryd.isAgg23 Tryd.sizeOf23 (hb29.new_ hn)), rfl⟩) ?_
        refine .o1 (tg rfl rfl rfl (fun _ _ k => k.eq1 19 26 rfl) fun _ w hn k => ⟨_, v_load rfl (k.fx 3 h26) (l_two Tryd.isAgg23 Tryd.sizeOf23 (hb30.new_ hn)), rfl⟩) ?_
        refine .o1 (cg rfl rfl rfl (fun _ _ k => k.eq1 19 26 rfl) rfl (fun _ w hn k => ⟨#[nv a, nv b], args2 (k.eq1 23 30 rfl) (k.eq1 24 31 rfl), fun _ => by kernel_rfl, rsame_c a b _⟩) fun _ => congrArg Value.bool ht69) ?_
        refine .o1 (tg rfl rfl rfl (fun _ _ k => k.eq1 19 26 rfl) fun _ w hn k => ⟨_, v_bin rfl (k.eq1 22 29 rfl) (k.eq1 25 32 rfl) (fun _ => rfl) (fun w => by kernel_rfl), rfl⟩) ?_
        refine .o1 (tk rfl rfl fun _ w hn k => ⟨_, v_pickT rfl (k.eq1 19 26 rfl) (k.eq1 26 33 rfl), rfl⟩) ?_
        refine .o1 (tk rfl rfl fun _ w hn k => ⟨_, v_assign rfl (k.eq1 27 34 rfl), rfl⟩) ?_
        exact .nil
      intro a70 w71 hn72 ha73
      have hs74 := ha73.size.trans hs23
      have hd75 := ha73.defers.trans hd24
      have h76 := ha73.ge 28 4 rfl
      have hN77 := hN31.transNew hn72
      clear hs23 hd24 h25 h26 h27 h28 hb29 hq16 hb30 hq17 hN31 ha73 hn72
      refine st_nil ?_
      refine hK _ _ ?_
      clear hK K
      refine wp_ret (ret_k hd75 (v := .bool true) (res_t rfl h76 _) ?_)
      exact ⟨rfl, hN77⟩
    refine wp_g0 [true, true, true, true, true, true, true, true, true, true, true, true, true, true, true, true, true, true, true, true, true, true, true, true, true, true, true, true, true] [] 35
      [ve (.bool true),
       ve (.bool true),
       ve (nv a),
       ve (nv b),
       ve (.bool false),
       ve (nv a),
       ve (nv b),
       ve (.bool false),
       ve (.bool true),
       ve (.bool true),
       ve (.bool true),
       ve (nv a),
       ve (nv b),
       ve (.bool true),
       ve (nv a),
       ve (nv b),
       ve (.bool true),
       ve (.bool true),
       ve (.bool true),
       ve (.bool true),
       ve (nv a),
       ve (nv b),
       ve (.bool false),
       ve (nv a),
       ve (nv b),
       ve (.bool false),
       ve (.bool true),
       ve (.bool true),
       ve (.bool true)] hs23 (.eq (.eq (.eq (.eq (.eq (.eq (.eq (.eq (.eq (.eq (.eq (.eq (.eq (.eq (.eq (.eq (.eq (.eq (.eq (.eq (.eq (.eq (.eq (.eq (.eq (.eq (.eq (.eq (.eq (.nil)))))))))))))))))))))))))))))) ?_ ?_
    · skip
      refine .o1 (ck rfl rfl rfl (fun _ w hn k => ⟨#[], rfl, fun _ => by kernel_rfl, first_c  _⟩) fun _ => rfl) ?_
      refine .o1 (tk rfl rfl fun _ w hn k => ⟨_, v_move rfl (k.eq1 0 7 rfl), rfl⟩) ?_
      refine .o1 (tg rfl rfl rfl (fun _ _ k => k.eq1 1 8 rfl) fun _ w hn k => ⟨_, v_load rfl (k.fx 2 h25) (l_two Tryd.isAgg23 Tryd.sizeOf23 (hb29.new_ hn)), rfl⟩) ?_
      refine .o1 (tg rfl rfl rfl (fun _ _ k => k.eq1 1 8 rfl) fun _ w hn k => ⟨_, v_load rfl (k.fx 3 h26) (l_two Tryd.isAgg23 Tryd.sizeOf23 (hb30.new_ hn)), rfl⟩) ?_
      refine .o1 (cg rfl rfl rfl (fun _ _ k => k.eq1 1 8 rfl) rfl (fun _ w hn k => ⟨#[nv a, nv b], args2 (k.eq1 2 9 rfl) (k.eq1 3 10 rfl), fun _ => by kernel_rfl, less_c a b _⟩) fun _ => congrArg Value.bool ht32) ?_
      refine .o1 (tg rfl rfl rfl (fun _ _ k => k.eq1 1 8 rfl) fun _ w hn k => ⟨_, v_load rfl (k.fx 2 h25) (l_two Tryd.isAgg23 Tryd.sizeOf23 (hb29.new_ hn)), rfl⟩) ?_
      refine .o1 (tg rfl rfl rfl (fun _ _ k => k.eq1 1 8 rfl) fun _ w hn k => ⟨_, v_load rfl (k.fx 3 h26) (l_two Tryd.isAgg23 Tryd.sizeOf23 (hb30.new_ hn)), rfl⟩) ?_
      refine .o1 (cg rfl rfl rfl (fun _ _ k => k.eq1 1 8 rfl) rfl (fun _ w hn k => ⟨#[nv a, nv b], args2 (k.eq1 5 12 rfl) (k.eq1 6 13 rfl), fun _ => by kernel_rfl, rless_c a b _⟩) fun _ => congrArg Value.bool ht32) ?_
      refine .o1 (tg rfl rfl rfl (fun _ _ k => k.eq1 1 8 rfl) fun _ w hn k => ⟨_, v_bin rfl (k.eq1 4 11 rfl) (k.eq1 7 14 rfl) (fun _ => rfl) (fun w => by kernel_rfl), rfl⟩) ?_
      refine .o1 (tk rfl rfl fun _ w hn k => ⟨_, v_pickT rfl (k.eq1 1 8 rfl) (k.eq1 8 15 rfl), rfl⟩) ?_
      refine .o1 (tk rfl rfl fun _ w hn k => ⟨_, v_move rfl (k.eq1 9 16 rfl), rfl⟩) ?_
      refine .o1 (tg rfl rfl rfl (fun _ _ k => k.eq1 10 17 rfl) fun _ w hn k => ⟨_, v_load rfl (k.fx 2 h25) (l_two Tryd.isAgg23 Tryd.sizeOf23 (hb29.new_ hn)), rfl⟩) ?_
      refine .o1 (tg rfl rfl rfl (fun _ _ k => k.eq1 10 17 rfl) fun _ w hn k => ⟨_, v_load rfl (k.fx 3 h26) (l_two Tryd.isAgg23 Tryd.sizeOf23 (hb30.new_ hn)), rfl⟩) ?_
      refine .o1 (cg rfl rfl rfl (fun _ _ k => k.eq1 10 17 rfl) rfl (fun _ w hn k => ⟨#[nv a, nv b], args2 (k.eq1 11 18 rfl) (k.eq1 12 19 rfl), fun _ => by kernel_rfl, equal_c a b _⟩) fun _ => congrArg Value.bool ht68) ?_
      refine .o1 (tg rfl rfl rfl (fun _ _ k => k.eq1 10 17 rfl) fun _ w hn k => ⟨_, v_load rfl (k.fx 2 h25) (l_two Tryd.isAgg23 Tryd.sizeOf23 (hb29.new_ hn)), rfl⟩) ?_
      refine .o1 (tg rfl rfl rfl (fun _ _ k => k.eq1 10 17 rfl) fun _ w hn k => ⟨_, v_load rfl (k.fx 3 h26) (l_two Tryd.isAgg23 Tryd.sizeOf23 (hb30.new_ hn)), rfl⟩) ?_
      refine .o1 (cg rfl rfl rfl (fun _ _ k => k.eq1 10 17 rfl) rfl (fun _ w hn k => ⟨#[nv a, nv b], args2 (k.eq1 14 21 rfl) (k.eq1 15 22 rfl), fun _ => by kernel_rfl, requal_c a b _⟩) fun _ => congrArg Value.bool ht68) ?_
      refine .o1 (tg rfl rfl rfl (fun _ _ k => k.eq1 10 17 rfl) fun _ w hn k => ⟨_, v_bin rfl (k.eq1 13 20 rfl) (k.eq1 16 23 rfl) (fun _ => rfl) (fun w => by kernel_rfl), rfl⟩) ?_
      refine .o1 (tk rfl rfl fun _ w hn k => ⟨_, v_pickT rfl (k.eq1 10 17 rfl) (k.eq1 17 24 rfl), rfl⟩) ?_
      refine .o1 (tk rfl rfl fun _ w hn k => ⟨_, v_move rfl (k.eq1 18 25 rfl), rfl⟩) ?_
      refine .o1 (tg rfl rfl rfl (fun _ _ k => k.eq1 19 26 rfl) fun _ w hn k => ⟨_, v_load rfl (k.fx 2 h25) (l_two Tryd.isAgg23 Tryd.sizeOf23 (hb29.new_ hn)), rfl⟩) ?_
      refine .o1 (tg rfl rfl rfl (fun _ _ k => k.eq1 19 26 rfl) fun _ w hn k => ⟨_, v_load rfl (k.fx 3 h26) (l_two Tryd.isAgg23 Tryd.sizeOf23 (hb30.new_ hn)), rfl⟩) ?_
      refine .o1 (cg rfl rfl rfl (fun _ _ k => k.eq1 19 26 rfl) rfl (fun _ w hn k => ⟨#[nv a, nv b], args2 (k.eq1 20 27 rfl) (k.eq1 21 28 rfl), fun _ => by kernel_rfl, same_c a b _⟩) fun _ => congrArg Value.bool ht69) ?_
      refine .o1 (tg rfl rfl rfl (fun _ _ k => k.eq1 19 26 rfl) fun _ w hn k => ⟨_, v_load rfl (k.fx 2 h25) (l_two Tryd.isAgg23 Tryd.sizeOf23 (hb29.new_ hn)), rfl⟩) ?_
      refine .o1 (tg rfl rfl rfl (fun _ _ k => k.eq1 19 26 rfl) fun _ w hn k => ⟨_, v_load rfl (k.fx 3 h26) (l_two Tryd.isAgg23 Tryd.sizeOf23 (hb30.new_ hn)), rfl⟩) ?_
      refine .o1 (cg rfl rfl rfl (fun _ _ k => k.eq1 19 26 rfl) rfl (fun _ w hn k => ⟨#[nv a, nv b], args2 (k.eq1 23 30 rfl) (k.eq1 24 31 rfl), fun _ => by kernel_rfl, rsame_c a b _⟩) fun _ => congrArg Value.bool ht69) ?_
      refine .o1 (tg rfl rfl rfl (fun _ _ k => k.eq1 19 26 rfl) fun _ w hn k => ⟨_, v_bin rfl (k.eq1 22 29 rfl) (k.eq1 25 32 rfl) (fun _ => rfl) (fun w => by kernel_rfl), rfl⟩) ?_
      refine .o1 (tk rfl rfl fun _ w hn k => ⟨_, v_pickT rfl (k.eq1 19 26 rfl) (k.eq1 26 33 rfl), rfl⟩) ?_
      refine .o1 (tk rfl rfl fun _ w hn k => ⟨_, v_assign rfl (k.eq1 27 34 rfl), rfl⟩) ?_
      exact .nil
    intro a78 w79 hn80 ha81
    have hs82 := ha81.size.trans hs23
    have hd83 := ha81.defers.trans hd24
    have h84 := ha81.ge 28 4 rfl
    have hN85 := hN31.transNew hn80
    clear hs23 hd24 h25 h26 h27 h28 hb29 hq16 hb30 hq17 hN31 ha81 hn80
    refine st_nil ?_
    refine hK _ _ ?_
    clear hK K
    refine wp_ret (ret_k hd83 (v := .bool true) (res_t rfl h84 _) ?_)
    exact ⟨rfl, hN85⟩
  rcases Bool.eq_false_or_eq_true (sameM a b) with ht86 | ht86
  · skip
    refine wp_g0 [true, true, true, true, true, true, true, true, true, true, true, true, true, true, true, true, true, true, true, true, true, true, true, true, true, true, true, true, true] [] 35
      [ve (.bool true),
       ve (.bool true),
       ve (nv a),
       ve (nv b),
       ve (.bool false),
       ve (nv a),
       ve (nv b),
       ve (.bool false),
       ve (.bool true),
       ve (.bool true),
       ve (.bool true),
       ve (nv a),
       ve (nv b),
       ve (.bool false),
       ve (nv a),
       ve (nv b),
       ve (.bool false),
       ve (.bool true),
       ve (.bool true),
       ve (.bool true),
       ve (nv a),
       ve (nv b),
       ve (.bool true),
       ve (nv a),
       ve (nv b),
       ve (.bool true),
       ve (.bool true),
       ve (.bool true),
       ve (.bool true)] hs23 (.eq (.eq (.eq (.eq (.eq (.eq (.eq (.eq (.eq (.eq (.eq (.eq (.eq (.eq (.eq (.eq (.eq (.eq (.eq (.eq (.eq (.eq (.eq (.eq (.eq (.eq (.eq (.eq (.eq (.nil)))))))))))))))))))))))))))))) ?_ ?_
    · skip
      refine .o1 (ck rfl rfl rfl (fun _ w hn k => ⟨#[], rfl, fun _ => by kernel_rfl, first_c  _⟩) fun _ => rfl) ?_
      refine .o1 (tk rfl rfl fun _ w hn k => ⟨_, v_move rfl (k.eq1 0 7 rfl), rfl⟩) ?_
      refine .o1 (tg rfl rfl rfl (fun _ _ k => k.eq1 1 8 rfl) fun _ w hn k => ⟨_, v_load rfl (k.fx 2 h25) (l_two Tryd.isAgg23 Tryd.sizeOf23 (hb29.new_ hn)), rfl⟩) ?_
      refine .o1 (tg rfl rfl rfl (fun _ _ k => k.eq1 1 8 rfl) fun _ w hn k => ⟨_, v_load rfl (k.fx 3 h26) (l_two Tryd.isAgg23 Tryd.sizeOf23 (hb30.new_ hn)), rfl⟩) ?_
      refine .o1 (cg rfl rfl rfl (fun _ _ k => k.eq1 1 8 rfl) rfl (fun _ w hn k => ⟨#[nv a, nv b], args2 (k.eq1 2 9 rfl) (k.eq1 3 10 rfl), fun _ => by kernel_rfl, less_c a b _⟩) fun _ => congrArg Value.bool ht32) ?_
      refine .o1 (tg rfl rfl rfl (fun _ _ k => k.eq1 1 8 rfl) fun _ w hn k => ⟨_, v_load rfl (k.fx 2 h25) (l_two Tryd.isAgg23 Tryd.sizeOf23 (hb29.new_ hn)), rfl⟩) ?_
      refine .o1 (tg rfl rfl rfl (fun _ _ k => k.eq1 1 8 rfl) fun _ w hn k => ⟨_, v_load rfl (k.fx 3 h26) (l_two Tryd.isAgg23 Tryd.sizeOf23 (hb30.new_ hn)), rfl⟩) ?_
      refine .o1 (cg rfl rfl rfl (fun _ _ k => k.eq1 1 8 rfl) rfl (fun _ w hn k => ⟨#[nv a, nv b], args2 (k.eq1 5 12 rfl) (k.eq1 6 13 rfl), fun _ => by kernel_rfl, rless_c a b _⟩) fun _ => congrArg Value.bool ht32) ?_
      refine .o1 (tg rfl rfl rfl (fun _ _ k => k.eq1 1 8 rfl) fun _ w hn k => ⟨_, v_bin rfl (k.eq1 4 11 rfl) (k.eq1 7 14 rfl) (fun _ => rfl) (fun w => by kernel_rfl), rfl⟩) ?_
      refine .o1 (tk rfl rfl fun _ w hn k => ⟨_, v_pickT rfl (k.eq1 1 8 rfl) (k.eq1 8 15 rfl), rfl⟩) ?_
      refine .o1 (tk rfl rfl fun _ w hn k => ⟨_, v_move rfl (k.eq1 9 16 rfl), rfl⟩) ?_
      refine .o1 (tg rfl rfl rfl (fun _ _ k => k.eq1 10 17 rfl) fun _ w hn k => ⟨_, v_load rfl (k.fx 2 h25) (l_two Tryd.isAgg23 Tryd.sizeOf23 (hb29.new_ hn)), rfl⟩) ?_
      refine .o1 (tg rfl rfl rfl (fun _ _ k => k.eq1 10 17 rfl) fun _ w hn k => ⟨_, v_load rfl (k.fx 3 h26) (l_two Tryd.isAgg23 Tryd.sizeOf23 (hb30.new_ hn)), rfl⟩) ?_
      refine .o1 (cg rfl rfl rfl (fun _ _ k => k.eq1 10 17 rfl) rfl (fun _ w hn k => ⟨#[nv a, nv b], args2 (k.eq1 11 18 rfl) (k.eq1 12 19 rfl), fun _ => by kernel_rfl, equal_c a b _⟩) fun _ => congrArg Value.bool ht68) ?_
      refine .o1 (tg rfl rfl rfl (fun _ _ k => k.eq1 10 17 rfl) fun _ w hn k => ⟨_, v_load rfl (k.fx 2 h25) (l_two Tryd.isAgg23 Tryd.sizeOf23 (hb29.new_ hn)), rfl⟩) ?_
      refine .o1 (tg rfl rfl rfl (fun _ _ k => k.eq1 10 17 rfl) fun _ w hn k => ⟨_, v_load rfl (k.fx 3 h26) (l_two Tryd.isAgg23 Tryd.sizeOf23 (hb30.new_ hn)), rfl⟩) ?_
      refine .o1 (cg rfl rfl rfl (fun _ _ k => k.eq1 10 17 rfl) rfl (fun _ w hn k => ⟨#[nv a, nv b], args2 (k.eq1 14 21 rfl) (k.eq1 15 22 rfl), fun _ => by kernel_rfl, requal_c a b _⟩) fun _ => congrArg Value.bool ht68) ?_
      refine .o1 (tg rfl rfl rfl (fun _ _ k => k.eq1 10 17 rfl) fun _ w hn k => ⟨_, v_bin rfl (k.eq1 13 20 rfl) (k.eq1 16 23 rfl) (fun _ => rfl) (fun w => by kernel_rfl), rfl⟩) ?_
      refine .o1 (tk rfl rfl fun _ w hn k => ⟨_, v_pickT rfl (k.eq1 10 17 rfl) (k.eq1 17 24 rfl), rfl⟩) ?_
      refine .o1 (tk rfl rfl fun _ w hn k => ⟨_, v_move rfl (k.eq1 18 25 rfl), rfl⟩) ?_
      refine .o1 (tg rfl rfl rfl (fun _ _ k => k.eq1 19 26 rfl) fun _ w hn k => ⟨_, v_load rfl (k.fx 2 h25) (l_two Tryd.isAgg23 Tryd.sizeOf23 (hb29.new_ hn)), rfl⟩) ?_
      refine .o1 (tg rfl rfl rfl (fun _ _ k => k.eq1 19 26 rfl) fun _ w hn k => ⟨_, v_load rfl (k.fx 3 h26) (l_two Tryd.isAgg23 Tryd.sizeOf23 (hb30.new_ hn)), rfl⟩) ?_
      refine .o1 (cg rfl rfl rfl (fun _ _ k => k.eq1 19 26 rfl) rfl (fun _ w hn k => ⟨#[nv a, nv b], args2 (k.eq1 20 27 rfl) (k.eq1 21 28 rfl), fun _ => by kernel_rfl, same_c a b _⟩) fun _ => congrArg Value.bool ht86) ?_
      refine .o1 (tg rfl rfl rfl (fun _ _ k => k.eq1 19 26 rfl) fun _ w hn k => ⟨_, v_load rfl (k.fx 2 h25) (l_two Tryd.isAgg23 Tryd.sizeOf23 (hb29.new_ hn)), rfl⟩) ?_
      refine .o1 (tg rfl rfl rfl (fun _ _ k => k.eq1 19 26 rfl) fun _ w hn k => ⟨_, v_load rfl (k.fx 3 h26) (l_two Tryd.isAgg23 Tryd.sizeOf23 (hb30.new_ hn)), rfl⟩) ?_
      refine .o1 (cg rfl rfl rfl (fun _ _ k => k.eq1 19 26 rfl) rfl (fun _ w hn k => ⟨#[nv a, nv b], args2 (k.eq1 23 30 rfl) (k.eq1 24 31 rfl), fun _ => by kernel_rfl, rsame_c a b _⟩) fun _ => congrArg Value.bool ht86) ?_
      refine .o1 (tg rfl rfl rfl (fun _ _ k => k.eq1 19 26 rfl) fun _ w hn k => ⟨_, v_bin rfl (k.eq1 22 29 rfl) (k.eq1 25 32 rfl) (fun _ => rfl) (fun w => by kernel_rfl), rfl⟩) ?_
      refine .o1 (tk rfl rfl fun _ w hn k => ⟨_, v_pickT rfl (k.eq1 19 26 rfl) (k.eq1 26 33 rfl), rfl⟩) ?_
      refine .o1 (tk rfl rfl fun _ w hn k => ⟨_, v_assign rfl (k.eq1 27 34 rfl), rfl⟩) ?_
      exact .nil
    intro a87 w88 hn89 ha90
    have hs91 := ha90.size.trans hs23
    have hd92 := ha90.defers.trans hd24
    have h93 := ha90.ge 28 4 rfl
    have hN94 := hN31.transNew hn89
    clear hs23 hd24 h25 h26 h27 h28 hb29 hq16 hb30 hq17 hN31 ha90 hn89
    refine st_nil ?_
    refine hK _ _ ?_
    clear hK K
    refine wp_ret (ret_k hd92 (v := .bool true) (res_t rfl h93 _) ?_)
    exact ⟨rfl, hN94⟩
  refine wp_g0 [true, true, true, true, true, true, true, true, true, true, true, true, true, true, true, true, true, true, true, true, true, true, true, true, true, true, true, true, true] [] 35
    [ve (.bool true),
     ve (.bool true),
     ve (nv a),
     ve (nv b),
     ve (.bool false),
     ve (nv a),
     ve (nv b),
     ve (.bool false),
     ve (.bool true),
     ve (.bool true),
     ve (.bool true),
     ve (nv a),
     ve (nv b),
     ve (.bool false),
     ve (nv a),
     ve (nv b),
     ve (.bool false),
     ve (.bool true),
     ve (.bool true),
     ve (.bool true),
     ve (nv a),
     ve (nv b),
     ve (.bool false),
     ve (nv a),
     ve (nv b),
     ve (.bool false),
     ve (.bool true),
     ve (.bool true),
     ve (.bool true)] hs23 (.eq (.eq (.eq (.eq (.eq (.eq (.eq (.eq (.eq (.eq (.eq (.eq (.eq (.eq (.eq (.eq (.eq (.eq (.eq (.eq (.eq (.eq (.eq (.eq (.eq (.eq (.eq (.eq (.eq (.nil)))))))))))))))))))))))))))))) ?_ ?_
  · skip
    refine .o1 (ck rfl rfl rfl (fun _ w hn k => ⟨#[], rfl, fun _ => by kernel_rfl, first_c  _⟩) fun _ => rfl) ?_
    refine .o1 (tk rfl rfl fun _ w hn k => ⟨_, v_move rfl (k.eq1 0 7 rfl), rfl⟩) ?_
    refine .o1 (tg rfl rfl rfl (fun _ _ k => k.eq1 1 8 rfl) fun _ w hn k => ⟨_, v_load rfl (k.fx 2 h25) (l_two Tryd.isAgg23 Tryd.sizeOf23 (hb29.new_ hn)), rfl⟩) ?_
    refine .o1 (tg rfl rfl rfl (fun _ _ k => k.eq1 1 8 rfl) fun _ w hn k => ⟨_, v_load rfl (k.fx 3 h26) (l_two Tryd.isAgg23 Tryd.sizeOf23 (hb30.new_ hn)), rfl⟩) ?_
    refine .o1 (cg rfl rfl rfl (fun _ _ k => k.eq1 1 8 rfl) rfl (fun _ w hn k => ⟨#[nv a, nv b], args2 (k.eq1 2 9 rfl) (k.eq1 3 10 rfl), fun _ => by kernel_rfl, less_c a b _⟩) fun _ => congrArg Value.bool ht32) ?_
    refine .o1 (tg rfl rfl rfl (fun _ _ k => k.eq1 1 8 rfl) fun _ w hn k => ⟨_, v_load rfl (k.fx 2 h25) (l_two Tryd.isAgg23 Tryd.sizeOf23 (hb29.new_ hn)), rfl⟩) ?_
    refine .o1 (tg rfl rfl rfl (fun _ _ k => k.eq1 1 8 rfl) fun _ w hn k => ⟨_, v_load rfl (k.fx 3 h26) (l_two Tryd.isAgg23 Tryd.sizeOf23 (hb30.new_ hn)), rfl⟩) ?_
    refine .o1 (cg rfl rfl rfl (fun _ _ k => k.eq1 1 8 rfl) rfl (fun _ w hn k => ⟨#[nv a, nv b], args2 (k.eq1 5 12 rfl) (k.eq1 6 13 rfl), fun _ => by kernel_rfl, rless_c a b _⟩) fun _ => congrArg Value.bool ht32) ?_
    refine .o1 (tg rfl rfl rfl (fun _ _ k => k.eq1 1 8 rfl) fun _ w hn k => ⟨_, v_bin rfl (k.eq1 4 11 rfl) (k.eq1 7 14 rfl) (fun _ => rfl) (fun w => by kernel_rfl), rfl⟩) ?_
    refine .o1 (tk rfl rfl fun _ w hn k => ⟨_, v_pickT rfl (k.eq1 1 8 rfl) (k.eq1 8 15 rfl), rfl⟩) ?_
    refine .o1 (tk rfl rfl fun _ w hn k => ⟨_, v_move rfl (k.eq1 9 16 rfl), rfl⟩) ?_
    refine .o1 (tg rfl rfl rfl (fun _ _ k => k.eq1 10 17 rfl) fun _ w hn k => ⟨_, v_load rfl (k.fx 2 h25) (l_two Tryd.isAgg23 Tryd.sizeOf23 (hb29.new_ hn)), rfl⟩) ?_
    refine .o1 (tg rfl rfl rfl (fun _ _ k => k.eq1 10 17 rfl) fun _ w hn k => ⟨_, v_load rfl (k.fx 3 h26) (l_two Tryd.isAgg23 Tryd.sizeOf23 (hb30.new_ hn)), rfl⟩) ?_
    refine .o1 (cg rfl rfl rfl (fun _ _ k => k.eq1 10 17 rfl) rfl (fun _ w hn k => ⟨#[nv a, nv b], args2 (k.eq1 11 18 rfl) (k.eq1 12 19 rfl), fun _ => by kernel_rfl, equal_c a b _⟩) fun _ => congrArg Value.bool ht68) ?_
    refine .o1 (tg rfl rfl rfl (fun _ _ k => k.eq1 10 17 rfl) fun _ w hn k => ⟨_, v_load rfl (k.fx 2 h25) (l_two Tryd.isAgg23 Tryd.sizeOf23 (hb29.new_ hn)), rfl⟩) ?_
    refine .o1 (tg rfl rfl rfl (fun _ _ k => k.eq1 10 17 rfl) fun _ w hn k => ⟨_, v_load rfl (k.fx 3 h26) (l_two Tryd.isAgg23 Tryd.sizeOf23 (hb30.new_ hn)), rfl⟩) ?_
    refine .o1 (cg rfl rfl rfl (fun _ _ k => k.eq1 10 17 rfl) rfl (fun _ w hn k => ⟨#[nv a, nv b], args2 (k.eq1 14 21 rfl) (k.eq1 15 22 rfl), fun _ => by kernel_rfl, requal_c a b _⟩) fun _ => congrArg Value.bool ht68) ?_
    refine .o1 (tg rfl rfl rfl (fun _ _ k => k.eq1 10 17 rfl) fun _ w hn k => ⟨_, v_bin rfl (k.eq1 13 20 rfl) (k.eq1 16 23 rfl) (fun _ => rfl) (fun w => by kernel_rfl), rfl⟩) ?_
    refine .o1 (tk rfl rfl fun _ w hn k => ⟨_, v_pickT rfl (k.eq1 10 17 rfl) (k.eq1 17 24 rfl), rfl⟩) ?_
    refine .o1 (tk rfl rfl fun _ w hn k => ⟨_, v_move rfl (k.eq1 18 25 rfl), rfl⟩) ?_
    refine .o1 (tg rfl rfl rfl (fun _ _ k => k.eq1 19 26 rfl) fun _ w hn k => ⟨_, v_load rfl (k.fx 2 h25) (l_two Tryd.isAgg23 Tryd.sizeOf23 (hb29.new_ hn)), rfl⟩) ?_
    refine .o1 (tg rfl rfl rfl (fun _ _ k => k.eq1 19 26 rfl) fun _ w hn k => ⟨_, v_load rfl (k.fx 3 h26) (l_two Tryd.isAgg23 Tryd.sizeOf23 (hb30.new_ hn)), rfl⟩) ?_
    refine .o1 (cg rfl rfl rfl (fun _ _ k => k.eq1 19 26 rfl) rfl (fun _ w hn k => ⟨#[nv a, nv b], args2 (k.eq1 20 27 rfl) (k.eq1 21 28 rfl), fun _ => by kernel_rfl, same_c a b _⟩) fun _ => congrArg Value.bool ht86) ?_
    refine .o1 (tg rfl rfl rfl (fun _ _ k => k.eq1 19 26 rfl) fun _ w hn k => ⟨_, v_load rfl (k.fx 2 h25) (l_two Tryd.isAgg23 Tryd.sizeOf23 (hb29.new_ hn)), rfl⟩) ?_
    refine .o1 (tg rfl rfl rfl (fun _ _ k => k.eq1 19 26 rfl) fun _ w hn k => ⟨_, v_load rfl (k.fx 3 h26) (l_two Tryd.isAgg23 Tryd.sizeOf23 (hb30.new_ hn)), rfl⟩) ?_
    refine .o1 (cg rfl rfl rfl (fun _ _ k => k.eq1 19 26 rfl) rfl (fun _ w hn k => ⟨#[nv a, nv b], args2 (k.eq1 23 30 rfl) (k.eq1 24 31 rfl), fun _ => by kernel_rfl, rsame_c a b _⟩) fun _ => congrArg Value.bool ht86) ?_
    refine .o1 (tg rfl rfl rfl (fun _ _ k => k.eq1 19 26 rfl) fun _ w hn k => ⟨_, v_bin rfl (k.eq1 22 29 rfl) (k.eq1 25 32 rfl) (fun _ => rfl) (fun w => by kernel_rfl), rfl⟩) ?_
    refine .o1 (tk rfl rfl fun _ w hn k => ⟨_, v_pickT rfl (k.eq1 19 26 rfl) (k.eq1 26 33 rfl), rfl⟩) ?_
    refine .o1 (tk rfl rfl fun _ w hn k => ⟨_, v_assign rfl (k.eq1 27 34 rfl), rfl⟩) ?_
    exact .nil
  intro a95 w96 hn97 ha98
  have hs99 := ha98.size.trans hs23
  have hd100 := ha98.defers.trans hd24
  have h101 := ha98.ge 28 4 rfl
  have hN102 := hN31.transNew hn97
  clear hs23 hd24 h25 h26 h27 h28 hb29 hq16 hb30 hq17 hN31 ha98 hn97
  refine st_nil ?_
  refine hK _ _ ?_
  clear hK K
  refine wp_ret (ret_k hd100 (v := .bool true) (res_t rfl h101 _) ?_)
  exact ⟨rfl, hN102⟩
end Go.Proofs.YtldakajmhfdfgaaDoor
