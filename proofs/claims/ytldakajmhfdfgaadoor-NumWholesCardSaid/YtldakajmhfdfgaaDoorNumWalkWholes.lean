/- NumWholes: the walk -/
import Derived.Test.YtldakajmhfdfgaaDoorNumF
import Derived.Test.YtldakajmhfdfgaaDoorNumMath5
namespace Go.Proofs.YtldakajmhfdfgaaDoor
open Go.RowKit
set_option linter.unusedSimpArgs false
set_option linter.unusedVariables false
set_option maxHeartbeats 8000000 in
set_option maxRecDepth 100000 in
theorem wholes_walk (a : Nm) (w : World) : Calls Tryd.prog 12 #[nv a] w (IsRet (.bool true) w) := by
  refine enter_abs Tryd.func12 rfl fun a0 hs0 hd0 hp => ?_
  have hs0 : a0.tmps.size = 67 := hs0
  have hN0 : New w w := Upd.refl _ _
  have hp0 : a0.eval (.tmp 0) = nv a := hp 0 _ rfl
  clear hp
  refine wp_seq_k fun K hK => ?_
  refine wp_g [true, true] [] [] 67
    [IsNew w 23 [iv a.k, iv a.n],
     ve (.bool false)]
    [0] (newsCons (fun v w h => IsNew.old h) newsNil) hs0 (.nw (.eq (.nil))) ?_ (fun i h => by cases h) ?_
  · skip
    refine .o2 (step_allocN (cs := [iv a.k, iv a.n]) (t := 23) rfl (noG rfl) (fun _ w hn k => v_box rfl (k.fx 0 hp0) (fun w => rfl)) (fun q _ hq hb => ⟨q, rfl, hq, hb⟩)) ?_
    refine .o1 (tk rfl rfl fun _ w hn k => ⟨_, v_assign rfl rfl, rfl⟩) ?_
    exact .nil
  intro a1 w2 hn3 ha4
  have hs5 := ha4.size.trans hs0
  have hd6 := ha4.defers.trans hd0
  obtain ⟨q8, h7, hq9, hb10⟩ : IsNew _ _ _ _ _ := ha4.got 0 1 rfl (by kernel_rfl)
  have h11 := ha4.ge 1 2 rfl
  have hq12 := Nat.le_trans hN0.size hq9
  have hN13 := hN0.transNew hn3
  clear hs0 hd0 hp0 hq9 hN0 ha4 hn3
  refine st_nil ?_
  refine hK _ _ ?_
  clear hK K
  refine wp_seq_k fun K hK => ?_
  refine wp_seq_k fun K hK => ?_
  refine wp_g0 [true, true] [] 67
    [ve (.bool true),
     ve (.bool false)] hs5 (.eq (.eq (.nil))) ?_ ?_
  · skip
    refine .o1 (ck rfl rfl rfl (fun _ w hn k => ⟨#[], rfl, fun _ => by kernel_rfl, first_c  _⟩) fun _ => rfl) ?_
    refine .o1 (tk rfl rfl fun _ w hn k => ⟨_, v_not rfl (k.eq1 0 6 rfl), rfl⟩) ?_
    exact .nil
  intro a14 w15 hn16 ha17
  have hs18 := ha17.size.trans hs5
  have hd19 := ha17.defers.trans hd6
  have h20 := ha17.fx 1 h7
  have h21 := ha17.fx 2 h11
  have h22 := ha17.ge 1 7 rfl
  have hb23 := hb10.new_ hn16
  have hN24 := hN13.transNew hn16
  clear hs5 hd6 h7 h11 hb10 hN13 ha17 hn16
  refine st_nil ?_
  refine hK _ _ ?_
  clear hK K
  refine wp_cond_false h22 ?_
  refine wp_skip ?_
  refine hK _ _ ?_
  clear hK K
  refine wp_seq_k fun K hK => ?_
  refine wp_g [true, true, true, false] [] [(3, false)] 67
    [ve (nv a),
     ve (nv (wholeM a)),
     IsNew w15 23 [iv 0, iv 0],
     vt]
    [2] (newsCons (fun v w h => IsNew.old h) newsNil) hs18 (.eq (.eq (.nw (.tt (.nil))))) ?_ (fun i h => by cases h) ?_
  · skip
    refine .o1 (tk rfl rfl fun _ w hn k => ⟨_, v_load rfl (k.fx 1 h20) (l_two Tryd.isAgg23 Tryd.sizeOf23 (hb23.new_ hn)), rfl⟩) ?_
    refine .o1 (ck rfl rfl rfl (fun _ w hn k => ⟨#[nv a], args1 (k.eq1 0 8 rfl), fun _ => by kernel_rfl, whole2_c a _⟩) fun _ => rfl) ?_
    refine .o2 (step_allocN (cs := [iv 0, iv 0]) (t := 23) rfl (noG rfl) (fun _ w hn k => rfl) (fun q _ hq hb => ⟨q, rfl, hq, hb⟩)) ?_
    refine .off ?_
    exact .nil
  intro a25 w26 hn27 ha28
  have hs29 := ha28.size.trans hs18
  have hd30 := ha28.defers.trans hd19
  have h31 := ha28.fx 1 h20
  have h32 := ha28.fx 2 h21
  have h33 := ha28.ge 1 9 rfl
  obtain ⟨q35, h34, hq36, hb37⟩ : IsNew _ _ _ _ _ := ha28.got 2 3 rfl (by kernel_rfl)
  have hb38 := hb23.new_ hn27
  have hne39 : q8 ≠ q35 := by have h1 := hb23.lt; have h2 := hq36; omega
  have hq40 := Nat.le_trans hN24.size hq36
  have hN41 := hN24.transNew hn27
  clear hs18 hd19 h20 h21 h22 hb23 hq36 hN24 ha28 hn27
  obtain ⟨w42, -, hst43, hb44, hu45, hf46⟩ := s_two (v0 := iv ((wholeM a).k)) (v1 := iv ((wholeM a).n)) Tryd.sizeOf23 rfl rfl rfl hb37
  refine st_act rfl rfl fun K47 hL48 => a_store' rfl h34 h33 hst43 (hL48 _ _ trivial ?_)
  have hb49 := hf46 _ _ _ (hne39) hb38
  have hN50 := hN41.trans hu45 (fun k hk hkb => by subst hkb; omega)
  clear hb37 hst43 K47 hL48 hN41 hb38 hu45 hf46
  clear hne39
  refine st_nil ?_
  clear h33
  refine hK _ _ ?_
  clear hK K
  refine wp_seq_k fun K hK => ?_
  refine wp_g0 [true, true, true, true, true, true, true] [] 67
    [ve (nv a),
     ve (.tuple #[iv ((indexM a).1), .bool ((indexM a).2)]),
     ve (.tuple #[iv ((indexM a).1), .bool ((indexM a).2)]),
     ve (iv ((indexM a).1)),
     ve (.bool ((indexM a).2)),
     ve (iv ((indexM a).1)),
     ve (.bool ((indexM a).2))] hs29 (.eq (.eq (.eq (.eq (.eq (.eq (.eq (.nil)))))))) ?_ ?_
  · skip
    refine .o1 (tk rfl rfl fun _ w hn k => ⟨_, v_load rfl (k.fx 1 h31) (l_two Tryd.isAgg23 Tryd.sizeOf23 (hb49.new_ hn)), rfl⟩) ?_
    refine .o1 (ck rfl rfl rfl (fun _ w hn k => ⟨#[nv a], args1 (k.eq1 0 11 rfl), fun _ => by kernel_rfl, index_c a _⟩) fun _ => rfl) ?_
    refine .o1 (tk rfl rfl fun _ w hn k => ⟨_, v_move rfl (k.eq1 1 12 rfl), rfl⟩) ?_
    refine .o1 (tk rfl rfl fun _ w hn k => ⟨_, v_extract rfl (k.eq1 2 10 rfl) rfl, rfl⟩) ?_
    refine .o1 (tk rfl rfl fun _ w hn k => ⟨_, v_extract rfl (k.eq1 2 10 rfl) rfl, rfl⟩) ?_
    refine .o1 (tk rfl rfl fun _ w hn k => ⟨_, v_assign rfl (k.eq1 3 13 rfl), rfl⟩) ?_
    refine .o1 (tk rfl rfl fun _ w hn k => ⟨_, v_assign rfl (k.eq1 4 14 rfl), rfl⟩) ?_
    exact .nil
  intro a51 w52 hn53 ha54
  have hs55 := ha54.size.trans hs29
  have hd56 := ha54.defers.trans hd30
  have h57 := ha54.fx 2 h32
  have h58 := ha54.fx 3 h34
  have h59 := ha54.ge 5 4 rfl
  have h60 := ha54.ge 6 5 rfl
  have hb61 := hb44.new_ hn53
  have hN62 := hN50.transNew hn53
  clear hs29 hd30 h31 h32 h34 hb49 hq12 hb44 hN50 ha54 hn53
  refine st_nil ?_
  refine hK _ _ ?_
  clear hK K
  refine wp_seq_k fun K hK => ?_
  refine wp_seq_k fun K hK => ?_
  have ht63 : (mayB (wholeM a)) = true := whole_may a
  have ht64 : (decide (((wholeM a).k) = 2)) = false := (whole_k a).1
  have ht64d := of_decide_eq_false ht64
  have ht65 : (decide (((wholeM a).k) = 1)) = false := (whole_k a).2
  have ht65d := of_decide_eq_false ht65
  have ht66 : (sameM (wholeM (wholeM a)) (wholeM a)) = true := whole_whole a
  refine wp_g0 [true, true, true, true, true, true, true, true, true, true, true, true, true, true, true, true, true, true, true, true] [] 67
    [ve (nv (wholeM a)),
     ve (.bool true),
     ve (.bool false),
     ve (.bool false),
     ve (pv q35),
     ve (iv ((wholeM a).k)),
     ve (.bool false),
     ve (.bool false),
     ve (.bool false),
     ve (pv q35),
     ve (iv ((wholeM a).k)),
     ve (.bool false),
     ve (.bool false),
     ve (.bool false),
     ve (nv (wholeM a)),
     ve (nv (wholeM (wholeM a))),
     ve (nv (wholeM a)),
     ve (.bool true),
     ve (.bool false),
     ve (.bool false)] hs55 (.eq (.eq (.eq (.eq (.eq (.eq (.eq (.eq (.eq (.eq (.eq (.eq (.eq (.eq (.eq (.eq (.eq (.eq (.eq (.eq (.nil))))))))))))))))))))) ?_ ?_
  · skip
    refine .o1 (tk rfl rfl fun _ w hn k => ⟨_, v_load rfl (k.fx 3 h58) (l_two Tryd.isAgg23 Tryd.sizeOf23 (hb61.new_ hn)), rfl⟩) ?_
    refine .o1 (ck rfl rfl rfl (fun _ w hn k => ⟨#[nv (wholeM a)], args1 (k.eq1 0 15 rfl), fun _ => by kernel_rfl, may_c (wholeM a) _⟩) fun _ => congrArg Value.bool ht63) ?_
    refine .o1 (tk rfl rfl fun _ w hn k => ⟨_, v_not rfl (k.eq1 1 16 rfl), rfl⟩) ?_
    refine .o1 (tk rfl rfl fun _ w hn k => ⟨_, v_move rfl (k.eq1 2 17 rfl), rfl⟩) ?_
    refine .o1 (tg rfl rfl rfl (fun _ _ k => k.eq1 3 18 rfl) fun _ w hn k => ⟨_, v_field rfl (k.fx 3 h58) (fun w => rfl), rfl⟩) ?_
    refine .o1 (tg rfl rfl rfl (fun _ _ k => k.eq1 3 18 rfl) fun _ w hn k => ⟨_, v_load rfl (k.eq1 4 19 rfl) (l_one Tryd.isAgg3 ((hb61.new_ hn).cell 0)), rfl⟩) ?_
    refine .o1 (tg rfl rfl rfl (fun _ _ k => k.eq1 3 18 rfl) fun _ w hn k => ⟨_, v_bin rfl (k.eq1 5 20 rfl) rfl (fun _ => rfl) (r_eql ht64), rfl⟩) ?_
    refine .o1 (tk rfl rfl fun _ w hn k => ⟨_, v_pickF rfl (k.eq1 3 18 rfl) (k.eq1 6 21 rfl), rfl⟩) ?_
    refine .o1 (tk rfl rfl fun _ w hn k => ⟨_, v_move rfl (k.eq1 7 22 rfl), rfl⟩) ?_
    refine .o1 (tg rfl rfl rfl (fun _ _ k => k.eq1 8 23 rfl) fun _ w hn k => ⟨_, v_field rfl (k.fx 3 h58) (fun w => rfl), rfl⟩) ?_
    refine .o1 (tg rfl rfl rfl (fun _ _ k => k.eq1 8 23 rfl) fun _ w hn k => ⟨_, v_load rfl (k.eq1 9 24 rfl) (l_one Tryd.isAgg3 ((hb61.new_ hn).cell 0)), rfl⟩) ?_
    refine .o1 (tg rfl rfl rfl (fun _ _ k => k.eq1 8 23 rfl) fun _ w hn k => ⟨_, v_bin rfl (k.eq1 10 25 rfl) rfl (fun _ => rfl) (r_eql ht65), rfl⟩) ?_
    refine .o1 (tk rfl rfl fun _ w hn k => ⟨_, v_pickF rfl (k.eq1 8 23 rfl) (k.eq1 11 26 rfl), rfl⟩) ?_
    refine .o1 (tk rfl rfl fun _ w hn k => ⟨_, v_move rfl (k.eq1 12 27 rfl), rfl⟩) ?_
    refine .o1 (tg rfl rfl rfl (fun _ _ k => k.eq1 13 28 rfl) fun _ w hn k => ⟨_, v_load rfl (k.fx 3 h58) (l_two Tryd.isAgg23 Tryd.sizeOf23 (hb61.new_ hn)), rfl⟩) ?_
    refine .o1 (cg rfl rfl rfl (fun _ _ k => k.eq1 13 28 rfl) rfl (fun _ w hn k => ⟨#[nv (wholeM a)], args1 (k.eq1 14 29 rfl), fun _ => by kernel_rfl, whole2_c (wholeM a) _⟩) fun _ => rfl) ?_
    refine .o1 (tg rfl rfl rfl (fun _ _ k => k.eq1 13 28 rfl) fun _ w hn k => ⟨_, v_load rfl (k.fx 3 h58) (l_two Tryd.isAgg23 Tryd.sizeOf23 (hb61.new_ hn)), rfl⟩) ?_
    refine .o1 (cg rfl rfl rfl (fun _ _ k => k.eq1 13 28 rfl) rfl (fun _ w hn k => ⟨#[nv (wholeM (wholeM a)), nv (wholeM a)], args2 (k.eq1 15 30 rfl) (k.eq1 16 31 rfl), fun _ => by kernel_rfl, same_c (wholeM (wholeM a)) (wholeM a) _⟩) fun _ => congrArg Value.bool ht66) ?_
    refine .o1 (tg rfl rfl rfl (fun _ _ k => k.eq1 13 28 rfl) fun _ w hn k => ⟨_, v_not rfl (k.eq1 17 32 rfl), rfl⟩) ?_
    refine .o1 (tk rfl rfl fun _ w hn k => ⟨_, v_pickF rfl (k.eq1 13 28 rfl) (k.eq1 18 33 rfl), rfl⟩) ?_
    exact .nil
  intro a67 w68 hn69 ha70
  have hs71 := ha70.size.trans hs55
  have hd72 := ha70.defers.trans hd56
  have h73 := ha70.fx 2 h57
  have h74 := ha70.fx 3 h58
  have h75 := ha70.fx 4 h59
  have h76 := ha70.fx 5 h60
  have h77 := ha70.ge 19 34 rfl
  have hb78 := hb61.new_ hn69
  have hN79 := hN62.transNew hn69
  clear hs55 hd56 h57 h58 h59 h60 hb61 hN62 ha70 hn69
  refine st_nil ?_
  refine hK _ _ ?_
  clear hK K
  refine wp_cond_false h77 ?_
  refine wp_skip ?_
  refine hK _ _ ?_
  clear hK K
  refine wp_seq_k fun K hK => ?_
  refine wp_seq_k fun K hK => ?_
  refine wp_g0 [true] [] 67
    [ve (.bool ((indexM a).2))] hs71 (.eq (.nil)) ?_ ?_
  · skip
    refine .o1 (tk rfl rfl fun _ w hn k => ⟨_, v_move rfl (k.fx 5 h76), rfl⟩) ?_
    exact .nil
  intro a80 w81 hn82 ha83
  have hs84 := ha83.size.trans hs71
  have hd85 := ha83.defers.trans hd72
  have h86 := ha83.fx 2 h73
  have h87 := ha83.fx 3 h74
  have h88 := ha83.fx 4 h75
  have h89 := ha83.ge 0 35 rfl
  have hb90 := hb78.new_ hn82
  have hN91 := hN79.transNew hn82
  clear hs71 hd72 h73 h74 h75 h76 h77 hb78 hN79 ha83 hn82
  refine st_nil ?_
  refine hK _ _ ?_
  clear hK K
  rcases Bool.eq_false_or_eq_true ((indexM a).2) with ht92 | ht92
  · skip
    have hv93 : a80.eval (.tmp 35) = .bool true := h89.trans (congrArg Value.bool ht92)
    clear h89
    refine wp_cond_true hv93 ?_
    refine wp_seq_k fun K hK => ?_
    have ht94 : (decide (((indexM a).1) < 0)) = false := (index_yes ht92).1
    have ht94d := of_decide_eq_false ht94
    have ht95 : (decide (((wholeM a).k) = 0)) = true := (index_yes ht92).2.1
    have ht95d := of_decide_eq_true ht95
    refine wp_g0 [true, true, true, true, true, true, true, true, true, true, true, true, true, true, true, true, true] [] 67
      [ve (.bool true),
       ve (.bool true),
       ve (iv ((indexM a).1)),
       ve (.bool true),
       ve (.bool true),
       ve (.bool true),
       ve (pv q35),
       ve (iv ((wholeM a).k)),
       ve (.bool true),
       ve (.bool true),
       ve (.bool true),
       ve (.pointer (some ⟨q35, 1, none⟩)),
       ve (iv ((wholeM a).n)),
       ve (iv ((indexM a).1)),
       ve (.bool (decide (((wholeM a).n) = ((indexM a).1)))),
       ve (.bool (decide (((wholeM a).n) = ((indexM a).1)))),
       ve (.bool (decide (((wholeM a).n) = ((indexM a).1))))] hs84 (.eq (.eq (.eq (.eq (.eq (.eq (.eq (.eq (.eq (.eq (.eq (.eq (.eq (.eq (.eq (.eq (.eq (.nil)))))))))))))))))) ?_ ?_
    · skip
      refine .o1 (ck rfl rfl rfl (fun _ w hn k => ⟨#[], rfl, fun _ => by kernel_rfl, first_c  _⟩) fun _ => rfl) ?_
      refine .o1 (tk rfl rfl fun _ w hn k => ⟨_, v_move rfl (k.eq1 0 36 rfl), rfl⟩) ?_
      refine .o1 (tg rfl rfl rfl (fun _ _ k => k.eq1 1 37 rfl) fun _ w hn k => ⟨_, v_move rfl (k.fx 4 h88), rfl⟩) ?_
      refine .o1 (tg rfl rfl rfl (fun _ _ k => k.eq1 1 37 rfl) fun _ w hn k => ⟨_, v_bin rfl (k.eq1 2 38 rfl) rfl (fun _ => rfl) (r_geqK ht94), rfl⟩) ?_
      refine .o1 (tk rfl rfl fun _ w hn k => ⟨_, v_pickT rfl (k.eq1 1 37 rfl) (k.eq1 3 39 rfl), rfl⟩) ?_
      refine .o1 (tk rfl rfl fun _ w hn k => ⟨_, v_move rfl (k.eq1 4 40 rfl), rfl⟩) ?_
      refine .o1 (tg rfl rfl rfl (fun _ _ k => k.eq1 5 41 rfl) fun _ w hn k => ⟨_, v_field rfl (k.fx 3 h87) (fun w => rfl), rfl⟩) ?_
      refine .o1 (tg rfl rfl rfl (fun _ _ k => k.eq1 5 41 rfl) fun _ w hn k => ⟨_, v_load rfl (k.eq1 6 42 rfl) (l_one Tryd.isAgg3 ((hb90.new_ hn).cell 0)), rfl⟩) ?_
      refine .o1 (tg rfl rfl rfl (fun _ _ k => k.eq1 5 41 rfl) fun _ w hn k => ⟨_, v_bin rfl (k.eq1 7 43 rfl) rfl (fun _ => rfl) (r_eql ht95), rfl⟩) ?_
      refine .o1 (tk rfl rfl fun _ w hn k => ⟨_, v_pickT rfl (k.eq1 5 41 rfl) (k.eq1 8 44 rfl), rfl⟩) ?_
      refine .o1 (tk rfl rfl fun _ w hn k => ⟨_, v_move rfl (k.eq1 9 45 rfl), rfl⟩) ?_
      refine .o1 (tg rfl rfl rfl (fun _ _ k => k.eq1 10 46 rfl) fun _ w hn k => ⟨_, v_field rfl (k.fx 3 h87) (fun w => rfl), rfl⟩) ?_
      refine .o1 (tg rfl rfl rfl (fun _ _ k => k.eq1 10 46 rfl) fun _ w hn k => ⟨_, v_load rfl (k.eq1 11 47 rfl) (l_one Tryd.isAgg3 ((hb90.new_ hn).cell 1)), rfl⟩) ?_
      refine .o1 (tg rfl rfl rfl (fun _ _ k => k.eq1 10 46 rfl) fun _ w hn k => ⟨_, v_move rfl (k.fx 4 h88), rfl⟩) ?_
      refine .o1 (tg rfl rfl rfl (fun _ _ k => k.eq1 10 46 rfl) fun _ w hn k => ⟨_, v_bin rfl (k.eq1 12 48 rfl) (k.eq1 13 49 rfl) (fun _ => rfl) (r_eql rfl), rfl⟩) ?_
      refine .o1 (tk rfl rfl fun _ w hn k => ⟨_, v_pickT rfl (k.eq1 10 46 rfl) (k.eq1 14 50 rfl), rfl⟩) ?_
      refine .o1 (tk rfl rfl fun _ w hn k => ⟨_, v_assign rfl (k.eq1 15 51 rfl), rfl⟩) ?_
      exact .nil
    intro a96 w97 hn98 ha99
    have hs100 := ha99.size.trans hs84
    have hd101 := ha99.defers.trans hd85
    have h102 := ha99.fx 3 h87
    have h103 := ha99.fx 4 h88
    have h104 := ha99.ge 16 2 rfl
    have hb105 := hb90.new_ hn98
    have hN106 := hN91.transNew hn98
    clear hs84 hd85 h86 h87 h88 hv93 hb90 hN91 ha99 hn98
    refine st_nil ?_
    refine hK _ _ ?_
    clear hK K
    refine wp_ret (ret_k hd101 (v := .bool (decide (((wholeM a).n) = ((indexM a).1)))) (res_t rfl h104 _) ?_)
    exact ⟨congrArg (fun b => Ending.returned (.bool b)) ((index_yes ht92).2.2), hN106⟩
  have hv107 : a80.eval (.tmp 35) = .bool false := h89.trans (congrArg Value.bool ht92)
  clear h89
  refine wp_cond_false hv107 ?_
  refine wp_skip ?_
  refine hK _ _ ?_
  clear hK K
  refine wp_seq_k fun K hK => ?_
  have ht108 : (decide (((indexM a).1) = 0)) = true := (index_no ht92).1
  have ht108d := of_decide_eq_true ht108
  rcases Bool.eq_false_or_eq_true (lessM (wholeM a) (Nm.mk 0 0)) with ht109 | ht109
  · skip
    refine wp_g0 [true, true, true, true, true, true, true, true, true, true, true, true, true, true, true, true] [] 67
      [ve (.bool true),
       ve (.bool true),
       ve (iv ((indexM a).1)),
       ve (.bool true),
       ve (.bool true),
       ve (.bool true),
       ve (nv (wholeM a)),
       ve (nv (Nm.mk 0 0)),
       ve (.bool true),
       ve (.bool true),
       ve undef,
       ve undef,
       ve undef,
       ve (.bool true),
       ve (.bool true),
       ve (.bool true)] hs84 (.eq (.eq (.eq (.eq (.eq (.eq (.eq (.eq (.eq (.eq (.eq (.eq (.eq (.eq (.eq (.eq (.nil))))))))))))))))) ?_ ?_
    · skip
      refine .o1 (ck rfl rfl rfl (fun _ w hn k => ⟨#[], rfl, fun _ => by kernel_rfl, first_c  _⟩) fun _ => rfl) ?_
      refine .o1 (tk rfl rfl fun _ w hn k => ⟨_, v_move rfl (k.eq1 0 52 rfl), rfl⟩) ?_
      refine .o1 (tg rfl rfl rfl (fun _ _ k => k.eq1 1 53 rfl) fun _ w hn k => ⟨_, v_move rfl (k.fx 4 h88), rfl⟩) ?_
      refine .o1 (tg rfl rfl rfl (fun _ _ k => k.eq1 1 53 rfl) fun _ w hn k => ⟨_, v_bin rfl (k.eq1 2 54 rfl) rfl (fun _ => rfl) (r_eql ht108), rfl⟩) ?_
      refine .o1 (tk rfl rfl fun _ w hn k => ⟨_, v_pickT rfl (k.eq1 1 53 rfl) (k.eq1 3 55 rfl), rfl⟩) ?_
      refine .o1 (tk rfl rfl fun _ w hn k => ⟨_, v_move rfl (k.eq1 4 56 rfl), rfl⟩) ?_
      refine .o1 (tg rfl rfl rfl (fun _ _ k => k.eq1 5 57 rfl) fun _ w hn k => ⟨_, v_load rfl (k.fx 3 h87) (l_two Tryd.isAgg23 Tryd.sizeOf23 (hb90.new_ hn)), rfl⟩) ?_
      refine .o1 (cg rfl rfl rfl (fun _ _ k => k.eq1 5 57 rfl) rfl (fun _ w hn k => ⟨#[iv 0], args1 rfl, fun _ => by kernel_rfl, w_c 0 _⟩) fun _ => rfl) ?_
      refine .o1 (cg rfl rfl rfl (fun _ _ k => k.eq1 5 57 rfl) rfl (fun _ w hn k => ⟨#[nv (wholeM a), nv (Nm.mk 0 0)], args2 (k.eq1 6 58 rfl) (k.eq1 7 59 rfl), fun _ => by kernel_rfl, less_c (wholeM a) (Nm.mk 0 0) _⟩) fun _ => congrArg Value.bool ht109) ?_
      refine .o1 (tg rfl rfl rfl (fun _ _ k => k.eq1 5 57 rfl) fun _ w hn k => ⟨_, v_move rfl (k.eq1 8 60 rfl), rfl⟩) ?_
      refine .o1 (sk rfl rfl rfl (fun _ _ _ k => k.eq1 9 61 rfl) (fun _ => rfl)) ?_
      refine .o1 (sk rfl rfl rfl (fun _ _ _ k => k.eq1 9 61 rfl) (fun _ => rfl)) ?_
      refine .o1 (sk rfl rfl rfl (fun _ _ _ k => k.eq1 9 61 rfl) (fun _ => rfl)) ?_
      refine .o1 (tg rfl rfl rfl (fun _ _ k => k.eq1 5 57 rfl) fun _ w hn k => ⟨_, v_pickT rfl (k.eq1 9 61 rfl) rfl, rfl⟩) ?_
      refine .o1 (tk rfl rfl fun _ w hn k => ⟨_, v_pickT rfl (k.eq1 5 57 rfl) (k.eq1 13 65 rfl), rfl⟩) ?_
      refine .o1 (tk rfl rfl fun _ w hn k => ⟨_, v_assign rfl (k.eq1 14 66 rfl), rfl⟩) ?_
      exact .nil
    intro a110 w111 hn112 ha113
    have hs114 := ha113.size.trans hs84
    have hd115 := ha113.defers.trans hd85
    have h116 := ha113.ge 15 2 rfl
    have hN117 := hN91.transNew hn112
    clear hs84 hd85 h86 h87 h88 hv107 hb90 hq40 hN91 ha113 hn112
    refine st_nil ?_
    refine hK _ _ ?_
    clear hK K
    refine wp_ret (ret_k hd115 (v := .bool true) (res_t rfl h116 _) ?_)
    exact ⟨rfl, hN117⟩
  refine wp_g0 [true, true, true, true, true, true, true, true, true, true, true, true, true, true, true, true] [] 67
    [ve (.bool true),
     ve (.bool true),
     ve (iv ((indexM a).1)),
     ve (.bool true),
     ve (.bool true),
     ve (.bool true),
     ve (nv (wholeM a)),
     ve (nv (Nm.mk 0 0)),
     ve (.bool false),
     ve (.bool false),
     ve (pv q35),
     ve (iv ((wholeM a).k)),
     ve (.bool (decide (((wholeM a).k) = 3))),
     ve (.bool (decide (((wholeM a).k) = 3))),
     ve (.bool (decide (((wholeM a).k) = 3))),
     ve (.bool (decide (((wholeM a).k) = 3)))] hs84 (.eq (.eq (.eq (.eq (.eq (.eq (.eq (.eq (.eq (.eq (.eq (.eq (.eq (.eq (.eq (.eq (.nil))))))))))))))))) ?_ ?_
  · skip
    refine .o1 (ck rfl rfl rfl (fun _ w hn k => ⟨#[], rfl, fun _ => by kernel_rfl, first_c  _⟩) fun _ => rfl) ?_
    refine .o1 (tk rfl rfl fun _ w hn k => ⟨_, v_move rfl (k.eq1 0 52 rfl), rfl⟩) ?_
    refine .o1 (tg rfl rfl rfl (fun _ _ k => k.eq1 1 53 rfl) fun _ w hn k => ⟨_, v_move rfl (k.fx 4 h88), rfl⟩) ?_
    refine .o1 (tg rfl rfl rfl (fun _ _ k => k.eq1 1 53 rfl) fun _ w hn k => ⟨_, v_bin rfl (k.eq1 2 54 rfl) rfl (fun _ => rfl) (r_eql ht108), rfl⟩) ?_
    refine .o1 (tk rfl rfl fun _ w hn k => ⟨_, v_pickT rfl (k.eq1 1 53 rfl) (k.eq1 3 55 rfl), rfl⟩) ?_
    refine .o1 (tk rfl rfl fun _ w hn k => ⟨_, v_move rfl (k.eq1 4 56 rfl), rfl⟩) ?_
    refine .o1 (tg rfl rfl rfl (fun _ _ k => k.eq1 5 57 rfl) fun _ w hn k => ⟨_, v_load rfl (k.fx 3 h87) (l_two Tryd.isAgg23 Tryd.sizeOf23 (hb90.new_ hn)), rfl⟩) ?_
    refine .o1 (cg rfl rfl rfl (fun _ _ k => k.eq1 5 57 rfl) rfl (fun _ w hn k => ⟨#[iv 0], args1 rfl, fun _ => by kernel_rfl, w_c 0 _⟩) fun _ => rfl) ?_
    refine .o1 (cg rfl rfl rfl (fun _ _ k => k.eq1 5 57 rfl) rfl (fun _ w hn k => ⟨#[nv (wholeM a), nv (Nm.mk 0 0)], args2 (k.eq1 6 58 rfl) (k.eq1 7 59 rfl), fun _ => by kernel_rfl, less_c (wholeM a) (Nm.mk 0 0) _⟩) fun _ => congrArg Value.bool ht109) ?_
    refine .o1 (tg rfl rfl rfl (fun _ _ k => k.eq1 5 57 rfl) fun _ w hn k => ⟨_, v_move rfl (k.eq1 8 60 rfl), rfl⟩) ?_
    refine .o1 (tg rfl rfl rfl (fun _ _ k => k.eq1 9 61 rfl) fun _ w hn k => ⟨_, v_field rfl (k.fx 3 h87) (fun w => rfl), rfl⟩) ?_
    refine .o1 (tg rfl rfl rfl (fun _ _ k => k.eq1 9 61 rfl) fun _ w hn k => ⟨_, v_load rfl (k.eq1 10 62 rfl) (l_one Tryd.isAgg3 ((hb90.new_ hn).cell 0)), rfl⟩) ?_
    refine .o1 (tg rfl rfl rfl (fun _ _ k => k.eq1 9 61 rfl) fun _ w hn k => ⟨_, v_bin rfl (k.eq1 11 63 rfl) rfl (fun _ => rfl) (r_eql rfl), rfl⟩) ?_
    refine .o1 (tg rfl rfl rfl (fun _ _ k => k.eq1 5 57 rfl) fun _ w hn k => ⟨_, v_pickF rfl (k.eq1 9 61 rfl) (k.eq1 12 64 rfl), rfl⟩) ?_
    refine .o1 (tk rfl rfl fun _ w hn k => ⟨_, v_pickT rfl (k.eq1 5 57 rfl) (k.eq1 13 65 rfl), rfl⟩) ?_
    refine .o1 (tk rfl rfl fun _ w hn k => ⟨_, v_assign rfl (k.eq1 14 66 rfl), rfl⟩) ?_
    exact .nil
  intro a118 w119 hn120 ha121
  have hs122 := ha121.size.trans hs84
  have hd123 := ha121.defers.trans hd85
  have h124 := ha121.ge 15 2 rfl
  have hN125 := hN91.transNew hn120
  clear hs84 hd85 h86 h87 h88 hv107 hb90 hq40 hN91 ha121 hn120
  refine st_nil ?_
  refine hK _ _ ?_
  clear hK K
  refine wp_ret (ret_k hd123 (v := .bool (decide (((wholeM a).k) = 3))) (res_t rfl h124 _) ?_)
  exact ⟨congrArg (fun b => Ending.returned (.bool b)) (((index_no ht92).2.resolve_left (by rw [ht109]; simp))), hN125⟩
end Go.Proofs.YtldakajmhfdfgaaDoor
