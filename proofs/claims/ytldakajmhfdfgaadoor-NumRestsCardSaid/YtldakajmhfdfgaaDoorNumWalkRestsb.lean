/- NumRests: the walk -/
import Derived.Test.YtldakajmhfdfgaaDoorNumWalkRestsa
namespace Go.Proofs.YtldakajmhfdfgaaDoor
open Go.RowKit
set_option linter.unusedSimpArgs false
set_option linter.unusedVariables false
set_option maxHeartbeats 8000000 in
set_option maxRecDepth 100000 in
theorem rests_walk3 (a : Nm) (b : Nm) (c : Nm) (w : World) (hy0 : mayB a = true) (hy1 : mayB b = true) (hy2 : decide ((a.k) = 0) = true) (hy3 : decide ((b.k) = 0) = false) : Calls Tryd.prog 9 #[nv a, nv b, nv c] w (IsRet (.bool true) w) := by
  refine enter_abs Tryd.func9 rfl fun a0 hs0 hd0 hp => ?_
  have hs0 : a0.tmps.size = 126 := hs0
  have hN0 : New w w := Upd.refl _ _
  have hp0 : a0.eval (.tmp 0) = nv a := hp 0 _ rfl
  have hp1 : a0.eval (.tmp 1) = nv b := hp 1 _ rfl
  have hp2 : a0.eval (.tmp 2) = nv c := hp 2 _ rfl
  clear hp
  refine wp_seq_k fun K hK => ?_
  refine wp_g [true, true, true, true] [] [] 126
    [IsNew w 23 [iv a.k, iv a.n],
     IsNew w 23 [iv b.k, iv b.n],
     IsNew w 23 [iv c.k, iv c.n],
     ve (.bool false)]
    [0, 1, 2] (newsCons (fun v w h => IsNew.old h) (newsCons (fun v w h => IsNew.old h) (newsCons (fun v w h => IsNew.old h) newsNil))) hs0 (.nw (.nw (.nw (.eq (.nil))))) ?_ (fun i h => by cases h) ?_
  · skip
    refine .o2 (step_allocN (cs := [iv a.k, iv a.n]) (t := 23) rfl (noG rfl) (fun _ w hn k => v_box rfl (k.fx 0 hp0) (fun w => rfl)) (fun q _ hq hb => ⟨q, rfl, hq, hb⟩)) ?_
    refine .o2 (step_allocN (cs := [iv b.k, iv b.n]) (t := 23) rfl (noG rfl) (fun _ w hn k => v_box rfl (k.fx 1 hp1) (fun w => rfl)) (fun q _ hq hb => ⟨q, rfl, hq, hb⟩)) ?_
    refine .o2 (step_allocN (cs := [iv c.k, iv c.n]) (t := 23) rfl (noG rfl) (fun _ w hn k => v_box rfl (k.fx 2 hp2) (fun w => rfl)) (fun q _ hq hb => ⟨q, rfl, hq, hb⟩)) ?_
    refine .o1 (tk rfl rfl fun _ w hn k => ⟨_, v_assign rfl rfl, rfl⟩) ?_
    exact .nil
  intro a1 w2 hn3 ha4
  have hs5 := ha4.size.trans hs0
  have hd6 := ha4.defers.trans hd0
  obtain ⟨q8, h7, hq9, hb10⟩ : IsNew _ _ _ _ _ := ha4.got 0 3 rfl (by kernel_rfl)
  obtain ⟨q12, h11, hq13, hb14⟩ : IsNew _ _ _ _ _ := ha4.got 1 4 rfl (by kernel_rfl)
  obtain ⟨q16, h15, hq17, hb18⟩ : IsNew _ _ _ _ _ := ha4.got 2 5 rfl (by kernel_rfl)
  have h19 := ha4.ge 3 6 rfl
  have hq20 := Nat.le_trans hN0.size hq9
  have hq21 := Nat.le_trans hN0.size hq13
  have hq22 := Nat.le_trans hN0.size hq17
  have hN23 := hN0.transNew hn3
  clear hs0 hd0 hp0 hp1 hp2 hq9 hq13 hq17 hN0 ha4 hn3
  refine st_nil ?_
  refine hK _ _ ?_
  clear hK K
  refine wp_seq_k fun K hK => ?_
  refine wp_seq_k fun K hK => ?_
  refine wp_g0 [true, true] [] 126
    [ve (.bool true),
     ve (.bool false)] hs5 (.eq (.eq (.nil))) ?_ ?_
  · skip
    refine .o1 (ck rfl rfl rfl (fun _ w hn k => ⟨#[], rfl, fun _ => by kernel_rfl, first_c  _⟩) fun _ => rfl) ?_
    refine .o1 (tk rfl rfl fun _ w hn k => ⟨_, v_not rfl (k.eq1 0 13 rfl), rfl⟩) ?_
    exact .nil
  intro a24 w25 hn26 ha27
  have hs28 := ha27.size.trans hs5
  have hd29 := ha27.defers.trans hd6
  have h30 := ha27.fx 3 h7
  have h31 := ha27.fx 4 h11
  have h32 := ha27.fx 5 h15
  have h33 := ha27.fx 6 h19
  have h34 := ha27.ge 1 14 rfl
  have hb35 := hb10.new_ hn26
  have hb36 := hb14.new_ hn26
  have hb37 := hb18.new_ hn26
  have hN38 := hN23.transNew hn26
  clear hs5 hd6 h7 h11 h15 h19 hb10 hb14 hb18 hN23 ha27 hn26
  refine st_nil ?_
  refine hK _ _ ?_
  clear hK K
  refine wp_cond_false h34 ?_
  refine wp_skip ?_
  refine hK _ _ ?_
  clear hK K
  refine wp_seq_k fun K hK => ?_
  refine wp_g [true, true, true, true, true, true, true, false, false] [5] [(7, false), (8, true)] 126
    [ve (nv a),
     ve (nv b),
     ve (.tuple #[nv ((divM a b).1), .bool ((divM a b).2)]),
     ve (.tuple #[nv ((divM a b).1), .bool ((divM a b).2)]),
     ve (nv ((divM a b).1)),
     ve (.bool ((divM a b).2)),
     IsNew w25 23 [iv 0, iv 0],
     vt,
     vt]
    [6] (newsCons (fun v w h => IsNew.old h) newsNil) hs28 (.eq (.eq (.eq (.eq (.eq (.eq (.nw (.tt (.tt (.nil)))))))))) ?_ ?_ ?_
  · skip
    refine .o1 (tk rfl rfl fun _ w hn k => ⟨_, v_load rfl (k.fx 3 h30) (l_two Tryd.isAgg23 Tryd.sizeOf23 (hb35.new_ hn)), rfl⟩) ?_
    refine .o1 (tk rfl rfl fun _ w hn k => ⟨_, v_load rfl (k.fx 4 h31) (l_two Tryd.isAgg23 Tryd.sizeOf23 (hb36.new_ hn)), rfl⟩) ?_
    refine .o1 (ck rfl rfl rfl (fun _ w hn k => ⟨#[nv a, nv b], args2 (k.eq1 0 16 rfl) (k.eq1 1 17 rfl), fun _ => by kernel_rfl, div_c a b _⟩) fun _ => rfl) ?_
    refine .o1 (tk rfl rfl fun _ w hn k => ⟨_, v_move rfl (k.eq1 2 18 rfl), rfl⟩) ?_
    refine .o1 (tk rfl rfl fun _ w hn k => ⟨_, v_extract rfl (k.eq1 3 15 rfl) rfl, rfl⟩) ?_
    refine .o3 ?_
    refine .o2 (step_allocN (cs := [iv 0, iv 0]) (t := 23) rfl (noG rfl) (fun _ w hn k => rfl) (fun q _ hq hb => ⟨q, rfl, hq, hb⟩)) ?_
    refine .off ?_
    refine .off ?_
    exact .nil
  · skip
    intro i h
    simp only [List.contains_eq_mem, List.mem_cons, List.not_mem_nil, or_false, decide_eq_true_eq] at h
    subst h
    · exact eager_take rfl rfl fun _ w hn k => ⟨.bool ((divM a b).2), fun w => v_extract rfl (k.eq1 3 15 rfl) rfl, rfl⟩
  intro a39 w40 hn41 ha42
  have hs43 := ha42.size.trans hs28
  have hd44 := ha42.defers.trans hd29
  have h45 := ha42.fx 3 h30
  have h46 := ha42.fx 4 h31
  have h47 := ha42.fx 5 h32
  have h48 := ha42.fx 6 h33
  have h49 := ha42.ge 4 19 rfl
  have h50 := ha42.ge 5 20 rfl
  obtain ⟨q52, h51, hq53, hb54⟩ : IsNew _ _ _ _ _ := ha42.got 6 7 rfl (by kernel_rfl)
  have hb55 := hb35.new_ hn41
  have hb56 := hb36.new_ hn41
  have hb57 := hb37.new_ hn41
  have hne58 : q8 ≠ q52 := by have h1 := hb35.lt; have h2 := hq53; omega
  have hne59 : q12 ≠ q52 := by have h1 := hb36.lt; have h2 := hq53; omega
  have hne60 : q16 ≠ q52 := by have h1 := hb37.lt; have h2 := hq53; omega
  have hq61 := Nat.le_trans hN38.size hq53
  have hN62 := hN38.transNew hn41
  clear hs28 hd29 h30 h31 h32 h33 h34 hb35 hb36 hb37 hq53 hN38 ha42 hn41
  obtain ⟨w63, -, hst64, hb65, hu66, hf67⟩ := s_two (v0 := iv ((divM a b).1.k)) (v1 := iv ((divM a b).1.n)) Tryd.sizeOf23 rfl rfl rfl hb54
  refine st_act rfl rfl fun K68 hL69 => a_store' rfl h51 h49 hst64 (hL69 _ _ trivial ?_)
  have hb70 := hf67 _ _ _ (hne58) hb55
  have hb71 := hf67 _ _ _ (hne59) hb56
  have hb72 := hf67 _ _ _ (hne60) hb57
  have hN73 := hN62.trans hu66 (fun k hk hkb => by subst hkb; omega)
  clear hb54 hst64 K68 hL69 hN62 hb55 hb56 hb57 hu66 hf67
  refine st_take rfl rfl (y_assign (v := .bool ((divM a b).2)) rfl h50) rfl ?_
  obtain ⟨a74, ha75⟩ : ∃ a', a' = a39.put (some 8) (.bool ((divM a b).2)) := ⟨_, rfl⟩
  have hs76 : a74.tmps.size = 126 := by rw [ha75, put_size]; exact hs43
  have hd77 : a74.defers = [] := by rw [ha75, put_defers]; exact hd44
  have h78 : a74.eval (.tmp 3) = pv q8 := by rw [ha75, put_ne _ _ _ _ (by decide)]; exact h45
  have h79 : a74.eval (.tmp 4) = pv q12 := by rw [ha75, put_ne _ _ _ _ (by decide)]; exact h46
  have h80 : a74.eval (.tmp 5) = pv q16 := by rw [ha75, put_ne _ _ _ _ (by decide)]; exact h47
  have h81 : a74.eval (.tmp 6) = .bool false := by rw [ha75, put_ne _ _ _ _ (by decide)]; exact h48
  have h82 : a74.eval (.tmp 19) = nv ((divM a b).1) := by rw [ha75, put_ne _ _ _ _ (by decide)]; exact h49
  have h83 : a74.eval (.tmp 20) = .bool ((divM a b).2) := by rw [ha75, put_ne _ _ _ _ (by decide)]; exact h50
  have h84 : a74.eval (.tmp 7) = pv q52 := by rw [ha75, put_ne _ _ _ _ (by decide)]; exact h51
  have h85 : a74.eval (.tmp 8) = .bool ((divM a b).2) := by rw [ha75]; exact put_same _ _ _ (by rw [hs43]; decide)
  show stepsTo _ _ _ _ _ (a39.put (some 8) (.bool ((divM a b).2))) _
  rw [← ha75]
  clear ha75 hs43 hd44 h45 h46 h47 h48 h49 h50 h51
  clear hne58
  clear hne59
  clear hne60
  refine st_nil ?_
  clear h82 h83
  refine hK _ _ ?_
  clear hK K
  refine wp_seq_k fun K hK => ?_
  have ht86 : (mayB a) = true := hy0
  have ht87 : (mayB b) = true := hy1
  have ht88 : (decide (a.k = 0)) = true := hy2
  have ht88d := of_decide_eq_true ht88
  have ht89 : (decide (b.k = 0)) = false := hy3
  have ht89d := of_decide_eq_false ht89
  refine wp_g0 [true, true, true, true, true, true, true, true, true, true, true, true, true, true, true, true, true, true, true, true, true, true] [] 126
    [ve (nv a),
     ve (.bool true),
     ve (.bool true),
     ve (nv b),
     ve (.bool true),
     ve (.bool true),
     ve (.bool true),
     ve (pv q8),
     ve (iv a.k),
     ve (.bool true),
     ve (.bool true),
     ve (.bool true),
     ve (pv q12),
     ve (iv b.k),
     ve (.bool false),
     ve (.bool false),
     ve (.bool false),
     ve undef,
     ve undef,
     ve undef,
     ve (.bool false),
     ve (.bool false)] hs76 (.eq (.eq (.eq (.eq (.eq (.eq (.eq (.eq (.eq (.eq (.eq (.eq (.eq (.eq (.eq (.eq (.eq (.eq (.eq (.eq (.eq (.eq (.nil))))))))))))))))))))))) ?_ ?_
  · skip
    refine .o1 (tk rfl rfl fun _ w hn k => ⟨_, v_load rfl (k.fx 3 h78) (l_two Tryd.isAgg23 Tryd.sizeOf23 (hb70.new_ hn)), rfl⟩) ?_
    refine .o1 (ck rfl rfl rfl (fun _ w hn k => ⟨#[nv a], args1 (k.eq1 0 21 rfl), fun _ => by kernel_rfl, may_c a _⟩) fun _ => congrArg Value.bool ht86) ?_
    refine .o1 (tk rfl rfl fun _ w hn k => ⟨_, v_move rfl (k.eq1 1 22 rfl), rfl⟩) ?_
    refine .o1 (tg rfl rfl rfl (fun _ _ k => k.eq1 2 23 rfl) fun _ w hn k => ⟨_, v_load rfl (k.fx 4 h79) (l_two Tryd.isAgg23 Tryd.sizeOf23 (hb71.new_ hn)), rfl⟩) ?_
    refine .o1 (cg rfl rfl rfl (fun _ _ k => k.eq1 2 23 rfl) rfl (fun _ w hn k => ⟨#[nv b], args1 (k.eq1 3 24 rfl), fun _ => by kernel_rfl, may_c b _⟩) fun _ => congrArg Value.bool ht87) ?_
    refine .o1 (tk rfl rfl fun _ w hn k => ⟨_, v_pickT rfl (k.eq1 2 23 rfl) (k.eq1 4 25 rfl), rfl⟩) ?_
    refine .o1 (tk rfl rfl fun _ w hn k => ⟨_, v_move rfl (k.eq1 5 26 rfl), rfl⟩) ?_
    refine .o1 (tg rfl rfl rfl (fun _ _ k => k.eq1 6 27 rfl) fun _ w hn k => ⟨_, v_field rfl (k.fx 3 h78) (fun w => rfl), rfl⟩) ?_
    refine .o1 (tg rfl rfl rfl (fun _ _ k => k.eq1 6 27 rfl) fun _ w hn k => ⟨_, v_load rfl (k.eq1 7 28 rfl) (l_one Tryd.isAgg3 ((hb70.new_ hn).cell 0)), rfl⟩) ?_
    refine .o1 (tg rfl rfl rfl (fun _ _ k => k.eq1 6 27 rfl) fun _ w hn k => ⟨_, v_bin rfl (k.eq1 8 29 rfl) rfl (fun _ => rfl) (r_eql ht88), rfl⟩) ?_
    refine .o1 (tk rfl rfl fun _ w hn k => ⟨_, v_pickT rfl (k.eq1 6 27 rfl) (k.eq1 9 30 rfl), rfl⟩) ?_
    refine .o1 (tk rfl rfl fun _ w hn k => ⟨_, v_move rfl (k.eq1 10 31 rfl), rfl⟩) ?_
    refine .o1 (tg rfl rfl rfl (fun _ _ k => k.eq1 11 32 rfl) fun _ w hn k => ⟨_, v_field rfl (k.fx 4 h79) (fun w => rfl), rfl⟩) ?_
    refine .o1 (tg rfl rfl rfl (fun _ _ k => k.eq1 11 32 rfl) fun _ w hn k => ⟨_, v_load rfl (k.eq1 12 33 rfl) (l_one Tryd.isAgg3 ((hb71.new_ hn).cell 0)), rfl⟩) ?_
    refine .o1 (tg rfl rfl rfl (fun _ _ k => k.eq1 11 32 rfl) fun _ w hn k => ⟨_, v_bin rfl (k.eq1 13 34 rfl) rfl (fun _ => rfl) (r_eql ht89), rfl⟩) ?_
    refine .o1 (tk rfl rfl fun _ w hn k => ⟨_, v_pickT rfl (k.eq1 11 32 rfl) (k.eq1 14 35 rfl), rfl⟩) ?_
    refine .o1 (tk rfl rfl fun _ w hn k => ⟨_, v_move rfl (k.eq1 15 36 rfl), rfl⟩) ?_
    refine .o1 (sk rfl rfl rfl (fun _ _ _ k => k.eq1 16 37 rfl) (fun _ => rfl)) ?_
    refine .o1 (sk rfl rfl rfl (fun _ _ _ k => k.eq1 16 37 rfl) (fun _ => rfl)) ?_
    refine .o1 (sk rfl rfl rfl (fun _ _ _ k => k.eq1 16 37 rfl) (fun _ => rfl)) ?_
    refine .o1 (tk rfl rfl fun _ w hn k => ⟨_, v_pickF rfl (k.eq1 16 37 rfl) rfl, rfl⟩) ?_
    refine .o1 (tk rfl rfl fun _ w hn k => ⟨_, v_assign rfl (k.eq1 20 41 rfl), rfl⟩) ?_
    exact .nil
  intro a90 w91 hn92 ha93
  have hs94 := ha93.size.trans hs76
  have hd95 := ha93.defers.trans hd77
  have h96 := ha93.fx 3 h78
  have h97 := ha93.fx 4 h79
  have h98 := ha93.fx 5 h80
  have h99 := ha93.fx 6 h81
  have h100 := ha93.fx 7 h84
  have h101 := ha93.fx 8 h85
  have h102 := ha93.ge 21 9 rfl
  have hb103 := hb70.new_ hn92
  have hb104 := hb71.new_ hn92
  have hb105 := hb72.new_ hn92
  have hb106 := hb65.new_ hn92
  have hN107 := hN73.transNew hn92
  clear hs76 hd77 h78 h79 h80 h81 h84 h85 hb70 hb71 hb72 hb65 hN73 ha93 hn92
  refine st_nil ?_
  refine hK _ _ ?_
  clear hK K
  refine wp_seq_k fun K hK => ?_
  refine wp_seq_k fun K hK => ?_
  rcases Bool.eq_false_or_eq_true ((divM a b).2) with ht108 | ht108
  · skip
    have hv109 : a90.eval (.tmp 8) = .bool true := h101.trans (congrArg Value.bool ht108)
    clear h101
    refine wp_g0 [true, true, true, true] [] 126
      [ve (.bool true),
       ve (.bool true),
       ve (.bool false),
       ve (.bool false)] hs94 (.eq (.eq (.eq (.eq (.nil))))) ?_ ?_
    · skip
      refine .o1 (tk rfl rfl fun _ w hn k => ⟨_, v_move rfl (k.fx 8 hv109), rfl⟩) ?_
      refine .o1 (tk rfl rfl fun _ w hn k => ⟨_, v_move rfl (k.eq1 0 42 rfl), rfl⟩) ?_
      refine .o1 (tg rfl rfl rfl (fun _ _ k => k.eq1 1 43 rfl) fun _ w hn k => ⟨_, v_move rfl (k.fx 9 h102), rfl⟩) ?_
      refine .o1 (tk rfl rfl fun _ w hn k => ⟨_, v_pickT rfl (k.eq1 1 43 rfl) (k.eq1 2 44 rfl), rfl⟩) ?_
      exact .nil
    intro a110 w111 hn112 ha113
    have hs114 := ha113.size.trans hs94
    have hd115 := ha113.defers.trans hd95
    have h116 := ha113.fx 3 h96
    have h117 := ha113.fx 4 h97
    have h118 := ha113.fx 5 h98
    have h119 := ha113.fx 6 h99
    have h120 := ha113.fx 7 h100
    have h121 := ha113.fx 8 hv109
    have h122 := ha113.fx 9 h102
    have h123 := ha113.ge 3 45 rfl
    have hb124 := hb103.new_ hn112
    have hb125 := hb104.new_ hn112
    have hb126 := hb105.new_ hn112
    have hb127 := hb106.new_ hn112
    have hN128 := hN107.transNew hn112
    clear hs94 hd95 h96 h97 h98 h99 h100 hv109 h102 hb103 hb104 hb105 hb106 hN107 ha113 hn112
    refine st_nil ?_
    refine hK _ _ ?_
    clear hK K
    refine wp_cond_false h123 ?_
    refine wp_skip ?_
    refine hK _ _ ?_
    clear hK K
    refine wp_seq_k fun K hK => ?_
    refine wp_g [true, true, true, true, false] [] [(4, false)] 126
      [ve (nv a),
       ve (nv b),
       ve (nv (remM a b)),
       IsNew w111 23 [iv 0, iv 0],
       vt]
      [3] (newsCons (fun v w h => IsNew.old h) newsNil) hs114 (.eq (.eq (.eq (.nw (.tt (.nil)))))) ?_ (fun i h => by cases h) ?_
    · skip
      refine .o1 (tk rfl rfl fun _ w hn k => ⟨_, v_load rfl (k.fx 3 h116) (l_two Tryd.isAgg23 Tryd.sizeOf23 (hb124.new_ hn)), rfl⟩) ?_
      refine .o1 (tk rfl rfl fun _ w hn k => ⟨_, v_load rfl (k.fx 4 h117) (l_two Tryd.isAgg23 Tryd.sizeOf23 (hb125.new_ hn)), rfl⟩) ?_
      refine .o1 (ck rfl rfl rfl (fun _ w hn k => ⟨#[nv a, nv b], args2 (k.eq1 0 60 rfl) (k.eq1 1 61 rfl), fun _ => by kernel_rfl, rem_c a b _⟩) fun _ => rfl) ?_
      refine .o2 (step_allocN (cs := [iv 0, iv 0]) (t := 23) rfl (noG rfl) (fun _ w hn k => rfl) (fun q _ hq hb => ⟨q, rfl, hq, hb⟩)) ?_
      refine .off ?_
      exact .nil
    intro a129 w130 hn131 ha132
    have hs133 := ha132.size.trans hs114
    have hd134 := ha132.defers.trans hd115
    have h135 := ha132.fx 3 h116
    have h136 := ha132.fx 4 h117
    have h137 := ha132.fx 5 h118
    have h138 := ha132.fx 6 h119
    have h139 := ha132.fx 8 h121
    have h140 := ha132.fx 9 h122
    have h141 := ha132.ge 2 62 rfl
    obtain ⟨q143, h142, hq144, hb145⟩ : IsNew _ _ _ _ _ := ha132.got 3 12 rfl (by kernel_rfl)
    have hb146 := hb124.new_ hn131
    have hb147 := hb125.new_ hn131
    have hb148 := hb126.new_ hn131
    have hne149 : q8 ≠ q143 := by have h1 := hb124.lt; have h2 := hq144; omega
    have hne150 : q12 ≠ q143 := by have h1 := hb125.lt; have h2 := hq144; omega
    have hne151 : q16 ≠ q143 := by have h1 := hb126.lt; have h2 := hq144; omega
    have hq152 := Nat.le_trans hN128.size hq144
    have hN153 := hN128.transNew hn131
    clear hs114 hd115 h116 h117 h118 h119 h120 h121 h122 h123 hb124 hb125 hb126 hb127 hq61 hq144 hN128 ha132 hn131
    obtain ⟨w154, -, hst155, hb156, hu157, hf158⟩ := s_two (v0 := iv ((remM a b).k)) (v1 := iv ((remM a b).n)) Tryd.sizeOf23 rfl rfl rfl hb145
    refine st_act rfl rfl fun K159 hL160 => a_store' rfl h142 h141 hst155 (hL160 _ _ trivial ?_)
    have hb161 := hf158 _ _ _ (hne149) hb146
    have hb162 := hf158 _ _ _ (hne150) hb147
    have hb163 := hf158 _ _ _ (hne151) hb148
    have hN164 := hN153.trans hu157 (fun k hk hkb => by subst hkb; omega)
    clear hb145 hst155 K159 hL160 hN153 hb146 hb147 hb148 hu157 hf158
    clear hne149
    clear hne150
    clear hne151
    refine st_nil ?_
    clear h141
    refine hK _ _ ?_
    clear hK K
    refine wp_seq_k fun K hK => ?_
    refine wp_seq_k fun K hK => ?_
    refine wp_g0 [true, true, true, true, true, true, true, true, true, true, true, true, true, true, true, true, true, true, true, true, true, true, true] [] 126
      [ve (.bool false),
       ve (.bool false),
       ve undef,
       ve undef,
       ve undef,
       ve undef,
       ve undef,
       ve undef,
       ve undef,
       ve undef,
       ve undef,
       ve undef,
       ve undef,
       ve undef,
       ve undef,
       ve undef,
       ve undef,
       ve undef,
       ve undef,
       ve undef,
       ve undef,
       ve undef,
       ve (.bool false)] hs133 (.eq (.eq (.eq (.eq (.eq (.eq (.eq (.eq (.eq (.eq (.eq (.eq (.eq (.eq (.eq (.eq (.eq (.eq (.eq (.eq (.eq (.eq (.eq (.nil)))))))))))))))))))))))) ?_ ?_
    · skip
      refine .o1 (tk rfl rfl fun _ w hn k => ⟨_, v_move rfl (k.fx 9 h140), rfl⟩) ?_
      refine .o1 (tk rfl rfl fun _ w hn k => ⟨_, v_move rfl (k.eq1 0 63 rfl), rfl⟩) ?_
      refine .o1 (sk rfl rfl rfl (fun _ _ _ k => k.eq1 1 64 rfl) (fun _ => rfl)) ?_
      refine .o1 (sk rfl rfl rfl (fun _ _ _ k => k.eq1 1 64 rfl) (fun _ => rfl)) ?_
      refine .o1 (sk rfl rfl rfl (fun _ _ _ k => k.eq1 1 64 rfl) (fun _ => rfl)) ?_
      refine .o1 (sk rfl rfl rfl (fun _ _ _ k => k.eq1 1 64 rfl) (fun _ => rfl)) ?_
      refine .o1 (sk rfl rfl rfl (fun _ _ _ k => k.eq1 1 64 rfl) (fun _ => rfl)) ?_
      refine .o1 (sk rfl rfl rfl (fun _ _ _ k => k.eq1 1 64 rfl) (fun _ => rfl)) ?_
      refine .o1 (sk rfl rfl rfl (fun _ _ _ k => k.eq1 1 64 rfl) (fun _ => rfl)) ?_
      refine .o1 (sk rfl rfl rfl (fun _ _ _ k => k.eq1 1 64 rfl) (fun _ => rfl)) ?_
      refine .o1 (sk rfl rfl rfl (fun _ _ _ k => k.eq1 1 64 rfl) (fun _ => rfl)) ?_
      refine .o1 (sk rfl rfl rfl (fun _ _ _ k => k.eq1 1 64 rfl) (fun _ => rfl)) ?_
      refine .o1 (sk rfl rfl rfl (fun _ _ _ k => k.eq1 1 64 rfl) (fun _ => rfl)) ?_
      refine .o1 (sk rfl rfl rfl (fun _ _ _ k => k.eq1 1 64 rfl) (fun _ => rfl)) ?_
      refine .o1 (sk rfl rfl rfl (fun _ _ _ k => k.eq1 1 64 rfl) (fun _ => rfl)) ?_
      refine .o1 (sk rfl rfl rfl (fun _ _ _ k => k.eq1 1 64 rfl) (fun _ => rfl)) ?_
      refine .o1 (su rfl rfl rfl (fun _ _ _ k => k.eq1 15 78 rfl) (fun _ => rfl)) ?_
      refine .o1 (su rfl rfl rfl (fun _ _ _ k => k.eq1 15 78 rfl) (fun _ => rfl)) ?_
      refine .o1 (su rfl rfl rfl (fun _ _ _ k => k.eq1 15 78 rfl) (fun _ => rfl)) ?_
      refine .o1 (su rfl rfl rfl (fun _ _ _ k => k.eq1 15 78 rfl) (fun _ => rfl)) ?_
      refine .o1 (su rfl rfl rfl (fun _ _ _ k => k.eq1 15 78 rfl) (fun _ => rfl)) ?_
      refine .o1 (sk rfl rfl rfl (fun _ _ _ k => k.eq1 1 64 rfl) (fun _ => rfl)) ?_
      refine .o1 (tk rfl rfl fun _ w hn k => ⟨_, v_pickF rfl (k.eq1 1 64 rfl) rfl, rfl⟩) ?_
      exact .nil
    intro a165 w166 hn167 ha168
    have hs169 := ha168.size.trans hs133
    have hd170 := ha168.defers.trans hd134
    have h171 := ha168.fx 3 h135
    have h172 := ha168.fx 4 h136
    have h173 := ha168.fx 5 h137
    have h174 := ha168.fx 6 h138
    have h175 := ha168.ge 22 85 rfl
    have hb176 := hb161.new_ hn167
    have hb177 := hb162.new_ hn167
    have hb178 := hb163.new_ hn167
    have hN179 := hN164.transNew hn167
    clear hs133 hd134 h135 h136 h137 h138 h139 h140 h142 hb161 hb162 hb163 hb156 hq152 hN164 ha168 hn167
    refine st_nil ?_
    refine hK _ _ ?_
    clear hK K
    refine wp_cond_false h175 ?_
    refine wp_skip ?_
    refine hK _ _ ?_
    clear hK K
    refine wp_seq_k fun K hK => ?_
    rcases Bool.eq_false_or_eq_true (lessM a b) with ht180 | ht180
    · skip
      rcases Bool.eq_false_or_eq_true (lessM b c) with ht181 | ht181
      · skip
        have ht182 : (lessM a c) = true := less_trans ht180 ht181
        have ht183 : (lessM b a) = false := less_asymm ht180
        have ht184 : (equalM a b) = false := less_ne ht180
        refine wp_g0 [true, true, true, true, true, true, true, true, true, true, true, true, true, true, true, true, true, true, true, true, true, true, true, true, true, true, true, true, true, true, true, true, true, true, true, true, true, true, true, true, true] [] 126
          [ve (.bool true),
           ve (.bool true),
           ve (nv a),
           ve (nv b),
           ve (.bool true),
           ve (.bool false),
           ve (.bool false),
           ve (nv b),
           ve (nv c),
           ve (.bool true),
           ve (.bool false),
           ve (.bool false),
           ve (.bool false),
           ve (nv a),
           ve (nv c),
           ve (.bool true),
           ve (.bool true),
           ve (.bool true),
           ve (.bool true),
           ve (nv a),
           ve (nv b),
           ve (.bool true),
           ve (.bool true),
           ve (nv b),
           ve (nv a),
           ve (.bool false),
           ve (.bool false),
           ve (.bool true),
           ve (.bool true),
           ve (.bool true),
           ve (nv a),
           ve (nv b),
           ve (.bool true),
           ve (.bool true),
           ve (nv a),
           ve (nv b),
           ve (.bool false),
           ve (.bool false),
           ve (.bool true),
           ve (.bool true),
           ve (.bool true)] hs169 (.eq (.eq (.eq (.eq (.eq (.eq (.eq (.eq (.eq (.eq (.eq (.eq (.eq (.eq (.eq (.eq (.eq (.eq (.eq (.eq (.eq (.eq (.eq (.eq (.eq (.eq (.eq (.eq (.eq (.eq (.eq (.eq (.eq (.eq (.eq (.eq (.eq (.eq (.eq (.eq (.eq (.nil)))))))))))))))))))))))))))))))))))))))))) ?_ ?_
        · skip
          refine .o1 (ck rfl rfl rfl (fun _ w hn k => ⟨#[], rfl, fun _ => by kernel_rfl, first_c  _⟩) fun _ => rfl) ?_
          refine .o1 (tk rfl rfl fun _ w hn k => ⟨_, v_move rfl (k.eq1 0 86 rfl), rfl⟩) ?_
          refine .o1 (tg rfl rfl rfl (fun _ _ k => k.eq1 1 87 rfl) fun _ w hn k => ⟨_, v_load rfl (k.fx 3 h171) (l_two Tryd.isAgg23 Tryd.sizeOf23 (hb176.new_ hn)), rfl⟩) ?_
          refine .o1 (tg rfl rfl rfl (fun _ _ k => k.eq1 1 87 rfl) fun _ w hn k => ⟨_, v_load rfl (k.fx 4 h172) (l_two Tryd.isAgg23 Tryd.sizeOf23 (hb177.new_ hn)), rfl⟩) ?_
          refine .o1 (cg rfl rfl rfl (fun _ _ k => k.eq1 1 87 rfl) rfl (fun _ w hn k => ⟨#[nv a, nv b], args2 (k.eq1 2 88 rfl) (k.eq1 3 89 rfl), fun _ => by kernel_rfl, less_c a b _⟩) fun _ => congrArg Value.bool ht180) ?_
          refine .o1 (tg rfl rfl rfl (fun _ _ k => k.eq1 1 87 rfl) fun _ w hn k => ⟨_, v_not rfl (k.eq1 4 90 rfl), rfl⟩) ?_
          refine .o1 (tg rfl rfl rfl (fun _ _ k => k.eq1 1 87 rfl) fun _ w hn k => ⟨_, v_move rfl (k.eq1 5 91 rfl), rfl⟩) ?_
          refine .o1 (tg rfl rfl rfl (fun _ _ k => k.eq1 6 92 rfl) fun _ w hn k => ⟨_, v_load rfl (k.fx 4 h172) (l_two Tryd.isAgg23 Tryd.sizeOf23 (hb177.new_ hn)), rfl⟩) ?_
          refine .o1 (tg rfl rfl rfl (fun _ _ k => k.eq1 6 92 rfl) fun _ w hn k => ⟨_, v_load rfl (k.fx 5 h173) (l_two Tryd.isAgg23 Tryd.sizeOf23 (hb178.new_ hn)), rfl⟩) ?_
          refine .o1 (cg rfl rfl rfl (fun _ _ k => k.eq1 6 92 rfl) rfl (fun _ w hn k => ⟨#[nv b, nv c], args2 (k.eq1 7 93 rfl) (k.eq1 8 94 rfl), fun _ => by kernel_rfl, less_c b c _⟩) fun _ => congrArg Value.bool ht181) ?_
          refine .o1 (tg rfl rfl rfl (fun _ _ k => k.eq1 6 92 rfl) fun _ w hn k => ⟨_, v_not rfl (k.eq1 9 95 rfl), rfl⟩) ?_
          refine .o1 (tg rfl rfl rfl (fun _ _ k => k.eq1 1 87 rfl) fun _ w hn k => ⟨_, v_pickF rfl (k.eq1 6 92 rfl) (k.eq1 10 96 rfl), rfl⟩) ?_
          refine .o1 (tg rfl rfl rfl (fun _ _ k => k.eq1 1 87 rfl) fun _ w hn k => ⟨_, v_move rfl (k.eq1 11 97 rfl), rfl⟩) ?_
          refine .o1 (tg rfl rfl rfl (fun _ _ k => k.eq1 12 98 rfl) fun _ w hn k => ⟨_, v_load rfl (k.fx 3 h171) (l_two Tryd.isAgg23 Tryd.sizeOf23 (hb176.new_ hn)), rfl⟩) ?_
          refine .o1 (tg rfl rfl rfl (fun _ _ k => k.eq1 12 98 rfl) fun _ w hn k => ⟨_, v_load rfl (k.fx 5 h173) (l_two Tryd.isAgg23 Tryd.sizeOf23 (hb178.new_ hn)), rfl⟩) ?_
          refine .o1 (cg rfl rfl rfl (fun _ _ k => k.eq1 12 98 rfl) rfl (fun _ w hn k => ⟨#[nv a, nv c], args2 (k.eq1 13 99 rfl) (k.eq1 14 100 rfl), fun _ => by kernel_rfl, less_c a c _⟩) fun _ => congrArg Value.bool ht182) ?_
          refine .o1 (tg rfl rfl rfl (fun _ _ k => k.eq1 1 87 rfl) fun _ w hn k => ⟨_, v_pickF rfl (k.eq1 12 98 rfl) (k.eq1 15 101 rfl), rfl⟩) ?_
          refine .o1 (tk rfl rfl fun _ w hn k => ⟨_, v_pickT rfl (k.eq1 1 87 rfl) (k.eq1 16 102 rfl), rfl⟩) ?_
          refine .o1 (tk rfl rfl fun _ w hn k => ⟨_, v_move rfl (k.eq1 17 103 rfl), rfl⟩) ?_
          refine .o1 (tg rfl rfl rfl (fun _ _ k => k.eq1 18 104 rfl) fun _ w hn k => ⟨_, v_load rfl (k.fx 3 h171) (l_two Tryd.isAgg23 Tryd.sizeOf23 (hb176.new_ hn)), rfl⟩) ?_
          refine .o1 (tg rfl rfl rfl (fun _ _ k => k.eq1 18 104 rfl) fun _ w hn k => ⟨_, v_load rfl (k.fx 4 h172) (l_two Tryd.isAgg23 Tryd.sizeOf23 (hb177.new_ hn)), rfl⟩) ?_
          refine .o1 (cg rfl rfl rfl (fun _ _ k => k.eq1 18 104 rfl) rfl (fun _ w hn k => ⟨#[nv a, nv b], args2 (k.eq1 19 105 rfl) (k.eq1 20 106 rfl), fun _ => by kernel_rfl, less_c a b _⟩) fun _ => congrArg Value.bool ht180) ?_
          refine .o1 (tg rfl rfl rfl (fun _ _ k => k.eq1 18 104 rfl) fun _ w hn k => ⟨_, v_move rfl (k.eq1 21 107 rfl), rfl⟩) ?_
          refine .o1 (tg rfl rfl rfl (fun _ _ k => k.eq1 22 108 rfl) fun _ w hn k => ⟨_, v_load rfl (k.fx 4 h172) (l_two Tryd.isAgg23 Tryd.sizeOf23 (hb177.new_ hn)), rfl⟩) ?_
          refine .o1 (tg rfl rfl rfl (fun _ _ k => k.eq1 22 108 rfl) fun _ w hn k => ⟨_, v_load rfl (k.fx 3 h171) (l_two Tryd.isAgg23 Tryd.sizeOf23 (hb176.new_ hn)), rfl⟩) ?_
          refine .o1 (cg rfl rfl rfl (fun _ _ k => k.eq1 22 108 rfl) rfl (fun _ w hn k => ⟨#[nv b, nv a], args2 (k.eq1 23 109 rfl) (k.eq1 24 110 rfl), fun _ => by kernel_rfl, less_c b a _⟩) fun _ => congrArg Value.bool ht183) ?_
          refine .o1 (tg rfl rfl rfl (fun _ _ k => k.eq1 18 104 rfl) fun _ w hn k => ⟨_, v_pickT rfl (k.eq1 22 108 rfl) (k.eq1 25 111 rfl), rfl⟩) ?_
          refine .o1 (tg rfl rfl rfl (fun _ _ k => k.eq1 18 104 rfl) fun _ w hn k => ⟨_, v_not rfl (k.eq1 26 112 rfl), rfl⟩) ?_
          refine .o1 (tk rfl rfl fun _ w hn k => ⟨_, v_pickT rfl (k.eq1 18 104 rfl) (k.eq1 27 113 rfl), rfl⟩) ?_
          refine .o1 (tk rfl rfl fun _ w hn k => ⟨_, v_move rfl (k.eq1 28 114 rfl), rfl⟩) ?_
          refine .o1 (tg rfl rfl rfl (fun _ _ k => k.eq1 29 115 rfl) fun _ w hn k => ⟨_, v_load rfl (k.fx 3 h171) (l_two Tryd.isAgg23 Tryd.sizeOf23 (hb176.new_ hn)), rfl⟩) ?_
          refine .o1 (tg rfl rfl rfl (fun _ _ k => k.eq1 29 115 rfl) fun _ w hn k => ⟨_, v_load rfl (k.fx 4 h172) (l_two Tryd.isAgg23 Tryd.sizeOf23 (hb177.new_ hn)), rfl⟩) ?_
          refine .o1 (cg rfl rfl rfl (fun _ _ k => k.eq1 29 115 rfl) rfl (fun _ w hn k => ⟨#[nv a, nv b], args2 (k.eq1 30 116 rfl) (k.eq1 31 117 rfl), fun _ => by kernel_rfl, less_c a b _⟩) fun _ => congrArg Value.bool ht180) ?_
          refine .o1 (tg rfl rfl rfl (fun _ _ k => k.eq1 29 115 rfl) fun _ w hn k => ⟨_, v_move rfl (k.eq1 32 118 rfl), rfl⟩) ?_
          refine .o1 (tg rfl rfl rfl (fun _ _ k => k.eq1 33 119 rfl) fun _ w hn k => ⟨_, v_load rfl (k.fx 3 h171) (l_two Tryd.isAgg23 Tryd.sizeOf23 (hb176.new_ hn)), rfl⟩) ?_
          refine .o1 (tg rfl rfl rfl (fun _ _ k => k.eq1 33 119 rfl) fun _ w hn k => ⟨_, v_load rfl (k.fx 4 h172) (l_two Tryd.isAgg23 Tryd.sizeOf23 (hb177.new_ hn)), rfl⟩) ?_
          refine .o1 (cg rfl rfl rfl (fun _ _ k => k.eq1 33 119 rfl) rfl (fun _ w hn k => ⟨#[nv a, nv b], args2 (k.eq1 34 120 rfl) (k.eq1 35 121 rfl), fun _ => by kernel_rfl, equal_c a b _⟩) fun _ => congrArg Value.bool ht184) ?_
          refine .o1 (tg rfl rfl rfl (fun _ _ k => k.eq1 29 115 rfl) fun _ w hn k => ⟨_, v_pickT rfl (k.eq1 33 119 rfl) (k.eq1 36 122 rfl), rfl⟩) ?_
          refine .o1 (tg rfl rfl rfl (fun _ _ k => k.eq1 29 115 rfl) fun _ w hn k => ⟨_, v_not rfl (k.eq1 37 123 rfl), rfl⟩) ?_
          refine .o1 (tk rfl rfl fun _ w hn k => ⟨_, v_pickT rfl (k.eq1 29 115 rfl) (k.eq1 38 124 rfl), rfl⟩) ?_
          refine .o1 (tk rfl rfl fun _ w hn k => ⟨_, v_assign rfl (k.eq1 39 125 rfl), rfl⟩) ?_
          exact .nil
        intro a185 w186 hn187 ha188
        have hs189 := ha188.size.trans hs169
        have hd190 := ha188.defers.trans hd170
        have h191 := ha188.ge 40 6 rfl
        have hN192 := hN179.transNew hn187
        clear hs169 hd170 h171 h172 h173 h174 h175 hb176 hq20 hb177 hq21 hb178 hq22 hN179 ha188 hn187
        refine st_nil ?_
        refine hK _ _ ?_
        clear hK K
        refine wp_ret (ret_k hd190 (v := .bool true) (res_t rfl h191 _) ?_)
        exact ⟨rfl, hN192⟩
      have ht193 : (lessM b a) = false := less_asymm ht180
      have ht194 : (equalM a b) = false := less_ne ht180
      refine wp_g0 [true, true, true, true, true, true, true, true, true, true, true, true, true, true, true, true, true, true, true, true, true, true, true, true, true, true, true, true, true, true, true, true, true, true, true, true, true, true, true, true, true] [] 126
        [ve (.bool true),
         ve (.bool true),
         ve (nv a),
         ve (nv b),
         ve (.bool true),
         ve (.bool false),
         ve (.bool false),
         ve (nv b),
         ve (nv c),
         ve (.bool false),
         ve (.bool true),
         ve (.bool true),
         ve (.bool true),
         ve undef,
         ve undef,
         ve undef,
         ve (.bool true),
         ve (.bool true),
         ve (.bool true),
         ve (nv a),
         ve (nv b),
         ve (.bool true),
         ve (.bool true),
         ve (nv b),
         ve (nv a),
         ve (.bool false),
         ve (.bool false),
         ve (.bool true),
         ve (.bool true),
         ve (.bool true),
         ve (nv a),
         ve (nv b),
         ve (.bool true),
         ve (.bool true),
         ve (nv a),
         ve (nv b),
         ve (.bool false),
         ve (.bool false),
         ve (.bool true),
         ve (.bool true),
         ve (.bool true)] hs169 (.eq (.eq (.eq (.eq (.eq (.eq (.eq (.eq (.eq (.eq (.eq (.eq (.eq (.eq (.eq (.eq (.eq (.eq (.eq (.eq (.eq (.eq (.eq (.eq (.eq (.eq (.eq (.eq (.eq (.eq (.eq (.eq (.eq (.eq (.eq (.eq (.eq (.eq (.eq (.eq (.eq (.nil)))))))))))))))))))))))))))))))))))))))))) ?_ ?_
      · skip
        refine .o1 (ck rfl rfl rfl (fun _ w hn k => ⟨#[], rfl, fun _ => by kernel_rfl, first_c  _⟩) fun _ => rfl) ?_
        refine .o1 (tk rfl rfl fun _ w hn k => ⟨_, v_move rfl (k.eq1 0 86 rfl), rfl⟩) ?_
        refine .o1 (tg rfl rfl rfl (fun _ _ k => k.eq1 1 87 rfl) fun _ w hn k => ⟨_, v_load rfl (k.fx 3 h171) (l_two Tryd.isAgg23 Tryd.sizeOf23 (hb176.new_ hn)), rfl⟩) ?_
        refine .o1 (tg rfl rfl rfl (fun _ _ k => k.eq1 1 87 rfl) fun _ w hn k => ⟨_, v_load rfl (k.fx 4 h172) (l_two Tryd.isAgg23 Tryd.sizeOf23 (hb177.new_ hn)), rfl⟩) ?_
        refine .o1 (cg rfl rfl rfl (fun _ _ k => k.eq1 1 87 rfl) rfl (fun _ w hn k => ⟨#[nv a, nv b], args2 (k.eq1 2 88 rfl) (k.eq1 3 89 rfl), fun _ => by kernel_rfl, less_c a b _⟩) fun _ => congrArg Value.bool ht180) ?_
        refine .o1 (tg rfl rfl rfl (fun _ _ k => k.eq1 1 87 rfl) fun _ w hn k => ⟨_, v_not rfl (k.eq1 4 90 rfl), rfl⟩) ?_
        refine .o1 (tg rfl rfl rfl (fun _ _ k => k.eq1 1 87 rfl) fun _ w hn k => ⟨_, v_move rfl (k.eq1 5 91 rfl), rfl⟩) ?_
        refine .o1 (tg rfl rfl rfl (fun _ _ k => k.eq1 6 92 rfl) fun _ w hn k => ⟨_, v_load rfl (k.fx 4 h172) (l_two Tryd.isAgg23 Tryd.sizeOf23 (hb177.new_ hn)), rfl⟩) ?_
        refine .o1 (tg rfl rfl rfl (fun _ _ k => k.eq1 6 92 rfl) fun _ w hn k => ⟨_, v_load rfl (k.fx 5 h173) (l_two Tryd.isAgg23 Tryd.sizeOf23 (hb178.new_ hn)), rfl⟩) ?_
        refine .o1 (cg rfl rfl rfl (fun _ _ k => k.eq1 6 92 rfl) rfl (fun _ w hn k => ⟨#[nv b, nv c], args2 (k.eq1 7 93 rfl) (k.eq1 8 94 rfl), fun _ => by kernel_rfl, less_c b c _⟩) fun _ => congrArg Value.bool ht181) ?_
        refine .o1 (tg rfl rfl rfl (fun _ _ k => k.eq1 6 92 rfl) fun _ w hn k => ⟨_, v_not rfl (k.eq1 9 95 rfl), rfl⟩) ?_
        refine .o1 (tg rfl rfl rfl (fun _ _ k => k.eq1 1 87 rfl) fun _ w hn k => ⟨_, v_pickF rfl (k.eq1 6 92 rfl) (k.eq1 10 96 rfl), rfl⟩) ?_
        refine .o1 (tg rfl rfl rfl (fun _ _ k => k.eq1 1 87 rfl) fun _ w hn k => ⟨_, v_move rfl (k.eq1 11 97 rfl), rfl⟩) ?_
        refine .o1 (sk rfl rfl rfl (fun _ _ _ k => k.eq1 12 98 rfl) (fun _ => rfl)) ?_
        refine .o1 (sk rfl rfl rfl (fun _ _ _ k => k.eq1 12 98 rfl) (fun _ => rfl)) ?_
        refine .o1 (sk rfl rfl rfl (fun _ _ _ k => k.eq1 12 98 rfl) (fun _ => rfl)) ?_
        refine .o1 (tg rfl rfl rfl (fun _ _ k => k.eq1 1 87 rfl) fun _ w hn k => ⟨_, v_pickT rfl (k.eq1 12 98 rfl) rfl, rfl⟩) ?_
        refine .o1 (tk rfl rfl fun _ w hn k => ⟨_, v_pickT rfl (k.eq1 1 87 rfl) (k.eq1 16 102 rfl), rfl⟩) ?_
        refine .o1 (tk rfl rfl fun _ w hn k => ⟨_, v_move rfl (k.eq1 17 103 rfl), rfl⟩) ?_
        refine .o1 (tg rfl rfl rfl (fun _ _ k => k.eq1 18 104 rfl) fun _ w hn k => ⟨_, v_load rfl (k.fx 3 h171) (l_two Tryd.isAgg23 Tryd.sizeOf23 (hb176.new_ hn)), rfl⟩) ?_
        refine .o1 (tg rfl rfl rfl (fun _ _ k => k.eq1 18 104 rfl) fun _ w hn k => ⟨_, v_load rfl (k.fx 4 h172) (l_two Tryd.isAgg23 Tryd.sizeOf23 (hb177.new_ hn)), rfl⟩) ?_
        refine .o1 (cg rfl rfl rfl (fun _ _ k => k.eq1 18 104 rfl) rfl (fun _ w hn k => ⟨#[nv a, nv b], args2 (k.eq1 19 105 rfl) (k.eq1 20 106 rfl), fun _ => by kernel_rfl, less_c a b _⟩) fun _ => congrArg Value.bool ht180) ?_
        refine .o1 (tg rfl rfl rfl (fun _ _ k => k.eq1 18 104 rfl) fun _ w hn k => ⟨_, v_move rfl (k.eq1 21 107 rfl), rfl⟩) ?_
        refine .o1 (tg rfl rfl rfl (fun _ _ k => k.eq1 22 108 rfl) fun _ w hn k => ⟨_, v_load rfl (k.fx 4 h172) (l_two Tryd.isAgg23 Tryd.sizeOf23 (hb177.new_ hn)), rfl⟩) ?_
        refine .o1 (tg rfl rfl rfl (fun _ _ k => k.eq1 22 108 rfl) fun _ w hn k => ⟨_, v_load rfl (k.fx 3 h171) (l_two Tryd.isAgg23 Tryd.sizeOf23 (hb176.new_ hn)), rfl⟩) ?_
        refine .o1 (cg rfl rfl rfl (fun _ _ k => k.eq1 22 108 rfl) rfl (fun _ w hn k => ⟨#[nv b, nv a], args2 (k.eq1 23 109 rfl) (k.eq1 24 110 rfl), fun _ => by kernel_rfl, less_c b a _⟩) fun _ => congrArg Value.bool ht193) ?_
        refine .o1 (tg rfl rfl rfl (fun _ _ k => k.eq1 18 104 rfl) fun _ w hn k => ⟨_, v_pickT rfl (k.eq1 22 108 rfl) (k.eq1 25 111 rfl), rfl⟩) ?_
        refine .o1 (tg rfl rfl rfl (fun _ _ k => k.eq1 18 104 rfl) fun _ w hn k => ⟨_, v_not rfl (k.eq1 26 112 rfl), rfl⟩) ?_
        refine .o1 (tk rfl rfl fun _ w hn k => ⟨_, v_pickT rfl (k.eq1 18 104 rfl) (k.eq1 27 113 rfl), rfl⟩) ?_
        refine .o1 (tk rfl rfl fun _ w hn k => ⟨_, v_move rfl (k.eq1 28 114 rfl), rfl⟩) ?_
        refine .o1 (tg rfl rfl rfl (fun _ _ k => k.eq1 29 115 rfl) fun _ w hn k => ⟨_, v_load rfl (k.fx 3 h171) (l_two Tryd.isAgg23 Tryd.sizeOf23 (hb176.new_ hn)), rfl⟩) ?_
        refine .o1 (tg rfl rfl rfl (fun _ _ k => k.eq1 29 115 rfl) fun _ w hn k => ⟨_, v_load rfl (k.fx 4 h172) (l_two Tryd.isAgg23 Tryd.sizeOf23 (hb177.new_ hn)), rfl⟩) ?_
        refine .o1 (cg rfl rfl rfl (fun _ _ k => k.eq1 29 115 rfl) rfl (fun _ w hn k => ⟨#[nv a, nv b], args2 (k.eq1 30 116 rfl) (k.eq1 31 117 rfl), fun _ => by kernel_rfl, less_c a b _⟩) fun _ => congrArg Value.bool ht180) ?_
        refine .o1 (tg rfl rfl rfl (fun _ _ k => k.eq1 29 115 rfl) fun _ w hn k => ⟨_, v_move rfl (k.eq1 32 118 rfl), rfl⟩) ?_
        refine .o1 (tg rfl rfl rfl (fun _ _ k => k.eq1 33 119 rfl) fun _ w hn k => ⟨_, v_load rfl (k.fx 3 h171) (l_two Tryd.isAgg23 Tryd.sizeOf23 (hb176.new_ hn)), rfl⟩) ?_
        refine .o1 (tg rfl rfl rfl (fun _ _ k => k.eq1 33 119 rfl) fun _ w hn k => ⟨_, v_load rfl (k.fx 4 h172) (l_two Tryd.isAgg23 Tryd.sizeOf23 (hb177.new_ hn)), rfl⟩) ?_
        refine .o1 (cg rfl rfl rfl (fun _ _ k => k.eq1 33 119 rfl) rfl (fun _ w hn k => ⟨#[nv a, nv b], args2 (k.eq1 34 120 rfl) (k.eq1 35 121 rfl), fun _ => by kernel_rfl, equal_c a b _⟩) fun _ => congrArg Value.bool ht194) ?_
        refine .o1 (tg rfl rfl rfl (fun _ _ k => k.eq1 29 115 rfl) fun _ w hn k => ⟨_, v_pickT rfl (k.eq1 33 119 rfl) (k.eq1 36 122 rfl), rfl⟩) ?_
        refine .o1 (tg rfl rfl rfl (fun _ _ k => k.eq1 29 115 rfl) fun _ w hn k => ⟨_, v_not rfl (k.eq1 37 123 rfl), rfl⟩) ?_
        refine .o1 (tk rfl rfl fun _ w hn k => ⟨_, v_pickT rfl (k.eq1 29 115 rfl) (k.eq1 38 124 rfl), rfl⟩) ?_
        refine .o1 (tk rfl rfl fun _ w hn k => ⟨_, v_assign rfl (k.eq1 39 125 rfl), rfl⟩) ?_
        exact .nil
      intro a195 w196 hn197 ha198
      have hs199 := ha198.size.trans hs169
      have hd200 := ha198.defers.trans hd170
      have h201 := ha198.ge 40 6 rfl
      have hN202 := hN179.transNew hn197
      clear hs169 hd170 h171 h172 h173 h174 h175 hb176 hq20 hb177 hq21 hb178 hq22 hN179 ha198 hn197
      refine st_nil ?_
      refine hK _ _ ?_
      clear hK K
      refine wp_ret (ret_k hd200 (v := .bool true) (res_t rfl h201 _) ?_)
      exact ⟨rfl, hN202⟩
    refine wp_g0 [true, true, true, true, true, true, true, true, true, true, true, true, true, true, true, true, true, true, true, true, true, true, true, true, true, true, true, true, true, true, true, true, true, true, true, true, true, true, true, true, true] [] 126
      [ve (.bool true),
       ve (.bool true),
       ve (nv a),
       ve (nv b),
       ve (.bool false),
       ve (.bool true),
       ve (.bool true),
       ve undef,
       ve undef,
       ve undef,
       ve undef,
       ve (.bool true),
       ve (.bool true),
       ve undef,
       ve undef,
       ve undef,
       ve (.bool true),
       ve (.bool true),
       ve (.bool true),
       ve (nv a),
       ve (nv b),
       ve (.bool false),
       ve (.bool false),
       ve undef,
       ve undef,
       ve undef,
       ve (.bool false),
       ve (.bool true),
       ve (.bool true),
       ve (.bool true),
       ve (nv a),
       ve (nv b),
       ve (.bool false),
       ve (.bool false),
       ve undef,
       ve undef,
       ve undef,
       ve (.bool false),
       ve (.bool true),
       ve (.bool true),
       ve (.bool true)] hs169 (.eq (.eq (.eq (.eq (.eq (.eq (.eq (.eq (.eq (.eq (.eq (.eq (.eq (.eq (.eq (.eq (.eq (.eq (.eq (.eq (.eq (.eq (.eq (.eq (.eq (.eq (.eq (.eq (.eq (.eq (.eq (.eq (.eq (.eq (.eq (.eq (.eq (.eq (.eq (.eq (.eq (.nil)))))))))))))))))))))))))))))))))))))))))) ?_ ?_
    · skip
      refine .o1 (ck rfl rfl rfl (fun _ w hn k => ⟨#[], rfl, fun _ => by kernel_rfl, first_c  _⟩) fun _ => rfl) ?_
      refine .o1 (tk rfl rfl fun _ w hn k => ⟨_, v_move rfl (k.eq1 0 86 rfl), rfl⟩) ?_
      refine .o1 (tg rfl rfl rfl (fun _ _ k => k.eq1 1 87 rfl) fun _ w hn k => ⟨_, v_load rfl (k.fx 3 h171) (l_two Tryd.isAgg23 Tryd.sizeOf23 (hb176.new_ hn)), rfl⟩) ?_
      refine .o1 (tg rfl rfl rfl (fun _ _ k => k.eq1 1 87 rfl) fun _ w hn k => ⟨_, v_load rfl (k.fx 4 h172) (l_two Tryd.isAgg23 Tryd.sizeOf23 (hb177.new_ hn)), rfl⟩) ?_
      refine .o1 (cg rfl rfl rfl (fun _ _ k => k.eq1 1 87 rfl) rfl (fun _ w hn k => ⟨#[nv a, nv b], args2 (k.eq1 2 88 rfl) (k.eq1 3 89 rfl), fun _ => by kernel_rfl, less_c a b _⟩) fun _ => congrArg Value.bool ht180) ?_
      refine .o1 (tg rfl rfl rfl (fun _ _ k => k.eq1 1 87 rfl) fun _ w hn k => ⟨_, v_not rfl (k.eq1 4 90 rfl), rfl⟩) ?_
      refine .o1 (tg rfl rfl rfl (fun _ _ k => k.eq1 1 87 rfl) fun _ w hn k => ⟨_, v_move rfl (k.eq1 5 91 rfl), rfl⟩) ?_
      refine .o1 (sk rfl rfl rfl (fun _ _ _ k => k.eq1 6 92 rfl) (fun _ => rfl)) ?_
      refine .o1 (sk rfl rfl rfl (fun _ _ _ k => k.eq1 6 92 rfl) (fun _ => rfl)) ?_
      refine .o1 (sk rfl rfl rfl (fun _ _ _ k => k.eq1 6 92 rfl) (fun _ => rfl)) ?_
      refine .o1 (sk rfl rfl rfl (fun _ _ _ k => k.eq1 6 92 rfl) (fun _ => rfl)) ?_
      refine .o1 (tg rfl rfl rfl (fun _ _ k => k.eq1 1 87 rfl) fun _ w hn k => ⟨_, v_pickT rfl (k.eq1 6 92 rfl) rfl, rfl⟩) ?_
      refine .o1 (tg rfl rfl rfl (fun _ _ k => k.eq1 1 87 rfl) fun _ w hn k => ⟨_, v_move rfl (k.eq1 11 97 rfl), rfl⟩) ?_
      refine .o1 (sk rfl rfl rfl (fun _ _ _ k => k.eq1 12 98 rfl) (fun _ => rfl)) ?_
      refine .o1 (sk rfl rfl rfl (fun _ _ _ k => k.eq1 12 98 rfl) (fun _ => rfl)) ?_
      refine .o1 (sk rfl rfl rfl (fun _ _ _ k => k.eq1 12 98 rfl) (fun _ => rfl)) ?_
      refine .o1 (tg rfl rfl rfl (fun _ _ k => k.eq1 1 87 rfl) fun _ w hn k => ⟨_, v_pickT rfl (k.eq1 12 98 rfl) rfl, rfl⟩) ?_
      refine .o1 (tk rfl rfl fun _ w hn k => ⟨_, v_pickT rfl (k.eq1 1 87 rfl) (k.eq1 16 102 rfl), rfl⟩) ?_
      refine .o1 (tk rfl rfl fun _ w hn k => ⟨_, v_move rfl (k.eq1 17 103 rfl), rfl⟩) ?_
      refine .o1 (tg rfl rfl rfl (fun _ _ k => k.eq1 18 104 rfl) fun _ w hn k => ⟨_, v_load rfl (k.fx 3 h171) (l_two Tryd.isAgg23 Tryd.sizeOf23 (hb176.new_ hn)), rfl⟩) ?_
      refine .o1 (tg rfl rfl rfl (fun _ _ k => k.eq1 18 104 rfl) fun _ w hn k => ⟨_, v_load rfl (k.fx 4 h172) (l_two Tryd.isAgg23 Tryd.sizeOf23 (hb177.new_ hn)), rfl⟩) ?_
      refine .o1 (cg rfl rfl rfl (fun _ _ k => k.eq1 18 104 rfl) rfl (fun _ w hn k => ⟨#[nv a, nv b], args2 (k.eq1 19 105 rfl) (k.eq1 20 106 rfl), fun _ => by kernel_rfl, less_c a b _⟩) fun _ => congrArg Value.bool ht180) ?_
      refine .o1 (tg rfl rfl rfl (fun _ _ k => k.eq1 18 104 rfl) fun _ w hn k => ⟨_, v_move rfl (k.eq1 21 107 rfl), rfl⟩) ?_
      refine .o1 (sk rfl rfl rfl (fun _ _ _ k => k.eq1 22 108 rfl) (fun _ => rfl)) ?_
      refine .o1 (sk rfl rfl rfl (fun _ _ _ k => k.eq1 22 108 rfl) (fun _ => rfl)) ?_
      refine .o1 (sk rfl rfl rfl (fun _ _ _ k => k.eq1 22 108 rfl) (fun _ => rfl)) ?_
      refine .o1 (tg rfl rfl rfl (fun _ _ k => k.eq1 18 104 rfl) fun _ w hn k => ⟨_, v_pickF rfl (k.eq1 22 108 rfl) rfl, rfl⟩) ?_
      refine .o1 (tg rfl rfl rfl (fun _ _ k => k.eq1 18 104 rfl) fun _ w hn k => ⟨_, v_not rfl (k.eq1 26 112 rfl), rfl⟩) ?_
      refine .o1 (tk rfl rfl fun _ w hn k => ⟨_, v_pickT rfl (k.eq1 18 104 rfl) (k.eq1 27 113 rfl), rfl⟩) ?_
      refine .o1 (tk rfl rfl fun _ w hn k => ⟨_, v_move rfl (k.eq1 28 114 rfl), rfl⟩) ?_
      refine .o1 (tg rfl rfl rfl (fun _ _ k => k.eq1 29 115 rfl) fun _ w hn k => ⟨_, v_load rfl (k.fx 3 h171) (l_two Tryd.isAgg23 Tryd.sizeOf23 (hb176.new_ hn)), rfl⟩) ?_
      refine .o1 (tg rfl rfl rfl (fun _ _ k => k.eq1 29 115 rfl) fun _ w hn k => ⟨_, v_load rfl (k.fx 4 h172) (l_two Tryd.isAgg23 Tryd.sizeOf23 (hb177.new_ hn)), rfl⟩) ?_
      refine .o1 (cg rfl rfl rfl (fun _ _ k => k.eq1 29 115 rfl) rfl (fun _ w hn k => ⟨#[nv a, nv b], args2 (k.eq1 30 116 rfl) (k.eq1 31 117 rfl), fun _ => by kernel_rfl, less_c a b _⟩) fun _ => congrArg Value.bool ht180) ?_
      refine .o1 (tg rfl rfl rfl (fun _ _ k => k.eq1 29 115 rfl) fun _ w hn k => ⟨_, v_move rfl (k.eq1 32 118 rfl), rfl⟩) ?_
      refine .o1 (sk rfl rfl rfl (fun _ _ _ k => k.eq1 33 119 rfl) (fun _ => rfl)) ?_
      refine .o1 (sk rfl rfl rfl (fun _ _ _ k => k.eq1 33 119 rfl) (fun _ => rfl)) ?_
      refine .o1 (sk rfl rfl rfl (fun _ _ _ k => k.eq1 33 119 rfl) (fun _ => rfl)) ?_
      refine .o1 (tg rfl rfl rfl (fun _ _ k => k.eq1 29 115 rfl) fun _ w hn k => ⟨_, v_pickF rfl (k.eq1 33 119 rfl) rfl, rfl⟩) ?_
      refine .o1 (tg rfl rfl rfl (fun _ _ k => k.eq1 29 115 rfl) fun _ w hn k => ⟨_, v_not rfl (k.eq1 37 123 rfl), rfl⟩) ?_
      refine .o1 (tk rfl rfl fun _ w hn k => ⟨_, v_pickT rfl (k.eq1 29 115 rfl) (k.eq1 38 124 rfl), rfl⟩) ?_
      refine .o1 (tk rfl rfl fun _ w hn k => ⟨_, v_assign rfl (k.eq1 39 125 rfl), rfl⟩) ?_
      exact .nil
    intro a203 w204 hn205 ha206
    have hs207 := ha206.size.trans hs169
    have hd208 := ha206.defers.trans hd170
    have h209 := ha206.ge 40 6 rfl
    have hN210 := hN179.transNew hn205
    clear hs169 hd170 h171 h172 h173 h174 h175 hb176 hq20 hb177 hq21 hb178 hq22 hN179 ha206 hn205
    refine st_nil ?_
    refine hK _ _ ?_
    clear hK K
    refine wp_ret (ret_k hd208 (v := .bool true) (res_t rfl h209 _) ?_)
    exact ⟨rfl, hN210⟩
  have hv211 : a90.eval (.tmp 8) = .bool false := h101.trans (congrArg Value.bool ht108)
  clear h101
  refine wp_g0 [true, true, true, true] [] 126
    [ve (.bool false),
     ve (.bool false),
     ve undef,
     ve (.bool false)] hs94 (.eq (.eq (.eq (.eq (.nil))))) ?_ ?_
  · skip
    refine .o1 (tk rfl rfl fun _ w hn k => ⟨_, v_move rfl (k.fx 8 hv211), rfl⟩) ?_
    refine .o1 (tk rfl rfl fun _ w hn k => ⟨_, v_move rfl (k.eq1 0 42 rfl), rfl⟩) ?_
    refine .o1 (sk rfl rfl rfl (fun _ _ _ k => k.eq1 1 43 rfl) (fun _ => rfl)) ?_
    refine .o1 (tk rfl rfl fun _ w hn k => ⟨_, v_pickF rfl (k.eq1 1 43 rfl) rfl, rfl⟩) ?_
    exact .nil
  intro a212 w213 hn214 ha215
  have hs216 := ha215.size.trans hs94
  have hd217 := ha215.defers.trans hd95
  have h218 := ha215.fx 3 h96
  have h219 := ha215.fx 4 h97
  have h220 := ha215.fx 5 h98
  have h221 := ha215.fx 6 h99
  have h222 := ha215.fx 7 h100
  have h223 := ha215.fx 8 hv211
  have h224 := ha215.fx 9 h102
  have h225 := ha215.ge 3 45 rfl
  have hb226 := hb103.new_ hn214
  have hb227 := hb104.new_ hn214
  have hb228 := hb105.new_ hn214
  have hb229 := hb106.new_ hn214
  have hN230 := hN107.transNew hn214
  clear hs94 hd95 h96 h97 h98 h99 h100 hv211 h102 hb103 hb104 hb105 hb106 hN107 ha215 hn214
  refine st_nil ?_
  refine hK _ _ ?_
  clear hK K
  refine wp_cond_false h225 ?_
  refine wp_skip ?_
  refine hK _ _ ?_
  clear hK K
  refine wp_seq_k fun K hK => ?_
  refine wp_g [true, true, true, true, false] [] [(4, false)] 126
    [ve (nv a),
     ve (nv b),
     ve (nv (remM a b)),
     IsNew w213 23 [iv 0, iv 0],
     vt]
    [3] (newsCons (fun v w h => IsNew.old h) newsNil) hs216 (.eq (.eq (.eq (.nw (.tt (.nil)))))) ?_ (fun i h => by cases h) ?_
  · skip
    refine .o1 (tk rfl rfl fun _ w hn k => ⟨_, v_load rfl (k.fx 3 h218) (l_two Tryd.isAgg23 Tryd.sizeOf23 (hb226.new_ hn)), rfl⟩) ?_
    refine .o1 (tk rfl rfl fun _ w hn k => ⟨_, v_load rfl (k.fx 4 h219) (l_two Tryd.isAgg23 Tryd.sizeOf23 (hb227.new_ hn)), rfl⟩) ?_
    refine .o1 (ck rfl rfl rfl (fun _ w hn k => ⟨#[nv a, nv b], args2 (k.eq1 0 60 rfl) (k.eq1 1 61 rfl), fun _ => by kernel_rfl, rem_c a b _⟩) fun _ => rfl) ?_
    refine .o2 (step_allocN (cs := [iv 0, iv 0]) (t := 23) rfl (noG rfl) (fun _ w hn k => rfl) (fun q _ hq hb => ⟨q, rfl, hq, hb⟩)) ?_
    refine .off ?_
    exact .nil
  intro a231 w232 hn233 ha234
  have hs235 := ha234.size.trans hs216
  have hd236 := ha234.defers.trans hd217
  have h237 := ha234.fx 3 h218
  have h238 := ha234.fx 4 h219
  have h239 := ha234.fx 5 h220
  have h240 := ha234.fx 6 h221
  have h241 := ha234.fx 8 h223
  have h242 := ha234.fx 9 h224
  have h243 := ha234.ge 2 62 rfl
  obtain ⟨q245, h244, hq246, hb247⟩ : IsNew _ _ _ _ _ := ha234.got 3 12 rfl (by kernel_rfl)
  have hb248 := hb226.new_ hn233
  have hb249 := hb227.new_ hn233
  have hb250 := hb228.new_ hn233
  have hne251 : q8 ≠ q245 := by have h1 := hb226.lt; have h2 := hq246; omega
  have hne252 : q12 ≠ q245 := by have h1 := hb227.lt; have h2 := hq246; omega
  have hne253 : q16 ≠ q245 := by have h1 := hb228.lt; have h2 := hq246; omega
  have hq254 := Nat.le_trans hN230.size hq246
  have hN255 := hN230.transNew hn233
  clear hs216 hd217 h218 h219 h220 h221 h222 h223 h224 h225 hb226 hb227 hb228 hb229 hq61 hq246 hN230 ha234 hn233
  obtain ⟨w256, -, hst257, hb258, hu259, hf260⟩ := s_two (v0 := iv ((remM a b).k)) (v1 := iv ((remM a b).n)) Tryd.sizeOf23 rfl rfl rfl hb247
  refine st_act rfl rfl fun K261 hL262 => a_store' rfl h244 h243 hst257 (hL262 _ _ trivial ?_)
  have hb263 := hf260 _ _ _ (hne251) hb248
  have hb264 := hf260 _ _ _ (hne252) hb249
  have hb265 := hf260 _ _ _ (hne253) hb250
  have hN266 := hN255.trans hu259 (fun k hk hkb => by subst hkb; omega)
  clear hb247 hst257 K261 hL262 hN255 hb248 hb249 hb250 hu259 hf260
  clear hne251
  clear hne252
  clear hne253
  refine st_nil ?_
  clear h243
  refine hK _ _ ?_
  clear hK K
  refine wp_seq_k fun K hK => ?_
  refine wp_seq_k fun K hK => ?_
  refine wp_g0 [true, true, true, true, true, true, true, true, true, true, true, true, true, true, true, true, true, true, true, true, true, true, true] [] 126
    [ve (.bool false),
     ve (.bool false),
     ve undef,
     ve undef,
     ve undef,
     ve undef,
     ve undef,
     ve undef,
     ve undef,
     ve undef,
     ve undef,
     ve undef,
     ve undef,
     ve undef,
     ve undef,
     ve undef,
     ve undef,
     ve undef,
     ve undef,
     ve undef,
     ve undef,
     ve undef,
     ve (.bool false)] hs235 (.eq (.eq (.eq (.eq (.eq (.eq (.eq (.eq (.eq (.eq (.eq (.eq (.eq (.eq (.eq (.eq (.eq (.eq (.eq (.eq (.eq (.eq (.eq (.nil)))))))))))))))))))))))) ?_ ?_
  · skip
    refine .o1 (tk rfl rfl fun _ w hn k => ⟨_, v_move rfl (k.fx 9 h242), rfl⟩) ?_
    refine .o1 (tk rfl rfl fun _ w hn k => ⟨_, v_move rfl (k.eq1 0 63 rfl), rfl⟩) ?_
    refine .o1 (sk rfl rfl rfl (fun _ _ _ k => k.eq1 1 64 rfl) (fun _ => rfl)) ?_
    refine .o1 (sk rfl rfl rfl (fun _ _ _ k => k.eq1 1 64 rfl) (fun _ => rfl)) ?_
    refine .o1 (sk rfl rfl rfl (fun _ _ _ k => k.eq1 1 64 rfl) (fun _ => rfl)) ?_
    refine .o1 (sk rfl rfl rfl (fun _ _ _ k => k.eq1 1 64 rfl) (fun _ => rfl)) ?_
    refine .o1 (sk rfl rfl rfl (fun _ _ _ k => k.eq1 1 64 rfl) (fun _ => rfl)) ?_
    refine .o1 (sk rfl rfl rfl (fun _ _ _ k => k.eq1 1 64 rfl) (fun _ => rfl)) ?_
    refine .o1 (sk rfl rfl rfl (fun _ _ _ k => k.eq1 1 64 rfl) (fun _ => rfl)) ?_
    refine .o1 (sk rfl rfl rfl (fun _ _ _ k => k.eq1 1 64 rfl) (fun _ => rfl)) ?_
    refine .o1 (sk rfl rfl rfl (fun _ _ _ k => k.eq1 1 64 rfl) (fun _ => rfl)) ?_
    refine .o1 (sk rfl rfl rfl (fun _ _ _ k => k.eq1 1 64 rfl) (fun _ => rfl)) ?_
    refine .o1 (sk rfl rfl rfl (fun _ _ _ k => k.eq1 1 64 rfl) (fun _ => rfl)) ?_
    refine .o1 (sk rfl rfl rfl (fun _ _ _ k => k.eq1 1 64 rfl) (fun _ => rfl)) ?_
    refine .o1 (sk rfl rfl rfl (fun _ _ _ k => k.eq1 1 64 rfl) (fun _ => rfl)) ?_
    refine .o1 (sk rfl rfl rfl (fun _ _ _ k => k.eq1 1 64 rfl) (fun _ => rfl)) ?_
    refine .o1 (su rfl rfl rfl (fun _ _ _ k => k.eq1 15 78 rfl) (fun _ => rfl)) ?_
    refine .o1 (su rfl rfl rfl (fun _ _ _ k => k.eq1 15 78 rfl) (fun _ => rfl)) ?_
    refine .o1 (su rfl rfl rfl (fun _ _ _ k => k.eq1 15 78 rfl) (fun _ => rfl)) ?_
    refine .o1 (su rfl rfl rfl (fun _ _ _ k => k.eq1 15 78 rfl) (fun _ => rfl)) ?_
    refine .o1 (su rfl rfl rfl (fun _ _ _ k => k.eq1 15 78 rfl) (fun _ => rfl)) ?_
    refine .o1 (sk rfl rfl rfl (fun _ _ _ k => k.eq1 1 64 rfl) (fun _ => rfl)) ?_
    refine .o1 (tk rfl rfl fun _ w hn k => ⟨_, v_pickF rfl (k.eq1 1 64 rfl) rfl, rfl⟩) ?_
    exact .nil
  intro a267 w268 hn269 ha270
  have hs271 := ha270.size.trans hs235
  have hd272 := ha270.defers.trans hd236
  have h273 := ha270.fx 3 h237
  have h274 := ha270.fx 4 h238
  have h275 := ha270.fx 5 h239
  have h276 := ha270.fx 6 h240
  have h277 := ha270.ge 22 85 rfl
  have hb278 := hb263.new_ hn269
  have hb279 := hb264.new_ hn269
  have hb280 := hb265.new_ hn269
  have hN281 := hN266.transNew hn269
  clear hs235 hd236 h237 h238 h239 h240 h241 h242 h244 hb263 hb264 hb265 hb258 hq254 hN266 ha270 hn269
  refine st_nil ?_
  refine hK _ _ ?_
  clear hK K
  refine wp_cond_false h277 ?_
  refine wp_skip ?_
  refine hK _ _ ?_
  clear hK K
  refine wp_seq_k fun K hK => ?_
  rcases Bool.eq_false_or_eq_true (lessM a b) with ht282 | ht282
  · skip
    rcases Bool.eq_false_or_eq_true (lessM b c) with ht283 | ht283
    · skip
      have ht284 : (lessM a c) = true := less_trans ht282 ht283
      have ht285 : (lessM b a) = false := less_asymm ht282
      have ht286 : (equalM a b) = false := less_ne ht282
      refine wp_g0 [true, true, true, true, true, true, true, true, true, true, true, true, true, true, true, true, true, true, true, true, true, true, true, true, true, true, true, true, true, true, true, true, true, true, true, true, true, true, true, true, true] [] 126
        [ve (.bool true),
         ve (.bool true),
         ve (nv a),
         ve (nv b),
         ve (.bool true),
         ve (.bool false),
         ve (.bool false),
         ve (nv b),
         ve (nv c),
         ve (.bool true),
         ve (.bool false),
         ve (.bool false),
         ve (.bool false),
         ve (nv a),
         ve (nv c),
         ve (.bool true),
         ve (.bool true),
         ve (.bool true),
         ve (.bool true),
         ve (nv a),
         ve (nv b),
         ve (.bool true),
         ve (.bool true),
         ve (nv b),
         ve (nv a),
         ve (.bool false),
         ve (.bool false),
         ve (.bool true),
         ve (.bool true),
         ve (.bool true),
         ve (nv a),
         ve (nv b),
         ve (.bool true),
         ve (.bool true),
         ve (nv a),
         ve (nv b),
         ve (.bool false),
         ve (.bool false),
         ve (.bool true),
         ve (.bool true),
         ve (.bool true)] hs271 (.eq (.eq (.eq (.eq (.eq (.eq (.eq (.eq (.eq (.eq (.eq (.eq (.eq (.eq (.eq (.eq (.eq (.eq (.eq (.eq (.eq (.eq (.eq (.eq (.eq (.eq (.eq (.eq (.eq (.eq (.eq (.eq (.eq (.eq (.eq (.eq (.eq (.eq (.eq (.eq (.eq (.nil)))))))))))))))))))))))))))))))))))))))))) ?_ ?_
      · skip
        refine .o1 (ck rfl rfl rfl (fun _ w hn k => ⟨#[], rfl, fun _ => by kernel_rfl, first_c  _⟩) fun _ => rfl) ?_
        refine .o1 (tk rfl rfl fun _ w hn k => ⟨_, v_move rfl (k.eq1 0 86 rfl), rfl⟩) ?_
        refine .o1 (tg rfl rfl rfl (fun _ _ k => k.eq1 1 87 rfl) fun _ w hn k => ⟨_, v_load rfl (k.fx 3 h273) (l_two Tryd.isAgg23 Tryd.sizeOf23 (hb278.new_ hn)), rfl⟩) ?_
        refine .o1 (tg rfl rfl rfl (fun _ _ k => k.eq1 1 87 rfl) fun _ w hn k => ⟨_, v_load rfl (k.fx 4 h274) (l_two Tryd.isAgg23 Tryd.sizeOf23 (hb279.new_ hn)), rfl⟩) ?_
        refine .o1 (cg rfl rfl rfl (fun _ _ k => k.eq1 1 87 rfl) rfl (fun _ w hn k => ⟨#[nv a, nv b], args2 (k.eq1 2 88 rfl) (k.eq1 3 89 rfl), fun _ => by kernel_rfl, less_c a b _⟩) fun _ => congrArg Value.bool ht282) ?_
        refine .o1 (tg rfl rfl rfl (fun _ _ k => k.eq1 1 87 rfl) fun _ w hn k => ⟨_, v_not rfl (k.eq1 4 90 rfl), rfl⟩) ?_
        refine .o1 (tg rfl rfl rfl (fun _ _ k => k.eq1 1 87 rfl) fun _ w hn k => ⟨_, v_move rfl (k.eq1 5 91 rfl), rfl⟩) ?_
        refine .o1 (tg rfl rfl rfl (fun _ _ k => k.eq1 6 92 rfl) fun _ w hn k => ⟨_, v_load rfl (k.fx 4 h274) (l_two Tryd.isAgg23 Tryd.sizeOf23 (hb279.new_ hn)), rfl⟩) ?_
        refine .o1 (tg rfl rfl rfl (fun _ _ k => k.eq1 6 92 rfl) fun _ w hn k => ⟨_, v_load rfl (k.fx 5 h275) (l_two Tryd.isAgg23 Tryd.sizeOf23 (hb280.new_ hn)), rfl⟩) ?_
        refine .o1 (cg rfl rfl rfl (fun _ _ k => k.eq1 6 92 rfl) rfl (fun _ w hn k => ⟨#[nv b, nv c], args2 (k.eq1 7 93 rfl) (k.eq1 8 94 rfl), fun _ => by kernel_rfl, less_c b c _⟩) fun _ => congrArg Value.bool ht283) ?_
        refine .o1 (tg rfl rfl rfl (fun _ _ k => k.eq1 6 92 rfl) fun _ w hn k => ⟨_, v_not rfl (k.eq1 9 95 rfl), rfl⟩) ?_
        refine .o1 (tg rfl rfl rfl (fun _ _ k => k.eq1 1 87 rfl) fun _ w hn k => ⟨_, v_pickF rfl (k.eq1 6 92 rfl) (k.eq1 10 96 rfl), rfl⟩) ?_
        refine .o1 (tg rfl rfl rfl (fun _ _ k => k.eq1 1 87 rfl) fun _ w hn k => ⟨_, v_move rfl (k.eq1 11 97 rfl), rfl⟩) ?_
        refine .o1 (tg rfl rfl rfl (fun _ _ k => k.eq1 12 98 rfl) fun _ w hn k => ⟨_, v_load rfl (k.fx 3 h273) (l_two Tryd.isAgg23 Tryd.sizeOf23 (hb278.new_ hn)), rfl⟩) ?_
        refine .o1 (tg rfl rfl rfl (fun _ _ k => k.eq1 12 98 rfl) fun _ w hn k => ⟨_, v_load rfl (k.fx 5 h275) (l_two Tryd.isAgg23 Tryd.sizeOf23 (hb280.new_ hn)), rfl⟩) ?_
        refine .o1 (cg rfl rfl rfl (fun _ _ k => k.eq1 12 98 rfl) rfl (fun _ w hn k => ⟨#[nv a, nv c], args2 (k.eq1 13 99 rfl) (k.eq1 14 100 rfl), fun _ => by kernel_rfl, less_c a c _⟩) fun _ => congrArg Value.bool ht284) ?_
        refine .o1 (tg rfl rfl rfl (fun _ _ k => k.eq1 1 87 rfl) fun _ w hn k => ⟨_, v_pickF rfl (k.eq1 12 98 rfl) (k.eq1 15 101 rfl), rfl⟩) ?_
        refine .o1 (tk rfl rfl fun _ w hn k => ⟨_, v_pickT rfl (k.eq1 1 87 rfl) (k.eq1 16 102 rfl), rfl⟩) ?_
        refine .o1 (tk rfl rfl fun _ w hn k => ⟨_, v_move rfl (k.eq1 17 103 rfl), rfl⟩) ?_
        refine .o1 (tg rfl rfl rfl (fun _ _ k => k.eq1 18 104 rfl) fun _ w hn k => ⟨_, v_load rfl (k.fx 3 h273) (l_two Tryd.isAgg23 Tryd.sizeOf23 (hb278.new_ hn)), rfl⟩) ?_
        refine .o1 (tg rfl rfl rfl (fun _ _ k => k.eq1 18 104 rfl) fun _ w hn k => ⟨_, v_load rfl (k.fx 4 h274) (l_two Tryd.isAgg23 Tryd.sizeOf23 (hb279.new_ hn)), rfl⟩) ?_
        refine .o1 (cg rfl rfl rfl (fun _ _ k => k.eq1 18 104 rfl) rfl (fun _ w hn k => ⟨#[nv a, nv b], args2 (k.eq1 19 105 rfl) (k.eq1 20 106 rfl), fun _ => by kernel_rfl, less_c a b _⟩) fun _ => congrArg Value.bool ht282) ?_
        refine .o1 (tg rfl rfl rfl (fun _ _ k => k.eq1 18 104 rfl) fun _ w hn k => ⟨_, v_move rfl (k.eq1 21 107 rfl), rfl⟩) ?_
        refine .o1 (tg rfl rfl rfl (fun _ _ k => k.eq1 22 108 rfl) fun _ w hn k => ⟨_, v_load rfl (k.fx 4 h274) (l_two Tryd.isAgg23 Tryd.sizeOf23 (hb279.new_ hn)), rfl⟩) ?_
        refine .o1 (tg rfl rfl rfl (fun _ _ k => k.eq1 22 108 rfl) fun _ w hn k => ⟨_, v_load rfl (k.fx 3 h273) (l_two Tryd.isAgg23 Tryd.sizeOf23 (hb278.new_ hn)), rfl⟩) ?_
        refine .o1 (cg rfl rfl rfl (fun _ _ k => k.eq1 22 108 rfl) rfl (fun _ w hn k => ⟨#[nv b, nv a], args2 (k.eq1 23 109 rfl) (k.eq1 24 110 rfl), fun _ => by kernel_rfl, less_c b a _⟩) fun _ => congrArg Value.bool ht285) ?_
        refine .o1 (tg rfl rfl rfl (fun _ _ k => k.eq1 18 104 rfl) fun _ w hn k => ⟨_, v_pickT rfl (k.eq1 22 108 rfl) (k.eq1 25 111 rfl), rfl⟩) ?_
        refine .o1 (tg rfl rfl rfl (fun _ _ k => k.eq1 18 104 rfl) fun _ w hn k => ⟨_, v_not rfl (k.eq1 26 112 rfl), rfl⟩) ?_
        refine .o1 (tk rfl rfl fun _ w hn k => ⟨_, v_pickT rfl (k.eq1 18 104 rfl) (k.eq1 27 113 rfl), rfl⟩) ?_
        refine .o1 (tk rfl rfl fun _ w hn k => ⟨_, v_move rfl (k.eq1 28 114 rfl), rfl⟩) ?_
        refine .o1 (tg rfl rfl rfl (fun _ _ k => k.eq1 29 115 rfl) fun _ w hn k => ⟨_, v_load rfl (k.fx 3 h273) (l_two Tryd.isAgg23 Tryd.sizeOf23 (hb278.new_ hn)), rfl⟩) ?_
        refine .o1 (tg rfl rfl rfl (fun _ _ k => k.eq1 29 115 rfl) fun _ w hn k => ⟨_, v_load rfl (k.fx 4 h274) (l_two Tryd.isAgg23 Tryd.sizeOf23 (hb279.new_ hn)), rfl⟩) ?_
        refine .o1 (cg rfl rfl rfl (fun _ _ k => k.eq1 29 115 rfl) rfl (fun _ w hn k => ⟨#[nv a, nv b], args2 (k.eq1 30 116 rfl) (k.eq1 31 117 rfl), fun _ => by kernel_rfl, less_c a b _⟩) fun _ => congrArg Value.bool ht282) ?_
        refine .o1 (tg rfl rfl rfl (fun _ _ k => k.eq1 29 115 rfl) fun _ w hn k => ⟨_, v_move rfl (k.eq1 32 118 rfl), rfl⟩) ?_
        refine .o1 (tg rfl rfl rfl (fun _ _ k => k.eq1 33 119 rfl) fun _ w hn k => ⟨_, v_load rfl (k.fx 3 h273) (l_two Tryd.isAgg23 Tryd.sizeOf23 (hb278.new_ hn)), rfl⟩) ?_
        refine .o1 (tg rfl rfl rfl (fun _ _ k => k.eq1 33 119 rfl) fun _ w hn k => ⟨_, v_load rfl (k.fx 4 h274) (l_two Tryd.isAgg23 Tryd.sizeOf23 (hb279.new_ hn)), rfl⟩) ?_
        refine .o1 (cg rfl rfl rfl (fun _ _ k => k.eq1 33 119 rfl) rfl (fun _ w hn k => ⟨#[nv a, nv b], args2 (k.eq1 34 120 rfl) (k.eq1 35 121 rfl), fun _ => by kernel_rfl, equal_c a b _⟩) fun _ => congrArg Value.bool ht286) ?_
        refine .o1 (tg rfl rfl rfl (fun _ _ k => k.eq1 29 115 rfl) fun _ w hn k => ⟨_, v_pickT rfl (k.eq1 33 119 rfl) (k.eq1 36 122 rfl), rfl⟩) ?_
        refine .o1 (tg rfl rfl rfl (fun _ _ k => k.eq1 29 115 rfl) fun _ w hn k => ⟨_, v_not rfl (k.eq1 37 123 rfl), rfl⟩) ?_
        refine .o1 (tk rfl rfl fun _ w hn k => ⟨_, v_pickT rfl (k.eq1 29 115 rfl) (k.eq1 38 124 rfl), rfl⟩) ?_
        refine .o1 (tk rfl rfl fun _ w hn k => ⟨_, v_assign rfl (k.eq1 39 125 rfl), rfl⟩) ?_
        exact .nil
      intro a287 w288 hn289 ha290
      have hs291 := ha290.size.trans hs271
      have hd292 := ha290.defers.trans hd272
      have h293 := ha290.ge 40 6 rfl
      have hN294 := hN281.transNew hn289
      clear hs271 hd272 h273 h274 h275 h276 h277 hb278 hq20 hb279 hq21 hb280 hq22 hN281 ha290 hn289
      refine st_nil ?_
      refine hK _ _ ?_
      clear hK K
      refine wp_ret (ret_k hd292 (v := .bool true) (res_t rfl h293 _) ?_)
      exact ⟨rfl, hN294⟩
    have ht295 : (lessM b a) = false := less_asymm ht282
    have ht296 : (equalM a b) = false := less_ne ht282
    refine wp_g0 [true, true, true, true, true, true, true, true, true, true, true, true, true, true, true, true, true, true, true, true, true, true, true, true, true, true, true, true, true, true, true, true, true, true, true, true, true, true, true, true, true] [] 126
      [ve (.bool true),
       ve (.bool true),
       ve (nv a),
       ve (nv b),
       ve (.bool true),
       ve (.bool false),
       ve (.bool false),
       ve (nv b),
       ve (nv c),
       ve (.bool false),
       ve (.bool true),
       ve (.bool true),
       ve (.bool true),
       ve undef,
       ve undef,
       ve undef,
       ve (.bool true),
       ve (.bool true),
       ve (.bool true),
       ve (nv a),
       ve (nv b),
       ve (.bool true),
       ve (.bool true),
       ve (nv b),
       ve (nv a),
       ve (.bool false),
       ve (.bool false),
       ve (.bool true),
       ve (.bool true),
       ve (.bool true),
       ve (nv a),
       ve (nv b),
       ve (.bool true),
       ve (.bool true),
       ve (nv a),
       ve (nv b),
       ve (.bool false),
       ve (.bool false),
       ve (.bool true),
       ve (.bool true),
       ve (.bool true)] hs271 (.eq (.eq (.eq (.eq (.eq (.eq (.eq (.eq (.eq (.eq (.eq (.eq (.eq (.eq (.eq (.eq (.eq (.eq (.eq (.eq (.eq (.eq (.eq (.eq (.eq (.eq (.eq (.eq (.eq (.eq (.eq (.eq (.eq (.eq (.eq (.eq (.eq (.eq (.eq (.eq (.eq (.nil)))))))))))))))))))))))))))))))))))))))))) ?_ ?_
    · skip
      refine .o1 (ck rfl rfl rfl (fun _ w hn k => ⟨#[], rfl, fun _ => by kernel_rfl, first_c  _⟩) fun _ => rfl) ?_
      refine .o1 (tk rfl rfl fun _ w hn k => ⟨_, v_move rfl (k.eq1 0 86 rfl), rfl⟩) ?_
      refine .o1 (tg rfl rfl rfl (fun _ _ k => k.eq1 1 87 rfl) fun _ w hn k => ⟨_, v_load rfl (k.fx 3 h273) (l_two Tryd.isAgg23 Tryd.sizeOf23 (hb278.new_ hn)), rfl⟩) ?_
      refine .o1 (tg rfl rfl rfl (fun _ _ k => k.eq1 1 87 rfl) fun _ w hn k => ⟨_, v_load rfl (k.fx 4 h274) (l_two Tryd.isAgg23 Tryd.sizeOf23 (hb279.new_ hn)), rfl⟩) ?_
      refine .o1 (cg rfl rfl rfl (fun _ _ k => k.eq1 1 87 rfl) rfl (fun _ w hn k => ⟨#[nv a, nv b], args2 (k.eq1 2 88 rfl) (k.eq1 3 89 rfl), fun _ => by kernel_rfl, less_c a b _⟩) fun _ => congrArg Value.bool ht282) ?_
      refine .o1 (tg rfl rfl rfl (fun _ _ k => k.eq1 1 87 rfl) fun _ w hn k => ⟨_, v_not rfl (k.eq1 4 90 rfl), rfl⟩) ?_
      refine .o1 (tg rfl rfl rfl (fun _ _ k => k.eq1 1 87 rfl) fun _ w hn k => ⟨_, v_move rfl (k.eq1 5 91 rfl), rfl⟩) ?_
      refine .o1 (tg rfl rfl rfl (fun _ _ k => k.eq1 6 92 rfl) fun _ w hn k => ⟨_, v_load rfl (k.fx 4 h274) (l_two Tryd.isAgg23 Tryd.sizeOf23 (hb279.new_ hn)), rfl⟩) ?_
      refine .o1 (tg rfl rfl rfl (fun _ _ k => k.eq1 6 92 rfl) fun _ w hn k => ⟨_, v_load rfl (k.fx 5 h275) (l_two Tryd.isAgg23 Tryd.sizeOf23 (hb280.new_ hn)), rfl⟩) ?_
      refine .o1 (cg rfl rfl rfl (fun _ _ k => k.eq1 6 92 rfl) rfl (fun _ w hn k => ⟨#[nv b, nv c], args2 (k.eq1 7 93 rfl) (k.eq1 8 94 rfl), fun _ => by kernel_rfl, less_c b c _⟩) fun _ => congrArg Value.bool ht283) ?_
      refine .o1 (tg rfl rfl rfl (fun _ _ k => k.eq1 6 92 rfl) fun _ w hn k => ⟨_, v_not rfl (k.eq1 9 95 rfl), rfl⟩) ?_
      refine .o1 (tg rfl rfl rfl (fun _ _ k => k.eq1 1 87 rfl) fun _ w hn k => ⟨_, v_pickF rfl (k.eq1 6 92 rfl) (k.eq1 10 96 rfl), rfl⟩) ?_
      refine .o1 (tg rfl rfl rfl (fun _ _ k => k.eq1 1 87 rfl) fun _ w hn k => ⟨_, v_move rfl (k.eq1 11 97 rfl), rfl⟩) ?_
      refine .o1 (sk rfl rfl rfl (fun _ _ _ k => k.eq1 12 98 rfl) (fun _ => rfl)) ?_
      refine .o1 (sk rfl rfl rfl (fun _ _ _ k => k.eq1 12 98 rfl) (fun _ => rfl)) ?_
      refine .o1 (sk rfl rfl rfl (fun _ _ _ k => k.eq1 12 98 rfl) (fun _ => rfl)) ?_
      refine .o1 (tg rfl rfl rfl (fun _ _ k => k.eq1 1 87 rfl) fun _ w hn k => ⟨_, v_pickT rfl (k.eq1 12 98 rfl) rfl, rfl⟩) ?_
      refine .o1 (tk rfl rfl fun _ w hn k => ⟨_, v_pickT rfl (k.eq1 1 87 rfl) (k.eq1 16 102 rfl), rfl⟩) ?_
      refine .o1 (tk rfl rfl fun _ w hn k => ⟨_, v_move rfl (k.eq1 17 103 rfl), rfl⟩) ?_
      refine .o1 (tg rfl rfl rfl (fun _ _ k => k.eq1 18 104 rfl) fun _ w hn k => ⟨_, v_load rfl (k.fx 3 h273) (l_two Tryd.isAgg23 Tryd.sizeOf23 (hb278.new_ hn)), rfl⟩) ?_
      refine .o1 (tg rfl rfl rfl (fun _ _ k => k.eq1 18 104 rfl) fun _ w hn k => ⟨_, v_load rfl (k.fx 4 h274) (l_two Tryd.isAgg23 Tryd.sizeOf23 (hb279.new_ hn)), rfl⟩) ?_
      refine .o1 (cg rfl rfl rfl (fun _ _ k => k.eq1 18 104 rfl) rfl (fun _ w hn k => ⟨#[nv a, nv b], args2 (k.eq1 19 105 rfl) (k.eq1 20 106 rfl), fun _ => by kernel_rfl, less_c a b _⟩) fun _ => congrArg Value.bool ht282) ?_
      refine .o1 (tg rfl rfl rfl (fun _ _ k => k.eq1 18 104 rfl) fun _ w hn k => ⟨_, v_move rfl (k.eq1 21 107 rfl), rfl⟩) ?_
      refine .o1 (tg rfl rfl rfl (fun _ _ k => k.eq1 22 108 rfl) fun _ w hn k => ⟨_, v_load rfl (k.fx 4 h274) (l_two Tryd.isAgg23 Tryd.sizeOf23 (hb279.new_ hn)), rfl⟩) ?_
      refine .o1 (tg rfl rfl rfl (fun _ _ k => k.eq1 22 108 rfl) fun _ w hn k => ⟨_, v_load rfl (k.fx 3 h273) (l_two Tryd.isAgg23 Tryd.sizeOf23 (hb278.new_ hn)), rfl⟩) ?_
      refine .o1 (cg rfl rfl rfl (fun _ _ k => k.eq1 22 108 rfl) rfl (fun _ w hn k => ⟨#[nv b, nv a], args2 (k.eq1 23 109 rfl) (k.eq1 24 110 rfl), fun _ => by kernel_rfl, less_c b a _⟩) fun _ => congrArg Value.bool ht295) ?_
      refine .o1 (tg rfl rfl rfl (fun _ _ k => k.eq1 18 104 rfl) fun _ w hn k => ⟨_, v_pickT rfl (k.eq1 22 108 rfl) (k.eq1 25 111 rfl), rfl⟩) ?_
      refine .o1 (tg rfl rfl rfl (fun _ _ k => k.eq1 18 104 rfl) fun _ w hn k => ⟨_, v_not rfl (k.eq1 26 112 rfl), rfl⟩) ?_
      refine .o1 (tk rfl rfl fun _ w hn k => ⟨_, v_pickT rfl (k.eq1 18 104 rfl) (k.eq1 27 113 rfl), rfl⟩) ?_
      refine .o1 (tk rfl rfl fun _ w hn k => ⟨_, v_move rfl (k.eq1 28 114 rfl), rfl⟩) ?_
      refine .o1 (tg rfl rfl rfl (fun _ _ k => k.eq1 29 115 rfl) fun _ w hn k => ⟨_, v_load rfl (k.fx 3 h273) (l_two Tryd.isAgg23 Tryd.sizeOf23 (hb278.new_ hn)), rfl⟩) ?_
      refine .o1 (tg rfl rfl rfl (fun _ _ k => k.eq1 29 115 rfl) fun _ w hn k => ⟨_, v_load rfl (k.fx 4 h274) (l_two Tryd.isAgg23 Tryd.sizeOf23 (hb279.new_ hn)), rfl⟩) ?_
      refine .o1 (cg rfl rfl rfl (fun _ _ k => k.eq1 29 115 rfl) rfl (fun _ w hn k => ⟨#[nv a, nv b], args2 (k.eq1 30 116 rfl) (k.eq1 31 117 rfl), fun _ => by kernel_rfl, less_c a b _⟩) fun _ => congrArg Value.bool ht282) ?_
      refine .o1 (tg rfl rfl rfl (fun _ _ k => k.eq1 29 115 rfl) fun _ w hn k => ⟨_, v_move rfl (k.eq1 32 118 rfl), rfl⟩) ?_
      refine .o1 (tg rfl rfl rfl (fun _ _ k => k.eq1 33 119 rfl) fun _ w hn k => ⟨_, v_load rfl (k.fx 3 h273) (l_two Tryd.isAgg23 Tryd.sizeOf23 (hb278.new_ hn)), rfl⟩) ?_
      refine .o1 (tg rfl rfl rfl (fun _ _ k => k.eq1 33 119 rfl) fun _ w hn k => ⟨_, v_load rfl (k.fx 4 h274) (l_two Tryd.isAgg23 Tryd.sizeOf23 (hb279.new_ hn)), rfl⟩) ?_
      refine .o1 (cg rfl rfl rfl (fun _ _ k => k.eq1 33 119 rfl) rfl (fun _ w hn k => ⟨#[nv a, nv b], args2 (k.eq1 34 120 rfl) (k.eq1 35 121 rfl), fun _ => by kernel_rfl, equal_c a b _⟩) fun _ => congrArg Value.bool ht296) ?_
      refine .o1 (tg rfl rfl rfl (fun _ _ k => k.eq1 29 115 rfl) fun _ w hn k => ⟨_, v_pickT rfl (k.eq1 33 119 rfl) (k.eq1 36 122 rfl), rfl⟩) ?_
      refine .o1 (tg rfl rfl rfl (fun _ _ k => k.eq1 29 115 rfl) fun _ w hn k => ⟨_, v_not rfl (k.eq1 37 123 rfl), rfl⟩) ?_
      refine .o1 (tk rfl rfl fun _ w hn k => ⟨_, v_pickT rfl (k.eq1 29 115 rfl) (k.eq1 38 124 rfl), rfl⟩) ?_
      refine .o1 (tk rfl rfl fun _ w hn k => ⟨_, v_assign rfl (k.eq1 39 125 rfl), rfl⟩) ?_
      exact .nil
    intro a297 w298 hn299 ha300
    have hs301 := ha300.size.trans hs271
    have hd302 := ha300.defers.trans hd272
    have h303 := ha300.ge 40 6 rfl
    have hN304 := hN281.transNew hn299
    clear hs271 hd272 h273 h274 h275 h276 h277 hb278 hq20 hb279 hq21 hb280 hq22 hN281 ha300 hn299
    refine st_nil ?_
    refine hK _ _ ?_
    clear hK K
    refine wp_ret (ret_k hd302 (v := .bool true) (res_t rfl h303 _) ?_)
    exact ⟨rfl, hN304⟩
  refine wp_g0 [true, true, true, true, true, true, true, true, true, true, true, true, true, true, true, true, true, true, true, true, true, true, true, true, true, true, true, true, true, true, true, true, true, true, true, true, true, true, true, true, true] [] 126
    [ve (.bool true),
     ve (.bool true),
     ve (nv a),
     ve (nv b),
     ve (.bool false),
     ve (.bool true),
     ve (.bool true),
     ve undef,
     ve undef,
     ve undef,
     ve undef,
     ve (.bool true),
     ve (.bool true),
     ve undef,
     ve undef,
     ve undef,
     ve (.bool true),
     ve (.bool true),
     ve (.bool true),
     ve (nv a),
     ve (nv b),
     ve (.bool false),
     ve (.bool false),
     ve undef,
     ve undef,
     ve undef,
     ve (.bool false),
     ve (.bool true),
     ve (.bool true),
     ve (.bool true),
     ve (nv a),
     ve (nv b),
     ve (.bool false),
     ve (.bool false),
     ve undef,
     ve undef,
     ve undef,
     ve (.bool false),
     ve (.bool true),
     ve (.bool true),
     ve (.bool true)] hs271 (.eq (.eq (.eq (.eq (.eq (.eq (.eq (.eq (.eq (.eq (.eq (.eq (.eq (.eq (.eq (.eq (.eq (.eq (.eq (.eq (.eq (.eq (.eq (.eq (.eq (.eq (.eq (.eq (.eq (.eq (.eq (.eq (.eq (.eq (.eq (.eq (.eq (.eq (.eq (.eq (.eq (.nil)))))))))))))))))))))))))))))))))))))))))) ?_ ?_
  · skip
    refine .o1 (ck rfl rfl rfl (fun _ w hn k => ⟨#[], rfl, fun _ => by kernel_rfl, first_c  _⟩) fun _ => rfl) ?_
    refine .o1 (tk rfl rfl fun _ w hn k => ⟨_, v_move rfl (k.eq1 0 86 rfl), rfl⟩) ?_
    refine .o1 (tg rfl rfl rfl (fun _ _ k => k.eq1 1 87 rfl) fun _ w hn k => ⟨_, v_load rfl (k.fx 3 h273) (l_two Tryd.isAgg23 Tryd.sizeOf23 (hb278.new_ hn)), rfl⟩) ?_
    refine .o1 (tg rfl rfl rfl (fun _ _ k => k.eq1 1 87 rfl) fun _ w hn k => ⟨_, v_load rfl (k.fx 4 h274) (l_two Tryd.isAgg23 Tryd.sizeOf23 (hb279.new_ hn)), rfl⟩) ?_
    refine .o1 (cg rfl rfl rfl (fun _ _ k => k.eq1 1 87 rfl) rfl (fun _ w hn k => ⟨#[nv a, nv b], args2 (k.eq1 2 88 rfl) (k.eq1 3 89 rfl), fun _ => by kernel_rfl, less_c a b _⟩) fun _ => congrArg Value.bool ht282) ?_
    refine .o1 (tg rfl rfl rfl (fun _ _ k => k.eq1 1 87 rfl) fun _ w hn k => ⟨_, v_not rfl (k.eq1 4 90 rfl), rfl⟩) ?_
    refine .o1 (tg rfl rfl rfl (fun _ _ k => k.eq1 1 87 rfl) fun _ w hn k => ⟨_, v_move rfl (k.eq1 5 91 rfl), rfl⟩) ?_
    refine .o1 (sk rfl rfl rfl (fun _ _ _ k => k.eq1 6 92 rfl) (fun _ => rfl)) ?_
    refine .o1 (sk rfl rfl rfl (fun _ _ _ k => k.eq1 6 92 rfl) (fun _ => rfl)) ?_
    refine .o1 (sk rfl rfl rfl (fun _ _ _ k => k.eq1 6 92 rfl) (fun _ => rfl)) ?_
    refine .o1 (sk rfl rfl rfl (fun _ _ _ k => k.eq1 6 92 rfl) (fun _ => rfl)) ?_
    refine .o1 (tg rfl rfl rfl (fun _ _ k => k.eq1 1 87 rfl) fun _ w hn k => ⟨_, v_pickT rfl (k.eq1 6 92 rfl) rfl, rfl⟩) ?_
    refine .o1 (tg rfl rfl rfl (fun _ _ k => k.eq1 1 87 rfl) fun _ w hn k => ⟨_, v_move rfl (k.eq1 11 97 rfl), rfl⟩) ?_
    refine .o1 (sk rfl rfl rfl (fun _ _ _ k => k.eq1 12 98 rfl) (fun _ => rfl)) ?_
    refine .o1 (sk rfl rfl rfl (fun _ _ _ k => k.eq1 12 98 rfl) (fun _ => rfl)) ?_
    refine .o1 (sk rfl rfl rfl (fun _ _ _ k => k.eq1 12 98 rfl) (fun _ => rfl)) ?_
    refine .o1 (tg rfl rfl rfl (fun _ _ k => k.eq1 1 87 rfl) fun _ w hn k => ⟨_, v_pickT rfl (k.eq1 12 98 rfl) rfl, rfl⟩) ?_
    refine .o1 (tk rfl rfl fun _ w hn k => ⟨_, v_pickT rfl (k.eq1 1 87 rfl) (k.eq1 16 102 rfl), rfl⟩) ?_
    refine .o1 (tk rfl rfl fun _ w hn k => ⟨_, v_move rfl (k.eq1 17 103 rfl), rfl⟩) ?_
    refine .o1 (tg rfl rfl rfl (fun _ _ k => k.eq1 18 104 rfl) fun _ w hn k => ⟨_, v_load rfl (k.fx 3 h273) (l_two Tryd.isAgg23 Tryd.sizeOf23 (hb278.new_ hn)), rfl⟩) ?_
    refine .o1 (tg rfl rfl rfl (fun _ _ k => k.eq1 18 104 rfl) fun _ w hn k => ⟨_, v_load rfl (k.fx 4 h274) (l_two Tryd.isAgg23 Tryd.sizeOf23 (hb279.new_ hn)), rfl⟩) ?_
    refine .o1 (cg rfl rfl rfl (fun _ _ k => k.eq1 18 104 rfl) rfl (fun _ w hn k => ⟨#[nv a, nv b], args2 (k.eq1 19 105 rfl) (k.eq1 20 106 rfl), fun _ => by kernel_rfl, less_c a b _⟩) fun _ => congrArg Value.bool ht282) ?_
    refine .o1 (tg rfl rfl rfl (fun _ _ k => k.eq1 18 104 rfl) fun _ w hn k => ⟨_, v_move rfl (k.eq1 21 107 rfl), rfl⟩) ?_
    refine .o1 (sk rfl rfl rfl (fun _ _ _ k => k.eq1 22 108 rfl) (fun _ => rfl)) ?_
    refine .o1 (sk rfl rfl rfl (fun _ _ _ k => k.eq1 22 108 rfl) (fun _ => rfl)) ?_
    refine .o1 (sk rfl rfl rfl (fun _ _ _ k => k.eq1 22 108 rfl) (fun _ => rfl)) ?_
    refine .o1 (tg rfl rfl rfl (fun _ _ k => k.eq1 18 104 rfl) fun _ w hn k => ⟨_, v_pickF rfl (k.eq1 22 108 rfl) rfl, rfl⟩) ?_
    refine .o1 (tg rfl rfl rfl (fun _ _ k => k.eq1 18 104 rfl) fun _ w hn k => ⟨_, v_not rfl (k.eq1 26 112 rfl), rfl⟩) ?_
    refine .o1 (tk rfl rfl fun _ w hn k => ⟨_, v_pickT rfl (k.eq1 18 104 rfl) (k.eq1 27 113 rfl), rfl⟩) ?_
    refine .o1 (tk rfl rfl fun _ w hn k => ⟨_, v_move rfl (k.eq1 28 114 rfl), rfl⟩) ?_
    refine .o1 (tg rfl rfl rfl (fun _ _ k => k.eq1 29 115 rfl) fun _ w hn k => ⟨_, v_load rfl (k.fx 3 h273) (l_two Tryd.isAgg23 Tryd.sizeOf23 (hb278.new_ hn)), rfl⟩) ?_
    refine .o1 (tg rfl rfl rfl (fun _ _ k => k.eq1 29 115 rfl) fun _ w hn k => ⟨_, v_load rfl (k.fx 4 h274) (l_two Tryd.isAgg23 Tryd.sizeOf23 (hb279.new_ hn)), rfl⟩) ?_
    refine .o1 (cg rfl rfl rfl (fun _ _ k => k.eq1 29 115 rfl) rfl (fun _ w hn k => ⟨#[nv a, nv b], args2 (k.eq1 30 116 rfl) (k.eq1 31 117 rfl), fun _ => by kernel_rfl, less_c a b _⟩) fun _ => congrArg Value.bool ht282) ?_
    refine .o1 (tg rfl rfl rfl (fun _ _ k => k.eq1 29 115 rfl) fun _ w hn k => ⟨_, v_move rfl (k.eq1 32 118 rfl), rfl⟩) ?_
    refine .o1 (sk rfl rfl rfl (fun _ _ _ k => k.eq1 33 119 rfl) (fun _ => rfl)) ?_
    refine .o1 (sk rfl rfl rfl (fun _ _ _ k => k.eq1 33 119 rfl) (fun _ => rfl)) ?_
    refine .o1 (sk rfl rfl rfl (fun _ _ _ k => k.eq1 33 119 rfl) (fun _ => rfl)) ?_
    refine .o1 (tg rfl rfl rfl (fun _ _ k => k.eq1 29 115 rfl) fun _ w hn k => ⟨_, v_pickF rfl (k.eq1 33 119 rfl) rfl, rfl⟩) ?_
    refine .o1 (tg rfl rfl rfl (fun _ _ k => k.eq1 29 115 rfl) fun _ w hn k => ⟨_, v_not rfl (k.eq1 37 123 rfl), rfl⟩) ?_
    refine .o1 (tk rfl rfl fun _ w hn k => ⟨_, v_pickT rfl (k.eq1 29 115 rfl) (k.eq1 38 124 rfl), rfl⟩) ?_
    refine .o1 (tk rfl rfl fun _ w hn k => ⟨_, v_assign rfl (k.eq1 39 125 rfl), rfl⟩) ?_
    exact .nil
  intro a305 w306 hn307 ha308
  have hs309 := ha308.size.trans hs271
  have hd310 := ha308.defers.trans hd272
  have h311 := ha308.ge 40 6 rfl
  have hN312 := hN281.transNew hn307
  clear hs271 hd272 h273 h274 h275 h276 h277 hb278 hq20 hb279 hq21 hb280 hq22 hN281 ha308 hn307
  refine st_nil ?_
  refine hK _ _ ?_
  clear hK K
  refine wp_ret (ret_k hd310 (v := .bool true) (res_t rfl h311 _) ?_)
  exact ⟨rfl, hN312⟩
set_option maxHeartbeats 8000000 in
set_option maxRecDepth 100000 in
theorem rests_walk4 (a : Nm) (b : Nm) (c : Nm) (w : World) (hy0 : mayB a = true) (hy1 : mayB b = true) (hy2 : decide ((a.k) = 0) = true) (hy3 : decide ((b.k) = 0) = true) (hy4 : decide ((b.n) = 0) = true) : Calls Tryd.prog 9 #[nv a, nv b, nv c] w (IsRet (.bool true) w) := by
  refine enter_abs Tryd.func9 rfl fun a0 hs0 hd0 hp => ?_
  have hs0 : a0.tmps.size = 126 := hs0
  have hN0 : New w w := Upd.refl _ _
  have hp0 : a0.eval (.tmp 0) = nv a := hp 0 _ rfl
  have hp1 : a0.eval (.tmp 1) = nv b := hp 1 _ rfl
  have hp2 : a0.eval (.tmp 2) = nv c := hp 2 _ rfl
  clear hp
  refine wp_seq_k fun K hK => ?_
  have hbdb := may_n_bd hy1 hy3
  have hbdr := rem_n_bd a b
  refine wp_g [true, true, true, true] [] [] 126
    [IsNew w 23 [iv a.k, iv a.n],
     IsNew w 23 [iv b.k, iv b.n],
     IsNew w 23 [iv c.k, iv c.n],
     ve (.bool false)]
    [0, 1, 2] (newsCons (fun v w h => IsNew.old h) (newsCons (fun v w h => IsNew.old h) (newsCons (fun v w h => IsNew.old h) newsNil))) hs0 (.nw (.nw (.nw (.eq (.nil))))) ?_ (fun i h => by cases h) ?_
  · skip
    refine .o2 (step_allocN (cs := [iv a.k, iv a.n]) (t := 23) rfl (noG rfl) (fun _ w hn k => v_box rfl (k.fx 0 hp0) (fun w => rfl)) (fun q _ hq hb => ⟨q, rfl, hq, hb⟩)) ?_
    refine .o2 (step_allocN (cs := [iv b.k, iv b.n]) (t := 23) rfl (noG rfl) (fun _ w hn k => v_box rfl (k.fx 1 hp1) (fun w => rfl)) (fun q _ hq hb => ⟨q, rfl, hq, hb⟩)) ?_
    refine .o2 (step_allocN (cs := [iv c.k, iv c.n]) (t := 23) rfl (noG rfl) (fun _ w hn k => v_box rfl (k.fx 2 hp2) (fun w => rfl)) (fun q _ hq hb => ⟨q, rfl, hq, hb⟩)) ?_
    refine .o1 (tk rfl rfl fun _ w hn k => ⟨_, v_assign rfl rfl, rfl⟩) ?_
    exact .nil
  intro a1 w2 hn3 ha4
  have hs5 := ha4.size.trans hs0
  have hd6 := ha4.defers.trans hd0
  obtain ⟨q8, h7, hq9, hb10⟩ : IsNew _ _ _ _ _ := ha4.got 0 3 rfl (by kernel_rfl)
  obtain ⟨q12, h11, hq13, hb14⟩ : IsNew _ _ _ _ _ := ha4.got 1 4 rfl (by kernel_rfl)
  obtain ⟨q16, h15, hq17, hb18⟩ : IsNew _ _ _ _ _ := ha4.got 2 5 rfl (by kernel_rfl)
  have h19 := ha4.ge 3 6 rfl
  have hq20 := Nat.le_trans hN0.size hq9
  have hq21 := Nat.le_trans hN0.size hq13
  have hq22 := Nat.le_trans hN0.size hq17
  have hN23 := hN0.transNew hn3
  clear hs0 hd0 hp0 hp1 hp2 hq9 hq13 hq17 hN0 ha4 hn3
  refine st_nil ?_
  refine hK _ _ ?_
  clear hK K
  refine wp_seq_k fun K hK => ?_
  refine wp_seq_k fun K hK => ?_
  refine wp_g0 [true, true] [] 126
    [ve (.bool true),
     ve (.bool false)] hs5 (.eq (.eq (.nil))) ?_ ?_
  · skip
    refine .o1 (ck rfl rfl rfl (fun _ w hn k => ⟨#[], rfl, fun _ => by kernel_rfl, first_c  _⟩) fun _ => rfl) ?_
    refine .o1 (tk rfl rfl fun _ w hn k => ⟨_, v_not rfl (k.eq1 0 13 rfl), rfl⟩) ?_
    exact .nil
  intro a24 w25 hn26 ha27
  have hs28 := ha27.size.trans hs5
  have hd29 := ha27.defers.trans hd6
  have h30 := ha27.fx 3 h7
  have h31 := ha27.fx 4 h11
  have h32 := ha27.fx 5 h15
  have h33 := ha27.fx 6 h19
  have h34 := ha27.ge 1 14 rfl
  have hb35 := hb10.new_ hn26
  have hb36 := hb14.new_ hn26
  have hb37 := hb18.new_ hn26
  have hN38 := hN23.transNew hn26
  clear hs5 hd6 h7 h11 h15 h19 hb10 hb14 hb18 hN23 ha27 hn26
  refine st_nil ?_
  refine hK _ _ ?_
  clear hK K
  refine wp_cond_false h34 ?_
  refine wp_skip ?_
  refine hK _ _ ?_
  clear hK K
  refine wp_seq_k fun K hK => ?_
  refine wp_g [true, true, true, true, true, true, true, false, false] [5] [(7, false), (8, true)] 126
    [ve (nv a),
     ve (nv b),
     ve (.tuple #[nv ((divM a b).1), .bool ((divM a b).2)]),
     ve (.tuple #[nv ((divM a b).1), .bool ((divM a b).2)]),
     ve (nv ((divM a b).1)),
     ve (.bool ((divM a b).2)),
     IsNew w25 23 [iv 0, iv 0],
     vt,
     vt]
    [6] (newsCons (fun v w h => IsNew.old h) newsNil) hs28 (.eq (.eq (.eq (.eq (.eq (.eq (.nw (.tt (.tt (.nil)))))))))) ?_ ?_ ?_
  · skip
    refine .o1 (tk rfl rfl fun _ w hn k => ⟨_, v_load rfl (k.fx 3 h30) (l_two Tryd.isAgg23 Tryd.sizeOf23 (hb35.new_ hn)), rfl⟩) ?_
    refine .o1 (tk rfl rfl fun _ w hn k => ⟨_, v_load rfl (k.fx 4 h31) (l_two Tryd.isAgg23 Tryd.sizeOf23 (hb36.new_ hn)), rfl⟩) ?_
    refine .o1 (ck rfl rfl rfl (fun _ w hn k => ⟨#[nv a, nv b], args2 (k.eq1 0 16 rfl) (k.eq1 1 17 rfl), fun _ => by kernel_rfl, div_c a b _⟩) fun _ => rfl) ?_
    refine .o1 (tk rfl rfl fun _ w hn k => ⟨_, v_move rfl (k.eq1 2 18 rfl), rfl⟩) ?_
    refine .o1 (tk rfl rfl fun _ w hn k => ⟨_, v_extract rfl (k.eq1 3 15 rfl) rfl, rfl⟩) ?_
    refine .o3 ?_
    refine .o2 (step_allocN (cs := [iv 0, iv 0]) (t := 23) rfl (noG rfl) (fun _ w hn k => rfl) (fun q _ hq hb => ⟨q, rfl, hq, hb⟩)) ?_
    refine .off ?_
    refine .off ?_
    exact .nil
  · skip
    intro i h
    simp only [List.contains_eq_mem, List.mem_cons, List.not_mem_nil, or_false, decide_eq_true_eq] at h
    subst h
    · exact eager_take rfl rfl fun _ w hn k => ⟨.bool ((divM a b).2), fun w => v_extract rfl (k.eq1 3 15 rfl) rfl, rfl⟩
  intro a39 w40 hn41 ha42
  have hs43 := ha42.size.trans hs28
  have hd44 := ha42.defers.trans hd29
  have h45 := ha42.fx 3 h30
  have h46 := ha42.fx 4 h31
  have h47 := ha42.fx 5 h32
  have h48 := ha42.fx 6 h33
  have h49 := ha42.ge 4 19 rfl
  have h50 := ha42.ge 5 20 rfl
  obtain ⟨q52, h51, hq53, hb54⟩ : IsNew _ _ _ _ _ := ha42.got 6 7 rfl (by kernel_rfl)
  have hb55 := hb35.new_ hn41
  have hb56 := hb36.new_ hn41
  have hb57 := hb37.new_ hn41
  have hne58 : q8 ≠ q52 := by have h1 := hb35.lt; have h2 := hq53; omega
  have hne59 : q12 ≠ q52 := by have h1 := hb36.lt; have h2 := hq53; omega
  have hne60 : q16 ≠ q52 := by have h1 := hb37.lt; have h2 := hq53; omega
  have hq61 := Nat.le_trans hN38.size hq53
  have hN62 := hN38.transNew hn41
  clear hs28 hd29 h30 h31 h32 h33 h34 hb35 hb36 hb37 hq53 hN38 ha42 hn41
  obtain ⟨w63, -, hst64, hb65, hu66, hf67⟩ := s_two (v0 := iv ((divM a b).1.k)) (v1 := iv ((divM a b).1.n)) Tryd.sizeOf23 rfl rfl rfl hb54
  refine st_act rfl rfl fun K68 hL69 => a_store' rfl h51 h49 hst64 (hL69 _ _ trivial ?_)
  have hb70 := hf67 _ _ _ (hne58) hb55
  have hb71 := hf67 _ _ _ (hne59) hb56
  have hb72 := hf67 _ _ _ (hne60) hb57
  have hN73 := hN62.trans hu66 (fun k hk hkb => by subst hkb; omega)
  clear hb54 hst64 K68 hL69 hN62 hb55 hb56 hb57 hu66 hf67
  refine st_take rfl rfl (y_assign (v := .bool ((divM a b).2)) rfl h50) rfl ?_
  obtain ⟨a74, ha75⟩ : ∃ a', a' = a39.put (some 8) (.bool ((divM a b).2)) := ⟨_, rfl⟩
  have hs76 : a74.tmps.size = 126 := by rw [ha75, put_size]; exact hs43
  have hd77 : a74.defers = [] := by rw [ha75, put_defers]; exact hd44
  have h78 : a74.eval (.tmp 3) = pv q8 := by rw [ha75, put_ne _ _ _ _ (by decide)]; exact h45
  have h79 : a74.eval (.tmp 4) = pv q12 := by rw [ha75, put_ne _ _ _ _ (by decide)]; exact h46
  have h80 : a74.eval (.tmp 5) = pv q16 := by rw [ha75, put_ne _ _ _ _ (by decide)]; exact h47
  have h81 : a74.eval (.tmp 6) = .bool false := by rw [ha75, put_ne _ _ _ _ (by decide)]; exact h48
  have h82 : a74.eval (.tmp 19) = nv ((divM a b).1) := by rw [ha75, put_ne _ _ _ _ (by decide)]; exact h49
  have h83 : a74.eval (.tmp 20) = .bool ((divM a b).2) := by rw [ha75, put_ne _ _ _ _ (by decide)]; exact h50
  have h84 : a74.eval (.tmp 7) = pv q52 := by rw [ha75, put_ne _ _ _ _ (by decide)]; exact h51
  have h85 : a74.eval (.tmp 8) = .bool ((divM a b).2) := by rw [ha75]; exact put_same _ _ _ (by rw [hs43]; decide)
  show stepsTo _ _ _ _ _ (a39.put (some 8) (.bool ((divM a b).2))) _
  rw [← ha75]
  clear ha75 hs43 hd44 h45 h46 h47 h48 h49 h50 h51
  clear hne58
  clear hne59
  clear hne60
  refine st_nil ?_
  clear h82 h83
  refine hK _ _ ?_
  clear hK K
  refine wp_seq_k fun K hK => ?_
  have ht86 : (mayB a) = true := hy0
  have ht87 : (mayB b) = true := hy1
  have ht88 : (decide (a.k = 0)) = true := hy2
  have ht88d := of_decide_eq_true ht88
  have ht89 : (decide (b.k = 0)) = true := hy3
  have ht89d := of_decide_eq_true ht89
  have ht90 : (decide (b.n = 0)) = true := hy4
  have ht90d := of_decide_eq_true ht90
  refine wp_g0 [true, true, true, true, true, true, true, true, true, true, true, true, true, true, true, true, true, true, true, true, true, true] [] 126
    [ve (nv a),
     ve (.bool true),
     ve (.bool true),
     ve (nv b),
     ve (.bool true),
     ve (.bool true),
     ve (.bool true),
     ve (pv q8),
     ve (iv a.k),
     ve (.bool true),
     ve (.bool true),
     ve (.bool true),
     ve (pv q12),
     ve (iv b.k),
     ve (.bool true),
     ve (.bool true),
     ve (.bool true),
     ve (.pointer (some ⟨q12, 1, none⟩)),
     ve (iv b.n),
     ve (.bool false),
     ve (.bool false),
     ve (.bool false)] hs76 (.eq (.eq (.eq (.eq (.eq (.eq (.eq (.eq (.eq (.eq (.eq (.eq (.eq (.eq (.eq (.eq (.eq (.eq (.eq (.eq (.eq (.eq (.nil))))))))))))))))))))))) ?_ ?_
  · skip
    refine .o1 (tk rfl rfl fun _ w hn k => ⟨_, v_load rfl (k.fx 3 h78) (l_two Tryd.isAgg23 Tryd.sizeOf23 (hb70.new_ hn)), rfl⟩) ?_
    refine .o1 (ck rfl rfl rfl (fun _ w hn k => ⟨#[nv a], args1 (k.eq1 0 21 rfl), fun _ => by kernel_rfl, may_c a _⟩) fun _ => congrArg Value.bool ht86) ?_
    refine .o1 (tk rfl rfl fun _ w hn k => ⟨_, v_move rfl (k.eq1 1 22 rfl), rfl⟩) ?_
    refine .o1 (tg rfl rfl rfl (fun _ _ k => k.eq1 2 23 rfl) fun _ w hn k => ⟨_, v_load rfl (k.fx 4 h79) (l_two Tryd.isAgg23 Tryd.sizeOf23 (hb71.new_ hn)), rfl⟩) ?_
    refine .o1 (cg rfl rfl rfl (fun _ _ k => k.eq1 2 23 rfl) rfl (fun _ w hn k => ⟨#[nv b], args1 (k.eq1 3 24 rfl), fun _ => by kernel_rfl, may_c b _⟩) fun _ => congrArg Value.bool ht87) ?_
    refine .o1 (tk rfl rfl fun _ w hn k => ⟨_, v_pickT rfl (k.eq1 2 23 rfl) (k.eq1 4 25 rfl), rfl⟩) ?_
    refine .o1 (tk rfl rfl fun _ w hn k => ⟨_, v_move rfl (k.eq1 5 26 rfl), rfl⟩) ?_
    refine .o1 (tg rfl rfl rfl (fun _ _ k => k.eq1 6 27 rfl) fun _ w hn k => ⟨_, v_field rfl (k.fx 3 h78) (fun w => rfl), rfl⟩) ?_
    refine .o1 (tg rfl rfl rfl (fun _ _ k => k.eq1 6 27 rfl) fun _ w hn k => ⟨_, v_load rfl (k.eq1 7 28 rfl) (l_one Tryd.isAgg3 ((hb70.new_ hn).cell 0)), rfl⟩) ?_
    refine .o1 (tg rfl rfl rfl (fun _ _ k => k.eq1 6 27 rfl) fun _ w hn k => ⟨_, v_bin rfl (k.eq1 8 29 rfl) rfl (fun _ => rfl) (r_eql ht88), rfl⟩) ?_
    refine .o1 (tk rfl rfl fun _ w hn k => ⟨_, v_pickT rfl (k.eq1 6 27 rfl) (k.eq1 9 30 rfl), rfl⟩) ?_
    refine .o1 (tk rfl rfl fun _ w hn k => ⟨_, v_move rfl (k.eq1 10 31 rfl), rfl⟩) ?_
    refine .o1 (tg rfl rfl rfl (fun _ _ k => k.eq1 11 32 rfl) fun _ w hn k => ⟨_, v_field rfl (k.fx 4 h79) (fun w => rfl), rfl⟩) ?_
    refine .o1 (tg rfl rfl rfl (fun _ _ k => k.eq1 11 32 rfl) fun _ w hn k => ⟨_, v_load rfl (k.eq1 12 33 rfl) (l_one Tryd.isAgg3 ((hb71.new_ hn).cell 0)), rfl⟩) ?_
    refine .o1 (tg rfl rfl rfl (fun _ _ k => k.eq1 11 32 rfl) fun _ w hn k => ⟨_, v_bin rfl (k.eq1 13 34 rfl) rfl (fun _ => rfl) (r_eql ht89), rfl⟩) ?_
    refine .o1 (tk rfl rfl fun _ w hn k => ⟨_, v_pickT rfl (k.eq1 11 32 rfl) (k.eq1 14 35 rfl), rfl⟩) ?_
    refine .o1 (tk rfl rfl fun _ w hn k => ⟨_, v_move rfl (k.eq1 15 36 rfl), rfl⟩) ?_
    refine .o1 (tg rfl rfl rfl (fun _ _ k => k.eq1 16 37 rfl) fun _ w hn k => ⟨_, v_field rfl (k.fx 4 h79) (fun w => rfl), rfl⟩) ?_
    refine .o1 (tg rfl rfl rfl (fun _ _ k => k.eq1 16 37 rfl) fun _ w hn k => ⟨_, v_load rfl (k.eq1 17 38 rfl) (l_one Tryd.isAgg3 ((hb71.new_ hn).cell 1)), rfl⟩) ?_
    refine .o1 (tg rfl rfl rfl (fun _ _ k => k.eq1 16 37 rfl) fun _ w hn k => ⟨_, v_bin rfl (k.eq1 18 39 rfl) rfl (fun _ => rfl) (r_neq ht90), rfl⟩) ?_
    refine .o1 (tk rfl rfl fun _ w hn k => ⟨_, v_pickT rfl (k.eq1 16 37 rfl) (k.eq1 19 40 rfl), rfl⟩) ?_
    refine .o1 (tk rfl rfl fun _ w hn k => ⟨_, v_assign rfl (k.eq1 20 41 rfl), rfl⟩) ?_
    exact .nil
  intro a91 w92 hn93 ha94
  have hs95 := ha94.size.trans hs76
  have hd96 := ha94.defers.trans hd77
  have h97 := ha94.fx 3 h78
  have h98 := ha94.fx 4 h79
  have h99 := ha94.fx 5 h80
  have h100 := ha94.fx 6 h81
  have h101 := ha94.fx 7 h84
  have h102 := ha94.fx 8 h85
  have h103 := ha94.ge 21 9 rfl
  have hb104 := hb70.new_ hn93
  have hb105 := hb71.new_ hn93
  have hb106 := hb72.new_ hn93
  have hb107 := hb65.new_ hn93
  have hN108 := hN73.transNew hn93
  clear hs76 hd77 h78 h79 h80 h81 h84 h85 hb70 hb71 hb72 hb65 hN73 ha94 hn93
  refine st_nil ?_
  refine hK _ _ ?_
  clear hK K
  refine wp_seq_k fun K hK => ?_
  refine wp_seq_k fun K hK => ?_
  rcases Bool.eq_false_or_eq_true ((divM a b).2) with ht109 | ht109
  · skip
    have hv110 : a91.eval (.tmp 8) = .bool true := h102.trans (congrArg Value.bool ht109)
    clear h102
    refine wp_g0 [true, true, true, true] [] 126
      [ve (.bool true),
       ve (.bool true),
       ve (.bool false),
       ve (.bool false)] hs95 (.eq (.eq (.eq (.eq (.nil))))) ?_ ?_
    · skip
      refine .o1 (tk rfl rfl fun _ w hn k => ⟨_, v_move rfl (k.fx 8 hv110), rfl⟩) ?_
      refine .o1 (tk rfl rfl fun _ w hn k => ⟨_, v_move rfl (k.eq1 0 42 rfl), rfl⟩) ?_
      refine .o1 (tg rfl rfl rfl (fun _ _ k => k.eq1 1 43 rfl) fun _ w hn k => ⟨_, v_move rfl (k.fx 9 h103), rfl⟩) ?_
      refine .o1 (tk rfl rfl fun _ w hn k => ⟨_, v_pickT rfl (k.eq1 1 43 rfl) (k.eq1 2 44 rfl), rfl⟩) ?_
      exact .nil
    intro a111 w112 hn113 ha114
    have hs115 := ha114.size.trans hs95
    have hd116 := ha114.defers.trans hd96
    have h117 := ha114.fx 3 h97
    have h118 := ha114.fx 4 h98
    have h119 := ha114.fx 5 h99
    have h120 := ha114.fx 6 h100
    have h121 := ha114.fx 7 h101
    have h122 := ha114.fx 8 hv110
    have h123 := ha114.fx 9 h103
    have h124 := ha114.ge 3 45 rfl
    have hb125 := hb104.new_ hn113
    have hb126 := hb105.new_ hn113
    have hb127 := hb106.new_ hn113
    have hb128 := hb107.new_ hn113
    have hN129 := hN108.transNew hn113
    clear hs95 hd96 h97 h98 h99 h100 h101 hv110 h103 hb104 hb105 hb106 hb107 hN108 ha114 hn113
    refine st_nil ?_
    refine hK _ _ ?_
    clear hK K
    refine wp_cond_false h124 ?_
    refine wp_skip ?_
    refine hK _ _ ?_
    clear hK K
    refine wp_seq_k fun K hK => ?_
    refine wp_g [true, true, true, true, false] [] [(4, false)] 126
      [ve (nv a),
       ve (nv b),
       ve (nv (remM a b)),
       IsNew w112 23 [iv 0, iv 0],
       vt]
      [3] (newsCons (fun v w h => IsNew.old h) newsNil) hs115 (.eq (.eq (.eq (.nw (.tt (.nil)))))) ?_ (fun i h => by cases h) ?_
    · skip
      refine .o1 (tk rfl rfl fun _ w hn k => ⟨_, v_load rfl (k.fx 3 h117) (l_two Tryd.isAgg23 Tryd.sizeOf23 (hb125.new_ hn)), rfl⟩) ?_
      refine .o1 (tk rfl rfl fun _ w hn k => ⟨_, v_load rfl (k.fx 4 h118) (l_two Tryd.isAgg23 Tryd.sizeOf23 (hb126.new_ hn)), rfl⟩) ?_
      refine .o1 (ck rfl rfl rfl (fun _ w hn k => ⟨#[nv a, nv b], args2 (k.eq1 0 60 rfl) (k.eq1 1 61 rfl), fun _ => by kernel_rfl, rem_c a b _⟩) fun _ => rfl) ?_
      refine .o2 (step_allocN (cs := [iv 0, iv 0]) (t := 23) rfl (noG rfl) (fun _ w hn k => rfl) (fun q _ hq hb => ⟨q, rfl, hq, hb⟩)) ?_
      refine .off ?_
      exact .nil
    intro a130 w131 hn132 ha133
    have hs134 := ha133.size.trans hs115
    have hd135 := ha133.defers.trans hd116
    have h136 := ha133.fx 3 h117
    have h137 := ha133.fx 4 h118
    have h138 := ha133.fx 5 h119
    have h139 := ha133.fx 6 h120
    have h140 := ha133.fx 8 h122
    have h141 := ha133.fx 9 h123
    have h142 := ha133.ge 2 62 rfl
    obtain ⟨q144, h143, hq145, hb146⟩ : IsNew _ _ _ _ _ := ha133.got 3 12 rfl (by kernel_rfl)
    have hb147 := hb125.new_ hn132
    have hb148 := hb126.new_ hn132
    have hb149 := hb127.new_ hn132
    have hne150 : q8 ≠ q144 := by have h1 := hb125.lt; have h2 := hq145; omega
    have hne151 : q12 ≠ q144 := by have h1 := hb126.lt; have h2 := hq145; omega
    have hne152 : q16 ≠ q144 := by have h1 := hb127.lt; have h2 := hq145; omega
    have hq153 := Nat.le_trans hN129.size hq145
    have hN154 := hN129.transNew hn132
    clear hs115 hd116 h117 h118 h119 h120 h121 h122 h123 h124 hb125 hb126 hb127 hb128 hq61 hq145 hN129 ha133 hn132
    obtain ⟨w155, -, hst156, hb157, hu158, hf159⟩ := s_two (v0 := iv ((remM a b).k)) (v1 := iv ((remM a b).n)) Tryd.sizeOf23 rfl rfl rfl hb146
    refine st_act rfl rfl fun K160 hL161 => a_store' rfl h143 h142 hst156 (hL161 _ _ trivial ?_)
    have hb162 := hf159 _ _ _ (hne150) hb147
    have hb163 := hf159 _ _ _ (hne151) hb148
    have hb164 := hf159 _ _ _ (hne152) hb149
    have hN165 := hN154.trans hu158 (fun k hk hkb => by subst hkb; omega)
    clear hb146 hst156 K160 hL161 hN154 hb147 hb148 hb149 hu158 hf159
    clear hne150
    clear hne151
    clear hne152
    refine st_nil ?_
    clear h142
    refine hK _ _ ?_
    clear hK K
    refine wp_seq_k fun K hK => ?_
    refine wp_seq_k fun K hK => ?_
    refine wp_g0 [true, true, true, true, true, true, true, true, true, true, true, true, true, true, true, true, true, true, true, true, true, true, true] [] 126
      [ve (.bool false),
       ve (.bool false),
       ve undef,
       ve undef,
       ve undef,
       ve undef,
       ve undef,
       ve undef,
       ve undef,
       ve undef,
       ve undef,
       ve undef,
       ve undef,
       ve undef,
       ve undef,
       ve undef,
       ve undef,
       ve undef,
       ve undef,
       ve undef,
       ve undef,
       ve undef,
       ve (.bool false)] hs134 (.eq (.eq (.eq (.eq (.eq (.eq (.eq (.eq (.eq (.eq (.eq (.eq (.eq (.eq (.eq (.eq (.eq (.eq (.eq (.eq (.eq (.eq (.eq (.nil)))))))))))))))))))))))) ?_ ?_
    · skip
      refine .o1 (tk rfl rfl fun _ w hn k => ⟨_, v_move rfl (k.fx 9 h141), rfl⟩) ?_
      refine .o1 (tk rfl rfl fun _ w hn k => ⟨_, v_move rfl (k.eq1 0 63 rfl), rfl⟩) ?_
      refine .o1 (sk rfl rfl rfl (fun _ _ _ k => k.eq1 1 64 rfl) (fun _ => rfl)) ?_
      refine .o1 (sk rfl rfl rfl (fun _ _ _ k => k.eq1 1 64 rfl) (fun _ => rfl)) ?_
      refine .o1 (sk rfl rfl rfl (fun _ _ _ k => k.eq1 1 64 rfl) (fun _ => rfl)) ?_
      refine .o1 (sk rfl rfl rfl (fun _ _ _ k => k.eq1 1 64 rfl) (fun _ => rfl)) ?_
      refine .o1 (sk rfl rfl rfl (fun _ _ _ k => k.eq1 1 64 rfl) (fun _ => rfl)) ?_
      refine .o1 (sk rfl rfl rfl (fun _ _ _ k => k.eq1 1 64 rfl) (fun _ => rfl)) ?_
      refine .o1 (sk rfl rfl rfl (fun _ _ _ k => k.eq1 1 64 rfl) (fun _ => rfl)) ?_
      refine .o1 (sk rfl rfl rfl (fun _ _ _ k => k.eq1 1 64 rfl) (fun _ => rfl)) ?_
      refine .o1 (sk rfl rfl rfl (fun _ _ _ k => k.eq1 1 64 rfl) (fun _ => rfl)) ?_
      refine .o1 (sk rfl rfl rfl (fun _ _ _ k => k.eq1 1 64 rfl) (fun _ => rfl)) ?_
      refine .o1 (sk rfl rfl rfl (fun _ _ _ k => k.eq1 1 64 rfl) (fun _ => rfl)) ?_
      refine .o1 (sk rfl rfl rfl (fun _ _ _ k => k.eq1 1 64 rfl) (fun _ => rfl)) ?_
      refine .o1 (sk rfl rfl rfl (fun _ _ _ k => k.eq1 1 64 rfl) (fun _ => rfl)) ?_
      refine .o1 (sk rfl rfl rfl (fun _ _ _ k => k.eq1 1 64 rfl) (fun _ => rfl)) ?_
      refine .o1 (su rfl rfl rfl (fun _ _ _ k => k.eq1 15 78 rfl) (fun _ => rfl)) ?_
      refine .o1 (su rfl rfl rfl (fun _ _ _ k => k.eq1 15 78 rfl) (fun _ => rfl)) ?_
      refine .o1 (su rfl rfl rfl (fun _ _ _ k => k.eq1 15 78 rfl) (fun _ => rfl)) ?_
      refine .o1 (su rfl rfl rfl (fun _ _ _ k => k.eq1 15 78 rfl) (fun _ => rfl)) ?_
      refine .o1 (su rfl rfl rfl (fun _ _ _ k => k.eq1 15 78 rfl) (fun _ => rfl)) ?_
      refine .o1 (sk rfl rfl rfl (fun _ _ _ k => k.eq1 1 64 rfl) (fun _ => rfl)) ?_
      refine .o1 (tk rfl rfl fun _ w hn k => ⟨_, v_pickF rfl (k.eq1 1 64 rfl) rfl, rfl⟩) ?_
      exact .nil
    intro a166 w167 hn168 ha169
    have hs170 := ha169.size.trans hs134
    have hd171 := ha169.defers.trans hd135
    have h172 := ha169.fx 3 h136
    have h173 := ha169.fx 4 h137
    have h174 := ha169.fx 5 h138
    have h175 := ha169.fx 6 h139
    have h176 := ha169.ge 22 85 rfl
    have hb177 := hb162.new_ hn168
    have hb178 := hb163.new_ hn168
    have hb179 := hb164.new_ hn168
    have hN180 := hN165.transNew hn168
    clear hs134 hd135 h136 h137 h138 h139 h140 h141 h143 hb162 hb163 hb164 hb157 hq153 hN165 ha169 hn168
    refine st_nil ?_
    refine hK _ _ ?_
    clear hK K
    refine wp_cond_false h176 ?_
    refine wp_skip ?_
    refine hK _ _ ?_
    clear hK K
    refine wp_seq_k fun K hK => ?_
    rcases Bool.eq_false_or_eq_true (lessM a b) with ht181 | ht181
    · skip
      rcases Bool.eq_false_or_eq_true (lessM b c) with ht182 | ht182
      · skip
        have ht183 : (lessM a c) = true := less_trans ht181 ht182
        have ht184 : (lessM b a) = false := less_asymm ht181
        have ht185 : (equalM a b) = false := less_ne ht181
        refine wp_g0 [true, true, true, true, true, true, true, true, true, true, true, true, true, true, true, true, true, true, true, true, true, true, true, true, true, true, true, true, true, true, true, true, true, true, true, true, true, true, true, true, true] [] 126
          [ve (.bool true),
           ve (.bool true),
           ve (nv a),
           ve (nv b),
           ve (.bool true),
           ve (.bool false),
           ve (.bool false),
           ve (nv b),
           ve (nv c),
           ve (.bool true),
           ve (.bool false),
           ve (.bool false),
           ve (.bool false),
           ve (nv a),
           ve (nv c),
           ve (.bool true),
           ve (.bool true),
           ve (.bool true),
           ve (.bool true),
           ve (nv a),
           ve (nv b),
           ve (.bool true),
           ve (.bool true),
           ve (nv b),
           ve (nv a),
           ve (.bool false),
           ve (.bool false),
           ve (.bool true),
           ve (.bool true),
           ve (.bool true),
           ve (nv a),
           ve (nv b),
           ve (.bool true),
           ve (.bool true),
           ve (nv a),
           ve (nv b),
           ve (.bool false),
           ve (.bool false),
           ve (.bool true),
           ve (.bool true),
           ve (.bool true)] hs170 (.eq (.eq (.eq (.eq (.eq (.eq (.eq (.eq (.eq (.eq (.eq (.eq (.eq (.eq (.eq (.eq (.eq (.eq (.eq (.eq (.eq (.eq (.eq (.eq (.eq (.eq (.eq (.eq (.eq (.eq (.eq (.eq (.eq (.eq (.eq (.eq (.eq (.eq (.eq (.eq (.eq (.nil)))))))))))))))))))))))))))))))))))))))))) ?_ ?_
        · skip
          refine .o1 (ck rfl rfl rfl (fun _ w hn k => ⟨#[], rfl, fun _ => by kernel_rfl, first_c  _⟩) fun _ => rfl) ?_
          refine .o1 (tk rfl rfl fun _ w hn k => ⟨_, v_move rfl (k.eq1 0 86 rfl), rfl⟩) ?_
          refine .o1 (tg rfl rfl rfl (fun _ _ k => k.eq1 1 87 rfl) fun _ w hn k => ⟨_, v_load rfl (k.fx 3 h172) (l_two Tryd.isAgg23 Tryd.sizeOf23 (hb177.new_ hn)), rfl⟩) ?_
          refine .o1 (tg rfl rfl rfl (fun _ _ k => k.eq1 1 87 rfl) fun _ w hn k => ⟨_, v_load rfl (k.fx 4 h173) (l_two Tryd.isAgg23 Tryd.sizeOf23 (hb178.new_ hn)), rfl⟩) ?_
          refine .o1 (cg rfl rfl rfl (fun _ _ k => k.eq1 1 87 rfl) rfl (fun _ w hn k => ⟨#[nv a, nv b], args2 (k.eq1 2 88 rfl) (k.eq1 3 89 rfl), fun _ => by kernel_rfl, less_c a b _⟩) fun _ => congrArg Value.bool ht181) ?_
          refine .o1 (tg rfl rfl rfl (fun _ _ k => k.eq1 1 87 rfl) fun _ w hn k => ⟨_, v_not rfl (k.eq1 4 90 rfl), rfl⟩) ?_
          refine .o1 (tg rfl rfl rfl (fun _ _ k => k.eq1 1 87 rfl) fun _ w hn k => ⟨_, v_move rfl (k.eq1 5 91 rfl), rfl⟩) ?_
          refine .o1 (tg rfl rfl rfl (fun _ _ k => k.eq1 6 92 rfl) fun _ w hn k => ⟨_, v_load rfl (k.fx 4 h173) (l_two Tryd.isAgg23 Tryd.sizeOf23 (hb178.new_ hn)), rfl⟩) ?_
          refine .o1 (tg rfl rfl rfl (fun _ _ k => k.eq1 6 92 rfl) fun _ w hn k => ⟨_, v_load rfl (k.fx 5 h174) (l_two Tryd.isAgg23 Tryd.sizeOf23 (hb179.new_ hn)), rfl⟩) ?_
          refine .o1 (cg rfl rfl rfl (fun _ _ k => k.eq1 6 92 rfl) rfl (fun _ w hn k => ⟨#[nv b, nv c], args2 (k.eq1 7 93 rfl) (k.eq1 8 94 rfl), fun _ => by kernel_rfl, less_c b c _⟩) fun _ => congrArg Value.bool ht182) ?_
          refine .o1 (tg rfl rfl rfl (fun _ _ k => k.eq1 6 92 rfl) fun _ w hn k => ⟨_, v_not rfl (k.eq1 9 95 rfl), rfl⟩) ?_
          refine .o1 (tg rfl rfl rfl (fun _ _ k => k.eq1 1 87 rfl) fun _ w hn k => ⟨_, v_pickF rfl (k.eq1 6 92 rfl) (k.eq1 10 96 rfl), rfl⟩) ?_
          refine .o1 (tg rfl rfl rfl (fun _ _ k => k.eq1 1 87 rfl) fun _ w hn k => ⟨_, v_move rfl (k.eq1 11 97 rfl), rfl⟩) ?_
          refine .o1 (tg rfl rfl rfl (fun _ _ k => k.eq1 12 98 rfl) fun _ w hn k => ⟨_, v_load rfl (k.fx 3 h172) (l_two Tryd.isAgg23 Tryd.sizeOf23 (hb177.new_ hn)), rfl⟩) ?_
          refine .o1 (tg rfl rfl rfl (fun _ _ k => k.eq1 12 98 rfl) fun _ w hn k => ⟨_, v_load rfl (k.fx 5 h174) (l_two Tryd.isAgg23 Tryd.sizeOf23 (hb179.new_ hn)), rfl⟩) ?_
          refine .o1 (cg rfl rfl rfl (fun _ _ k => k.eq1 12 98 rfl) rfl (fun _ w hn k => ⟨#[nv a, nv c], args2 (k.eq1 13 99 rfl) (k.eq1 14 100 rfl), fun _ => by kernel_rfl, less_c a c _⟩) fun _ => congrArg Value.bool ht183) ?_
          refine .o1 (tg rfl rfl rfl (fun _ _ k => k.eq1 1 87 rfl) fun _ w hn k => ⟨_, v_pickF rfl (k.eq1 12 98 rfl) (k.eq1 15 101 rfl), rfl⟩) ?_
          refine .o1 (tk rfl rfl fun _ w hn k => ⟨_, v_pickT rfl (k.eq1 1 87 rfl) (k.eq1 16 102 rfl), rfl⟩) ?_
          refine .o1 (tk rfl rfl fun _ w hn k => ⟨_, v_move rfl (k.eq1 17 103 rfl), rfl⟩) ?_
          refine .o1 (tg rfl rfl rfl (fun _ _ k => k.eq1 18 104 rfl) fun _ w hn k => ⟨_, v_load rfl (k.fx 3 h172) (l_two Tryd.isAgg23 Tryd.sizeOf23 (hb177.new_ hn)), rfl⟩) ?_
          refine .o1 (tg rfl rfl rfl (fun _ _ k => k.eq1 18 104 rfl) fun _ w hn k => ⟨_, v_load rfl (k.fx 4 h173) (l_two Tryd.isAgg23 Tryd.sizeOf23 (hb178.new_ hn)), rfl⟩) ?_
          refine .o1 (cg rfl rfl rfl (fun _ _ k => k.eq1 18 104 rfl) rfl (fun _ w hn k => ⟨#[nv a, nv b], args2 (k.eq1 19 105 rfl) (k.eq1 20 106 rfl), fun _ => by kernel_rfl, less_c a b _⟩) fun _ => congrArg Value.bool ht181) ?_
          refine .o1 (tg rfl rfl rfl (fun _ _ k => k.eq1 18 104 rfl) fun _ w hn k => ⟨_, v_move rfl (k.eq1 21 107 rfl), rfl⟩) ?_
          refine .o1 (tg rfl rfl rfl (fun _ _ k => k.eq1 22 108 rfl) fun _ w hn k => ⟨_, v_load rfl (k.fx 4 h173) (l_two Tryd.isAgg23 Tryd.sizeOf23 (hb178.new_ hn)), rfl⟩) ?_
          refine .o1 (tg rfl rfl rfl (fun _ _ k => k.eq1 22 108 rfl) fun _ w hn k => ⟨_, v_load rfl (k.fx 3 h172) (l_two Tryd.isAgg23 Tryd.sizeOf23 (hb177.new_ hn)), rfl⟩) ?_
          refine .o1 (cg rfl rfl rfl (fun _ _ k => k.eq1 22 108 rfl) rfl (fun _ w hn k => ⟨#[nv b, nv a], args2 (k.eq1 23 109 rfl) (k.eq1 24 110 rfl), fun _ => by kernel_rfl, less_c b a _⟩) fun _ => congrArg Value.bool ht184) ?_
          refine .o1 (tg rfl rfl rfl (fun _ _ k => k.eq1 18 104 rfl) fun _ w hn k => ⟨_, v_pickT rfl (k.eq1 22 108 rfl) (k.eq1 25 111 rfl), rfl⟩) ?_
          refine .o1 (tg rfl rfl rfl (fun _ _ k => k.eq1 18 104 rfl) fun _ w hn k => ⟨_, v_not rfl (k.eq1 26 112 rfl), rfl⟩) ?_
          refine .o1 (tk rfl rfl fun _ w hn k => ⟨_, v_pickT rfl (k.eq1 18 104 rfl) (k.eq1 27 113 rfl), rfl⟩) ?_
          refine .o1 (tk rfl rfl fun _ w hn k => ⟨_, v_move rfl (k.eq1 28 114 rfl), rfl⟩) ?_
          refine .o1 (tg rfl rfl rfl (fun _ _ k => k.eq1 29 115 rfl) fun _ w hn k => ⟨_, v_load rfl (k.fx 3 h172) (l_two Tryd.isAgg23 Tryd.sizeOf23 (hb177.new_ hn)), rfl⟩) ?_
          refine .o1 (tg rfl rfl rfl (fun _ _ k => k.eq1 29 115 rfl) fun _ w hn k => ⟨_, v_load rfl (k.fx 4 h173) (l_two Tryd.isAgg23 Tryd.sizeOf23 (hb178.new_ hn)), rfl⟩) ?_
          refine .o1 (cg rfl rfl rfl (fun _ _ k => k.eq1 29 115 rfl) rfl (fun _ w hn k => ⟨#[nv a, nv b], args2 (k.eq1 30 116 rfl) (k.eq1 31 117 rfl), fun _ => by kernel_rfl, less_c a b _⟩) fun _ => congrArg Value.bool ht181) ?_
          refine .o1 (tg rfl rfl rfl (fun _ _ k => k.eq1 29 115 rfl) fun _ w hn k => ⟨_, v_move rfl (k.eq1 32 118 rfl), rfl⟩) ?_
          refine .o1 (tg rfl rfl rfl (fun _ _ k => k.eq1 33 119 rfl) fun _ w hn k => ⟨_, v_load rfl (k.fx 3 h172) (l_two Tryd.isAgg23 Tryd.sizeOf23 (hb177.new_ hn)), rfl⟩) ?_
          refine .o1 (tg rfl rfl rfl (fun _ _ k => k.eq1 33 119 rfl) fun _ w hn k => ⟨_, v_load rfl (k.fx 4 h173) (l_two Tryd.isAgg23 Tryd.sizeOf23 (hb178.new_ hn)), rfl⟩) ?_
          refine .o1 (cg rfl rfl rfl (fun _ _ k => k.eq1 33 119 rfl) rfl (fun _ w hn k => ⟨#[nv a, nv b], args2 (k.eq1 34 120 rfl) (k.eq1 35 121 rfl), fun _ => by kernel_rfl, equal_c a b _⟩) fun _ => congrArg Value.bool ht185) ?_
          refine .o1 (tg rfl rfl rfl (fun _ _ k => k.eq1 29 115 rfl) fun _ w hn k => ⟨_, v_pickT rfl (k.eq1 33 119 rfl) (k.eq1 36 122 rfl), rfl⟩) ?_
          refine .o1 (tg rfl rfl rfl (fun _ _ k => k.eq1 29 115 rfl) fun _ w hn k => ⟨_, v_not rfl (k.eq1 37 123 rfl), rfl⟩) ?_
          refine .o1 (tk rfl rfl fun _ w hn k => ⟨_, v_pickT rfl (k.eq1 29 115 rfl) (k.eq1 38 124 rfl), rfl⟩) ?_
          refine .o1 (tk rfl rfl fun _ w hn k => ⟨_, v_assign rfl (k.eq1 39 125 rfl), rfl⟩) ?_
          exact .nil
        intro a186 w187 hn188 ha189
        have hs190 := ha189.size.trans hs170
        have hd191 := ha189.defers.trans hd171
        have h192 := ha189.ge 40 6 rfl
        have hN193 := hN180.transNew hn188
        clear hs170 hd171 h172 h173 h174 h175 h176 hb177 hq20 hb178 hq21 hb179 hq22 hN180 ha189 hn188
        refine st_nil ?_
        refine hK _ _ ?_
        clear hK K
        refine wp_ret (ret_k hd191 (v := .bool true) (res_t rfl h192 _) ?_)
        exact ⟨rfl, hN193⟩
      have ht194 : (lessM b a) = false := less_asymm ht181
      have ht195 : (equalM a b) = false := less_ne ht181
      refine wp_g0 [true, true, true, true, true, true, true, true, true, true, true, true, true, true, true, true, true, true, true, true, true, true, true, true, true, true, true, true, true, true, true, true, true, true, true, true, true, true, true, true, true] [] 126
        [ve (.bool true),
         ve (.bool true),
         ve (nv a),
         ve (nv b),
         ve (.bool true),
         ve (.bool false),
         ve (.bool false),
         ve (nv b),
         ve (nv c),
         ve (.bool false),
         ve (.bool true),
         ve (.bool true),
         ve (.bool true),
         ve undef,
         ve undef,
         ve undef,
         ve (.bool true),
         ve (.bool true),
         ve (.bool true),
         ve (nv a),
         ve (nv b),
         ve (.bool true),
         ve (.bool true),
         ve (nv b),
         ve (nv a),
         ve (.bool false),
         ve (.bool false),
         ve (.bool true),
         ve (.bool true),
         ve (.bool true),
         ve (nv a),
         ve (nv b),
         ve (.bool true),
         ve (.bool true),
         ve (nv a),
         ve (nv b),
         ve (.bool false),
         ve (.bool false),
         ve (.bool true),
         ve (.bool true),
         ve (.bool true)] hs170 (.eq (.eq (.eq (.eq (.eq (.eq (.eq (.eq (.eq (.eq (.eq (.eq (.eq (.eq (.eq (.eq (.eq (.eq (.eq (.eq (.eq (.eq (.eq (.eq (.eq (.eq (.eq (.eq (.eq (.eq (.eq (.eq (.eq (.eq (.eq (.eq (.eq (.eq (.eq (.eq (.eq (.nil)))))))))))))))))))))))))))))))))))))))))) ?_ ?_
      · skip
        refine .o1 (ck rfl rfl rfl (fun _ w hn k => ⟨#[], rfl, fun _ => by kernel_rfl, first_c  _⟩) fun _ => rfl) ?_
        refine .o1 (tk rfl rfl fun _ w hn k => ⟨_, v_move rfl (k.eq1 0 86 rfl), rfl⟩) ?_
        refine .o1 (tg rfl rfl rfl (fun _ _ k => k.eq1 1 87 rfl) fun _ w hn k => ⟨_, v_load rfl (k.fx 3 h172) (l_two Tryd.isAgg23 Tryd.sizeOf23 (hb177.new_ hn)), rfl⟩) ?_
        refine .o1 (tg rfl rfl rfl (fun _ _ k => k.eq1 1 87 rfl) fun _ w hn k => ⟨_, v_load rfl (k.fx 4 h173) (l_two Tryd.isAgg23 Tryd.sizeOf23 (hb178.new_ hn)), rfl⟩) ?_
        refine .o1 (cg rfl rfl rfl (fun _ _ k => k.eq1 1 87 rfl) rfl (fun _ w hn k => ⟨#[nv a, nv b], args2 (k.eq1 2 88 rfl) (k.eq1 3 89 rfl), fun _ => by kernel_rfl, less_c a b _⟩) fun _ => congrArg Value.bool ht181) ?_
        refine .o1 (tg rfl rfl rfl (fun _ _ k => k.eq1 1 87 rfl) fun _ w hn k => ⟨_, v_not rfl (k.eq1 4 90 rfl), rfl⟩) ?_
        refine .o1 (tg rfl rfl rfl (fun _ _ k => k.eq1 1 87 rfl) fun _ w hn k => ⟨_, v_move rfl (k.eq1 5 91 rfl), rfl⟩) ?_
        refine .o1 (tg rfl rfl rfl (fun _ _ k => k.eq1 6 92 rfl) fun _ w hn k => ⟨_, v_load rfl (k.fx 4 h173) (l_two Tryd.isAgg23 Tryd.sizeOf23 (hb178.new_ hn)), rfl⟩) ?_
        refine .o1 (tg rfl rfl rfl (fun _ _ k => k.eq1 6 92 rfl) fun _ w hn k => ⟨_, v_load rfl (k.fx 5 h174) (l_two Tryd.isAgg23 Tryd.sizeOf23 (hb179.new_ hn)), rfl⟩) ?_
        refine .o1 (cg rfl rfl rfl (fun _ _ k => k.eq1 6 92 rfl) rfl (fun _ w hn k => ⟨#[nv b, nv c], args2 (k.eq1 7 93 rfl) (k.eq1 8 94 rfl), fun _ => by kernel_rfl, less_c b c _⟩) fun _ => congrArg Value.bool ht182) ?_
        refine .o1 (tg rfl rfl rfl (fun _ _ k => k.eq1 6 92 rfl) fun _ w hn k => ⟨_, v_not rfl (k.eq1 9 95 rfl), rfl⟩) ?_
        refine .o1 (tg rfl rfl rfl (fun _ _ k => k.eq1 1 87 rfl) fun _ w hn k => ⟨_, v_pickF rfl (k.eq1 6 92 rfl) (k.eq1 10 96 rfl), rfl⟩) ?_
        refine .o1 (tg rfl rfl rfl (fun _ _ k => k.eq1 1 87 rfl) fun _ w hn k => ⟨_, v_move rfl (k.eq1 11 97 rfl), rfl⟩) ?_
        refine .o1 (sk rfl rfl rfl (fun _ _ _ k => k.eq1 12 98 rfl) (fun _ => rfl)) ?_
        refine .o1 (sk rfl rfl rfl (fun _ _ _ k => k.eq1 12 98 rfl) (fun _ => rfl)) ?_
        refine .o1 (sk rfl rfl rfl (fun _ _ _ k => k.eq1 12 98 rfl) (fun _ => rfl)) ?_
        refine .o1 (tg rfl rfl rfl (fun _ _ k => k.eq1 1 87 rfl) fun _ w hn k => ⟨_, v_pickT rfl (k.eq1 12 98 rfl) rfl, rfl⟩) ?_
        refine .o1 (tk rfl rfl fun _ w hn k => ⟨_, v_pickT rfl (k.eq1 1 87 rfl) (k.eq1 16 102 rfl), rfl⟩) ?_
        refine .o1 (tk rfl rfl fun _ w hn k => ⟨_, v_move rfl (k.eq1 17 103 rfl), rfl⟩) ?_
        refine .o1 (tg rfl rfl rfl (fun _ _ k => k.eq1 18 104 rfl) fun _ w hn k => ⟨_, v_load rfl (k.fx 3 h172) (l_two Tryd.isAgg23 Tryd.sizeOf23 (hb177.new_ hn)), rfl⟩) ?_
        refine .o1 (tg rfl rfl rfl (fun _ _ k => k.eq1 18 104 rfl) fun _ w hn k => ⟨_, v_load rfl (k.fx 4 h173) (l_two Tryd.isAgg23 Tryd.sizeOf23 (hb178.new_ hn)), rfl⟩) ?_
        refine .o1 (cg rfl rfl rfl (fun _ _ k => k.eq1 18 104 rfl) rfl (fun _ w hn k => ⟨#[nv a, nv b], args2 (k.eq1 19 105 rfl) (k.eq1 20 106 rfl), fun _ => by kernel_rfl, less_c a b _⟩) fun _ => congrArg Value.bool ht181) ?_
        refine .o1 (tg rfl rfl rfl (fun _ _ k => k.eq1 18 104 rfl) fun _ w hn k => ⟨_, v_move rfl (k.eq1 21 107 rfl), rfl⟩) ?_
        refine .o1 (tg rfl rfl rfl (fun _ _ k => k.eq1 22 108 rfl) fun _ w hn k => ⟨_, v_load rfl (k.fx 4 h173) (l_two Tryd.isAgg23 Tryd.sizeOf23 (hb178.new_ hn)), rfl⟩) ?_
        refine .o1 (tg rfl rfl rfl (fun _ _ k => k.eq1 22 108 rfl) fun _ w hn k => ⟨_, v_load rfl (k.fx 3 h172) (l_two Tryd.isAgg23 Tryd.sizeOf23 (hb177.new_ hn)), rfl⟩) ?_
        refine .o1 (cg rfl rfl rfl (fun _ _ k => k.eq1 22 108 rfl) rfl (fun _ w hn k => ⟨#[nv b, nv a], args2 (k.eq1 23 109 rfl) (k.eq1 24 110 rfl), fun _ => by kernel_rfl, less_c b a _⟩) fun _ => congrArg Value.bool ht194) ?_
        refine .o1 (tg rfl rfl rfl (fun _ _ k => k.eq1 18 104 rfl) fun _ w hn k => ⟨_, v_pickT rfl (k.eq1 22 108 rfl) (k.eq1 25 111 rfl), rfl⟩) ?_
        refine .o1 (tg rfl rfl rfl (fun _ _ k => k.eq1 18 104 rfl) fun _ w hn k => ⟨_, v_not rfl (k.eq1 26 112 rfl), rfl⟩) ?_
        refine .o1 (tk rfl rfl fun _ w hn k => ⟨_, v_pickT rfl (k.eq1 18 104 rfl) (k.eq1 27 113 rfl), rfl⟩) ?_
        refine .o1 (tk rfl rfl fun _ w hn k => ⟨_, v_move rfl (k.eq1 28 114 rfl), rfl⟩) ?_
        refine .o1 (tg rfl rfl rfl (fun _ _ k => k.eq1 29 115 rfl) fun _ w hn k => ⟨_, v_load rfl (k.fx 3 h172) (l_two Tryd.isAgg23 Tryd.sizeOf23 (hb177.new_ hn)), rfl⟩) ?_
        refine .o1 (tg rfl rfl rfl (fun _ _ k => k.eq1 29 115 rfl) fun _ w hn k => ⟨_, v_load rfl (k.fx 4 h173) (l_two Tryd.isAgg23 Tryd.sizeOf23 (hb178.new_ hn)), rfl⟩) ?_
        refine .o1 (cg rfl rfl rfl (fun _ _ k => k.eq1 29 115 rfl) rfl (fun _ w hn k => ⟨#[nv a, nv b], args2 (k.eq1 30 116 rfl) (k.eq1 31 117 rfl), fun _ => by kernel_rfl, less_c a b _⟩) fun _ => congrArg Value.bool ht181) ?_
        refine .o1 (tg rfl rfl rfl (fun _ _ k => k.eq1 29 115 rfl) fun _ w hn k => ⟨_, v_move rfl (k.eq1 32 118 rfl), rfl⟩) ?_
        refine .o1 (tg rfl rfl rfl (fun _ _ k => k.eq1 33 119 rfl) fun _ w hn k => ⟨_, v_load rfl (k.fx 3 h172) (l_two Tryd.isAgg23 Tryd.sizeOf23 (hb177.new_ hn)), rfl⟩) ?_
        refine .o1 (tg rfl rfl rfl (fun _ _ k => k.eq1 33 119 rfl) fun _ w hn k => ⟨_, v_load rfl (k.fx 4 h173) (l_two Tryd.isAgg23 Tryd.sizeOf23 (hb178.new_ hn)), rfl⟩) ?_
        refine .o1 (cg rfl rfl rfl (fun _ _ k => k.eq1 33 119 rfl) rfl (fun _ w hn k => ⟨#[nv a, nv b], args2 (k.eq1 34 120 rfl) (k.eq1 35 121 rfl), fun _ => by kernel_rfl, equal_c a b _⟩) fun _ => congrArg Value.bool ht195) ?_
        refine .o1 (tg rfl rfl rfl (fun _ _ k => k.eq1 29 115 rfl) fun _ w hn k => ⟨_, v_pickT rfl (k.eq1 33 119 rfl) (k.eq1 36 122 rfl), rfl⟩) ?_
        refine .o1 (tg rfl rfl rfl (fun _ _ k => k.eq1 29 115 rfl) fun _ w hn k => ⟨_, v_not rfl (k.eq1 37 123 rfl), rfl⟩) ?_
        refine .o1 (tk rfl rfl fun _ w hn k => ⟨_, v_pickT rfl (k.eq1 29 115 rfl) (k.eq1 38 124 rfl), rfl⟩) ?_
        refine .o1 (tk rfl rfl fun _ w hn k => ⟨_, v_assign rfl (k.eq1 39 125 rfl), rfl⟩) ?_
        exact .nil
      intro a196 w197 hn198 ha199
      have hs200 := ha199.size.trans hs170
      have hd201 := ha199.defers.trans hd171
      have h202 := ha199.ge 40 6 rfl
      have hN203 := hN180.transNew hn198
      clear hs170 hd171 h172 h173 h174 h175 h176 hb177 hq20 hb178 hq21 hb179 hq22 hN180 ha199 hn198
      refine st_nil ?_
      refine hK _ _ ?_
      clear hK K
      refine wp_ret (ret_k hd201 (v := .bool true) (res_t rfl h202 _) ?_)
      exact ⟨rfl, hN203⟩
    refine wp_g0 [true, true, true, true, true, true, true, true, true, true, true, true, true, true, true, true, true, true, true, true, true, true, true, true, true, true, true, true, true, true, true, true, true, true, true, true, true, true, true, true, true] [] 126
      [ve (.bool true),
       ve (.bool true),
       ve (nv a),
       ve (nv b),
       ve (.bool false),
       ve (.bool true),
       ve (.bool true),
       ve undef,
       ve undef,
       ve undef,
       ve undef,
       ve (.bool true),
       ve (.bool true),
       ve undef,
       ve undef,
       ve undef,
       ve (.bool true),
       ve (.bool true),
       ve (.bool true),
       ve (nv a),
       ve (nv b),
       ve (.bool false),
       ve (.bool false),
       ve undef,
       ve undef,
       ve undef,
       ve (.bool false),
       ve (.bool true),
       ve (.bool true),
       ve (.bool true),
       ve (nv a),
       ve (nv b),
       ve (.bool false),
       ve (.bool false),
       ve undef,
       ve undef,
       ve undef,
       ve (.bool false),
       ve (.bool true),
       ve (.bool true),
       ve (.bool true)] hs170 (.eq (.eq (.eq (.eq (.eq (.eq (.eq (.eq (.eq (.eq (.eq (.eq (.eq (.eq (.eq (.eq (.eq (.eq (.eq (.eq (.eq (.eq (.eq (.eq (.eq (.eq (.eq (.eq (.eq (.eq (.eq (.eq (.eq (.eq (.eq (.eq (.eq (.eq (.eq (.eq (.eq (.nil)))))))))))))))))))))))))))))))))))))))))) ?_ ?_
    · skip
      refine .o1 (ck rfl rfl rfl (fun _ w hn k => ⟨#[], rfl, fun _ => by kernel_rfl, first_c  _⟩) fun _ => rfl) ?_
      refine .o1 (tk rfl rfl fun _ w hn k => ⟨_, v_move rfl (k.eq1 0 86 rfl), rfl⟩) ?_
      refine .o1 (tg rfl rfl rfl (fun _ _ k => k.eq1 1 87 rfl) fun _ w hn k => ⟨_, v_load rfl (k.fx 3 h172) (l_two Tryd.isAgg23 Tryd.sizeOf23 (hb177.new_ hn)), rfl⟩) ?_
      refine .o1 (tg rfl rfl rfl (fun _ _ k => k.eq1 1 87 rfl) fun _ w hn k => ⟨_, v_load rfl (k.fx 4 h173) (l_two Tryd.isAgg23 Tryd.sizeOf23 (hb178.new_ hn)), rfl⟩) ?_
      refine .o1 (cg rfl rfl rfl (fun _ _ k => k.eq1 1 87 rfl) rfl (fun _ w hn k => ⟨#[nv a, nv b], args2 (k.eq1 2 88 rfl) (k.eq1 3 89 rfl), fun _ => by kernel_rfl, less_c a b _⟩) fun _ => congrArg Value.bool ht181) ?_
      refine .o1 (tg rfl rfl rfl (fun _ _ k => k.eq1 1 87 rfl) fun _ w hn k => ⟨_, v_not rfl (k.eq1 4 90 rfl), rfl⟩) ?_
      refine .o1 (tg rfl rfl rfl (fun _ _ k => k.eq1 1 87 rfl) fun _ w hn k => ⟨_, v_move rfl (k.eq1 5 91 rfl), rfl⟩) ?_
      refine .o1 (sk rfl rfl rfl (fun _ _ _ k => k.eq1 6 92 rfl) (fun _ => rfl)) ?_
      refine .o1 (sk rfl rfl rfl (fun _ _ _ k => k.eq1 6 92 rfl) (fun _ => rfl)) ?_
      refine .o1 (sk rfl rfl rfl (fun _ _ _ k => k.eq1 6 92 rfl) (fun _ => rfl)) ?_
      refine .o1 (sk rfl rfl rfl (fun _ _ _ k => k.eq1 6 92 rfl) (fun _ => rfl)) ?_
      refine .o1 (tg rfl rfl rfl (fun _ _ k => k.eq1 1 87 rfl) fun _ w hn k => ⟨_, v_pickT rfl (k.eq1 6 92 rfl) rfl, rfl⟩) ?_
      refine .o1 (tg rfl rfl rfl (fun _ _ k => k.eq1 1 87 rfl) fun _ w hn k => ⟨_, v_move rfl (k.eq1 11 97 rfl), rfl⟩) ?_
      refine .o1 (sk rfl rfl rfl (fun _ _ _ k => k.eq1 12 98 rfl) (fun _ => rfl)) ?_
      refine .o1 (sk rfl rfl rfl (fun _ _ _ k => k.eq1 12 98 rfl) (fun _ => rfl)) ?_
      refine .o1 (sk rfl rfl rfl (fun _ _ _ k => k.eq1 12 98 rfl) (fun _ => rfl)) ?_
      refine .o1 (tg rfl rfl rfl (fun _ _ k => k.eq1 1 87 rfl) fun _ w hn k => ⟨_, v_pickT rfl (k.eq1 12 98 rfl) rfl, rfl⟩) ?_
      refine .o1 (tk rfl rfl fun _ w hn k => ⟨_, v_pickT rfl (k.eq1 1 87 rfl) (k.eq1 16 102 rfl), rfl⟩) ?_
      refine .o1 (tk rfl rfl fun _ w hn k => ⟨_, v_move rfl (k.eq1 17 103 rfl), rfl⟩) ?_
      refine .o1 (tg rfl rfl rfl (fun _ _ k => k.eq1 18 104 rfl) fun _ w hn k => ⟨_, v_load rfl (k.fx 3 h172) (l_two Tryd.isAgg23 Tryd.sizeOf23 (hb177.new_ hn)), rfl⟩) ?_
      refine .o1 (tg rfl rfl rfl (fun _ _ k => k.eq1 18 104 rfl) fun _ w hn k => ⟨_, v_load rfl (k.fx 4 h173) (l_two Tryd.isAgg23 Tryd.sizeOf23 (hb178.new_ hn)), rfl⟩) ?_
      refine .o1 (cg rfl rfl rfl (fun _ _ k => k.eq1 18 104 rfl) rfl (fun _ w hn k => ⟨#[nv a, nv b], args2 (k.eq1 19 105 rfl) (k.eq1 20 106 rfl), fun _ => by kernel_rfl, less_c a b _⟩) fun _ => congrArg Value.bool ht181) ?_
      refine .o1 (tg rfl rfl rfl (fun _ _ k => k.eq1 18 104 rfl) fun _ w hn k => ⟨_, v_move rfl (k.eq1 21 107 rfl), rfl⟩) ?_
      refine .o1 (sk rfl rfl rfl (fun _ _ _ k => k.eq1 22 108 rfl) (fun _ => rfl)) ?_
      refine .o1 (sk rfl rfl rfl (fun _ _ _ k => k.eq1 22 108 rfl) (fun _ => rfl)) ?_
      refine .o1 (sk rfl rfl rfl (fun _ _ _ k => k.eq1 22 108 rfl) (fun _ => rfl)) ?_
      refine .o1 (tg rfl rfl rfl (fun _ _ k => k.eq1 18 104 rfl) fun _ w hn k => ⟨_, v_pickF rfl (k.eq1 22 108 rfl) rfl, rfl⟩) ?_
      refine .o1 (tg rfl rfl rfl (fun _ _ k => k.eq1 18 104 rfl) fun _ w hn k => ⟨_, v_not rfl (k.eq1 26 112 rfl), rfl⟩) ?_
      refine .o1 (tk rfl rfl fun _ w hn k => ⟨_, v_pickT rfl (k.eq1 18 104 rfl) (k.eq1 27 113 rfl), rfl⟩) ?_
      refine .o1 (tk rfl rfl fun _ w hn k => ⟨_, v_move rfl (k.eq1 28 114 rfl), rfl⟩) ?_
      refine .o1 (tg rfl rfl rfl (fun _ _ k => k.eq1 29 115 rfl) fun _ w hn k => ⟨_, v_load rfl (k.fx 3 h172) (l_two Tryd.isAgg23 Tryd.sizeOf23 (hb177.new_ hn)), rfl⟩) ?_
      refine .o1 (tg rfl rfl rfl (fun _ _ k => k.eq1 29 115 rfl) fun _ w hn k => ⟨_, v_load rfl (k.fx 4 h173) (l_two Tryd.isAgg23 Tryd.sizeOf23 (hb178.new_ hn)), rfl⟩) ?_
      refine .o1 (cg rfl rfl rfl (fun _ _ k => k.eq1 29 115 rfl) rfl (fun _ w hn k => ⟨#[nv a, nv b], args2 (k.eq1 30 116 rfl) (k.eq1 31 117 rfl), fun _ => by kernel_rfl, less_c a b _⟩) fun _ => congrArg Value.bool ht181) ?_
      refine .o1 (tg rfl rfl rfl (fun _ _ k => k.eq1 29 115 rfl) fun _ w hn k => ⟨_, v_move rfl (k.eq1 32 118 rfl), rfl⟩) ?_
      refine .o1 (sk rfl rfl rfl (fun _ _ _ k => k.eq1 33 119 rfl) (fun _ => rfl)) ?_
      refine .o1 (sk rfl rfl rfl (fun _ _ _ k => k.eq1 33 119 rfl) (fun _ => rfl)) ?_
      refine .o1 (sk rfl rfl rfl (fun _ _ _ k => k.eq1 33 119 rfl) (fun _ => rfl)) ?_
      refine .o1 (tg rfl rfl rfl (fun _ _ k => k.eq1 29 115 rfl) fun _ w hn k => ⟨_, v_pickF rfl (k.eq1 33 119 rfl) rfl, rfl⟩) ?_
      refine .o1 (tg rfl rfl rfl (fun _ _ k => k.eq1 29 115 rfl) fun _ w hn k => ⟨_, v_not rfl (k.eq1 37 123 rfl), rfl⟩) ?_
      refine .o1 (tk rfl rfl fun _ w hn k => ⟨_, v_pickT rfl (k.eq1 29 115 rfl) (k.eq1 38 124 rfl), rfl⟩) ?_
      refine .o1 (tk rfl rfl fun _ w hn k => ⟨_, v_assign rfl (k.eq1 39 125 rfl), rfl⟩) ?_
      exact .nil
    intro a204 w205 hn206 ha207
    have hs208 := ha207.size.trans hs170
    have hd209 := ha207.defers.trans hd171
    have h210 := ha207.ge 40 6 rfl
    have hN211 := hN180.transNew hn206
    clear hs170 hd171 h172 h173 h174 h175 h176 hb177 hq20 hb178 hq21 hb179 hq22 hN180 ha207 hn206
    refine st_nil ?_
    refine hK _ _ ?_
    clear hK K
    refine wp_ret (ret_k hd209 (v := .bool true) (res_t rfl h210 _) ?_)
    exact ⟨rfl, hN211⟩
  have hv212 : a91.eval (.tmp 8) = .bool false := h102.trans (congrArg Value.bool ht109)
  clear h102
  refine wp_g0 [true, true, true, true] [] 126
    [ve (.bool false),
     ve (.bool false),
     ve undef,
     ve (.bool false)] hs95 (.eq (.eq (.eq (.eq (.nil))))) ?_ ?_
  · skip
    refine .o1 (tk rfl rfl fun _ w hn k => ⟨_, v_move rfl (k.fx 8 hv212), rfl⟩) ?_
    refine .o1 (tk rfl rfl fun _ w hn k => ⟨_, v_move rfl (k.eq1 0 42 rfl), rfl⟩) ?_
    refine .o1 (sk rfl rfl rfl (fun _ _ _ k => k.eq1 1 43 rfl) (fun _ => rfl)) ?_
    refine .o1 (tk rfl rfl fun _ w hn k => ⟨_, v_pickF rfl (k.eq1 1 43 rfl) rfl, rfl⟩) ?_
    exact .nil
  intro a213 w214 hn215 ha216
  have hs217 := ha216.size.trans hs95
  have hd218 := ha216.defers.trans hd96
  have h219 := ha216.fx 3 h97
  have h220 := ha216.fx 4 h98
  have h221 := ha216.fx 5 h99
  have h222 := ha216.fx 6 h100
  have h223 := ha216.fx 7 h101
  have h224 := ha216.fx 8 hv212
  have h225 := ha216.fx 9 h103
  have h226 := ha216.ge 3 45 rfl
  have hb227 := hb104.new_ hn215
  have hb228 := hb105.new_ hn215
  have hb229 := hb106.new_ hn215
  have hb230 := hb107.new_ hn215
  have hN231 := hN108.transNew hn215
  clear hs95 hd96 h97 h98 h99 h100 h101 hv212 h103 hb104 hb105 hb106 hb107 hN108 ha216 hn215
  refine st_nil ?_
  refine hK _ _ ?_
  clear hK K
  refine wp_cond_false h226 ?_
  refine wp_skip ?_
  refine hK _ _ ?_
  clear hK K
  refine wp_seq_k fun K hK => ?_
  refine wp_g [true, true, true, true, false] [] [(4, false)] 126
    [ve (nv a),
     ve (nv b),
     ve (nv (remM a b)),
     IsNew w214 23 [iv 0, iv 0],
     vt]
    [3] (newsCons (fun v w h => IsNew.old h) newsNil) hs217 (.eq (.eq (.eq (.nw (.tt (.nil)))))) ?_ (fun i h => by cases h) ?_
  · skip
    refine .o1 (tk rfl rfl fun _ w hn k => ⟨_, v_load rfl (k.fx 3 h219) (l_two Tryd.isAgg23 Tryd.sizeOf23 (hb227.new_ hn)), rfl⟩) ?_
    refine .o1 (tk rfl rfl fun _ w hn k => ⟨_, v_load rfl (k.fx 4 h220) (l_two Tryd.isAgg23 Tryd.sizeOf23 (hb228.new_ hn)), rfl⟩) ?_
    refine .o1 (ck rfl rfl rfl (fun _ w hn k => ⟨#[nv a, nv b], args2 (k.eq1 0 60 rfl) (k.eq1 1 61 rfl), fun _ => by kernel_rfl, rem_c a b _⟩) fun _ => rfl) ?_
    refine .o2 (step_allocN (cs := [iv 0, iv 0]) (t := 23) rfl (noG rfl) (fun _ w hn k => rfl) (fun q _ hq hb => ⟨q, rfl, hq, hb⟩)) ?_
    refine .off ?_
    exact .nil
  intro a232 w233 hn234 ha235
  have hs236 := ha235.size.trans hs217
  have hd237 := ha235.defers.trans hd218
  have h238 := ha235.fx 3 h219
  have h239 := ha235.fx 4 h220
  have h240 := ha235.fx 5 h221
  have h241 := ha235.fx 6 h222
  have h242 := ha235.fx 8 h224
  have h243 := ha235.fx 9 h225
  have h244 := ha235.ge 2 62 rfl
  obtain ⟨q246, h245, hq247, hb248⟩ : IsNew _ _ _ _ _ := ha235.got 3 12 rfl (by kernel_rfl)
  have hb249 := hb227.new_ hn234
  have hb250 := hb228.new_ hn234
  have hb251 := hb229.new_ hn234
  have hne252 : q8 ≠ q246 := by have h1 := hb227.lt; have h2 := hq247; omega
  have hne253 : q12 ≠ q246 := by have h1 := hb228.lt; have h2 := hq247; omega
  have hne254 : q16 ≠ q246 := by have h1 := hb229.lt; have h2 := hq247; omega
  have hq255 := Nat.le_trans hN231.size hq247
  have hN256 := hN231.transNew hn234
  clear hs217 hd218 h219 h220 h221 h222 h223 h224 h225 h226 hb227 hb228 hb229 hb230 hq61 hq247 hN231 ha235 hn234
  obtain ⟨w257, -, hst258, hb259, hu260, hf261⟩ := s_two (v0 := iv ((remM a b).k)) (v1 := iv ((remM a b).n)) Tryd.sizeOf23 rfl rfl rfl hb248
  refine st_act rfl rfl fun K262 hL263 => a_store' rfl h245 h244 hst258 (hL263 _ _ trivial ?_)
  have hb264 := hf261 _ _ _ (hne252) hb249
  have hb265 := hf261 _ _ _ (hne253) hb250
  have hb266 := hf261 _ _ _ (hne254) hb251
  have hN267 := hN256.trans hu260 (fun k hk hkb => by subst hkb; omega)
  clear hb248 hst258 K262 hL263 hN256 hb249 hb250 hb251 hu260 hf261
  clear hne252
  clear hne253
  clear hne254
  refine st_nil ?_
  clear h244
  refine hK _ _ ?_
  clear hK K
  refine wp_seq_k fun K hK => ?_
  refine wp_seq_k fun K hK => ?_
  refine wp_g0 [true, true, true, true, true, true, true, true, true, true, true, true, true, true, true, true, true, true, true, true, true, true, true] [] 126
    [ve (.bool false),
     ve (.bool false),
     ve undef,
     ve undef,
     ve undef,
     ve undef,
     ve undef,
     ve undef,
     ve undef,
     ve undef,
     ve undef,
     ve undef,
     ve undef,
     ve undef,
     ve undef,
     ve undef,
     ve undef,
     ve undef,
     ve undef,
     ve undef,
     ve undef,
     ve undef,
     ve (.bool false)] hs236 (.eq (.eq (.eq (.eq (.eq (.eq (.eq (.eq (.eq (.eq (.eq (.eq (.eq (.eq (.eq (.eq (.eq (.eq (.eq (.eq (.eq (.eq (.eq (.nil)))))))))))))))))))))))) ?_ ?_
  · skip
    refine .o1 (tk rfl rfl fun _ w hn k => ⟨_, v_move rfl (k.fx 9 h243), rfl⟩) ?_
    refine .o1 (tk rfl rfl fun _ w hn k => ⟨_, v_move rfl (k.eq1 0 63 rfl), rfl⟩) ?_
    refine .o1 (sk rfl rfl rfl (fun _ _ _ k => k.eq1 1 64 rfl) (fun _ => rfl)) ?_
    refine .o1 (sk rfl rfl rfl (fun _ _ _ k => k.eq1 1 64 rfl) (fun _ => rfl)) ?_
    refine .o1 (sk rfl rfl rfl (fun _ _ _ k => k.eq1 1 64 rfl) (fun _ => rfl)) ?_
    refine .o1 (sk rfl rfl rfl (fun _ _ _ k => k.eq1 1 64 rfl) (fun _ => rfl)) ?_
    refine .o1 (sk rfl rfl rfl (fun _ _ _ k => k.eq1 1 64 rfl) (fun _ => rfl)) ?_
    refine .o1 (sk rfl rfl rfl (fun _ _ _ k => k.eq1 1 64 rfl) (fun _ => rfl)) ?_
    refine .o1 (sk rfl rfl rfl (fun _ _ _ k => k.eq1 1 64 rfl) (fun _ => rfl)) ?_
    refine .o1 (sk rfl rfl rfl (fun _ _ _ k => k.eq1 1 64 rfl) (fun _ => rfl)) ?_
    refine .o1 (sk rfl rfl rfl (fun _ _ _ k => k.eq1 1 64 rfl) (fun _ => rfl)) ?_
    refine .o1 (sk rfl rfl rfl (fun _ _ _ k => k.eq1 1 64 rfl) (fun _ => rfl)) ?_
    refine .o1 (sk rfl rfl rfl (fun _ _ _ k => k.eq1 1 64 rfl) (fun _ => rfl)) ?_
    refine .o1 (sk rfl rfl rfl (fun _ _ _ k => k.eq1 1 64 rfl) (fun _ => rfl)) ?_
    refine .o1 (sk rfl rfl rfl (fun _ _ _ k => k.eq1 1 64 rfl) (fun _ => rfl)) ?_
    refine .o1 (sk rfl rfl rfl (fun _ _ _ k => k.eq1 1 64 rfl) (fun _ => rfl)) ?_
    refine .o1 (su rfl rfl rfl (fun _ _ _ k => k.eq1 15 78 rfl) (fun _ => rfl)) ?_
    refine .o1 (su rfl rfl rfl (fun _ _ _ k => k.eq1 15 78 rfl) (fun _ => rfl)) ?_
    refine .o1 (su rfl rfl rfl (fun _ _ _ k => k.eq1 15 78 rfl) (fun _ => rfl)) ?_
    refine .o1 (su rfl rfl rfl (fun _ _ _ k => k.eq1 15 78 rfl) (fun _ => rfl)) ?_
    refine .o1 (su rfl rfl rfl (fun _ _ _ k => k.eq1 15 78 rfl) (fun _ => rfl)) ?_
    refine .o1 (sk rfl rfl rfl (fun _ _ _ k => k.eq1 1 64 rfl) (fun _ => rfl)) ?_
    refine .o1 (tk rfl rfl fun _ w hn k => ⟨_, v_pickF rfl (k.eq1 1 64 rfl) rfl, rfl⟩) ?_
    exact .nil
  intro a268 w269 hn270 ha271
  have hs272 := ha271.size.trans hs236
  have hd273 := ha271.defers.trans hd237
  have h274 := ha271.fx 3 h238
  have h275 := ha271.fx 4 h239
  have h276 := ha271.fx 5 h240
  have h277 := ha271.fx 6 h241
  have h278 := ha271.ge 22 85 rfl
  have hb279 := hb264.new_ hn270
  have hb280 := hb265.new_ hn270
  have hb281 := hb266.new_ hn270
  have hN282 := hN267.transNew hn270
  clear hs236 hd237 h238 h239 h240 h241 h242 h243 h245 hb264 hb265 hb266 hb259 hq255 hN267 ha271 hn270
  refine st_nil ?_
  refine hK _ _ ?_
  clear hK K
  refine wp_cond_false h278 ?_
  refine wp_skip ?_
  refine hK _ _ ?_
  clear hK K
  refine wp_seq_k fun K hK => ?_
  rcases Bool.eq_false_or_eq_true (lessM a b) with ht283 | ht283
  · skip
    rcases Bool.eq_false_or_eq_true (lessM b c) with ht284 | ht284
    · skip
      have ht285 : (lessM a c) = true := less_trans ht283 ht284
      have ht286 : (lessM b a) = false := less_asymm ht283
      have ht287 : (equalM a b) = false := less_ne ht283
      refine wp_g0 [true, true, true, true, true, true, true, true, true, true, true, true, true, true, true, true, true, true, true, true, true, true, true, true, true, true, true, true, true, true, true, true, true, true, true, true, true, true, true, true, true] [] 126
        [ve (.bool true),
         ve (.bool true),
         ve (nv a),
         ve (nv b),
         ve (.bool true),
         ve (.bool false),
         ve (.bool false),
         ve (nv b),
         ve (nv c),
         ve (.bool true),
         ve (.bool false),
         ve (.bool false),
         ve (.bool false),
         ve (nv a),
         ve (nv c),
         ve (.bool true),
         ve (.bool true),
         ve (.bool true),
         ve (.bool true),
         ve (nv a),
         ve (nv b),
         ve (.bool true),
         ve (.bool true),
         ve (nv b),
         ve (nv a),
         ve (.bool false),
         ve (.bool false),
         ve (.bool true),
         ve (.bool true),
         ve (.bool true),
         ve (nv a),
         ve (nv b),
         ve (.bool true),
         ve (.bool true),
         ve (nv a),
         ve (nv b),
         ve (.bool false),
         ve (.bool false),
         ve (.bool true),
         ve (.bool true),
         ve (.bool true)] hs272 (.eq (.eq (.eq (.eq (.eq (.eq (.eq (.eq (.eq (.eq (.eq (.eq (.eq (.eq (.eq (.eq (.eq (.eq (.eq (.eq (.eq (.eq (.eq (.eq (.eq (.eq (.eq (.eq (.eq (.eq (.eq (.eq (.eq (.eq (.eq (.eq (.eq (.eq (.eq (.eq (.eq (.nil)))))))))))))))))))))))))))))))))))))))))) ?_ ?_
      · skip
        refine .o1 (ck rfl rfl rfl (fun _ w hn k => ⟨#[], rfl, fun _ => by kernel_rfl, first_c  _⟩) fun _ => rfl) ?_
        refine .o1 (tk rfl rfl fun _ w hn k => ⟨_, v_move rfl (k.eq1 0 86 rfl), rfl⟩) ?_
        refine .o1 (tg rfl rfl rfl (fun _ _ k => k.eq1 1 87 rfl) fun _ w hn k => ⟨_, v_load rfl (k.fx 3 h274) (l_two Tryd.isAgg23 Tryd.sizeOf23 (hb279.new_ hn)), rfl⟩) ?_
        refine .o1 (tg rfl rfl rfl (fun _ _ k => k.eq1 1 87 rfl) fun _ w hn k => ⟨_, v_load rfl (k.fx 4 h275) (l_two Tryd.isAgg23 Tryd.sizeOf23 (hb280.new_ hn)), rfl⟩) ?_
        refine .o1 (cg rfl rfl rfl (fun _ _ k => k.eq1 1 87 rfl) rfl (fun _ w hn k => ⟨#[nv a, nv b], args2 (k.eq1 2 88 rfl) (k.eq1 3 89 rfl), fun _ => by kernel_rfl, less_c a b _⟩) fun _ => congrArg Value.bool ht283) ?_
        refine .o1 (tg rfl rfl rfl (fun _ _ k => k.eq1 1 87 rfl) fun _ w hn k => ⟨_, v_not rfl (k.eq1 4 90 rfl), rfl⟩) ?_
        refine .o1 (tg rfl rfl rfl (fun _ _ k => k.eq1 1 87 rfl) fun _ w hn k => ⟨_, v_move rfl (k.eq1 5 91 rfl), rfl⟩) ?_
        refine .o1 (tg rfl rfl rfl (fun _ _ k => k.eq1 6 92 rfl) fun _ w hn k => ⟨_, v_load rfl (k.fx 4 h275) (l_two Tryd.isAgg23 Tryd.sizeOf23 (hb280.new_ hn)), rfl⟩) ?_
        refine .o1 (tg rfl rfl rfl (fun _ _ k => k.eq1 6 92 rfl) fun _ w hn k => ⟨_, v_load rfl (k.fx 5 h276) (l_two Tryd.isAgg23 Tryd.sizeOf23 (hb281.new_ hn)), rfl⟩) ?_
        refine .o1 (cg rfl rfl rfl (fun _ _ k => k.eq1 6 92 rfl) rfl (fun _ w hn k => ⟨#[nv b, nv c], args2 (k.eq1 7 93 rfl) (k.eq1 8 94 rfl), fun _ => by kernel_rfl, less_c b c _⟩) fun _ => congrArg Value.bool ht284) ?_
        refine .o1 (tg rfl rfl rfl (fun _ _ k => k.eq1 6 92 rfl) fun _ w hn k => ⟨_, v_not rfl (k.eq1 9 95 rfl), rfl⟩) ?_
        refine .o1 (tg rfl rfl rfl (fun _ _ k => k.eq1 1 87 rfl) fun _ w hn k => ⟨_, v_pickF rfl (k.eq1 6 92 rfl) (k.eq1 10 96 rfl), rfl⟩) ?_
        refine .o1 (tg rfl rfl rfl (fun _ _ k => k.eq1 1 87 rfl) fun _ w hn k => ⟨_, v_move rfl (k.eq1 11 97 rfl), rfl⟩) ?_
        refine .o1 (tg rfl rfl rfl (fun _ _ k => k.eq1 12 98 rfl) fun _ w hn k => ⟨_, v_load rfl (k.fx 3 h274) (l_two Tryd.isAgg23 Tryd.sizeOf23 (hb279.new_ hn)), rfl⟩) ?_
        refine .o1 (tg rfl rfl rfl (fun _ _ k => k.eq1 12 98 rfl) fun _ w hn k => ⟨_, v_load rfl (k.fx 5 h276) (l_two Tryd.isAgg23 Tryd.sizeOf23 (hb281.new_ hn)), rfl⟩) ?_
        refine .o1 (cg rfl rfl rfl (fun _ _ k => k.eq1 12 98 rfl) rfl (fun _ w hn k => ⟨#[nv a, nv c], args2 (k.eq1 13 99 rfl) (k.eq1 14 100 rfl), fun _ => by kernel_rfl, less_c a c _⟩) fun _ => congrArg Value.bool ht285) ?_
        refine .o1 (tg rfl rfl rfl (fun _ _ k => k.eq1 1 87 rfl) fun _ w hn k => ⟨_, v_pickF rfl (k.eq1 12 98 rfl) (k.eq1 15 101 rfl), rfl⟩) ?_
        refine .o1 (tk rfl rfl fun _ w hn k => ⟨_, v_pickT rfl (k.eq1 1 87 rfl) (k.eq1 16 102 rfl), rfl⟩) ?_
        refine .o1 (tk rfl rfl fun _ w hn k => ⟨_, v_move rfl (k.eq1 17 103 rfl), rfl⟩) ?_
        refine .o1 (tg rfl rfl rfl (fun _ _ k => k.eq1 18 104 rfl) fun _ w hn k => ⟨_, v_load rfl (k.fx 3 h274) (l_two Tryd.isAgg23 Tryd.sizeOf23 (hb279.new_ hn)), rfl⟩) ?_
        refine .o1 (tg rfl rfl rfl (fun _ _ k => k.eq1 18 104 rfl) fun _ w hn k => ⟨_, v_load rfl (k.fx 4 h275) (l_two Tryd.isAgg23 Tryd.sizeOf23 (hb280.new_ hn)), rfl⟩) ?_
        refine .o1 (cg rfl rfl rfl (fun _ _ k => k.eq1 18 104 rfl) rfl (fun _ w hn k => ⟨#[nv a, nv b], args2 (k.eq1 19 105 rfl) (k.eq1 20 106 rfl), fun _ => by kernel_rfl, less_c a b _⟩) fun _ => congrArg Value.bool ht283) ?_
        refine .o1 (tg rfl rfl rfl (fun _ _ k => k.eq1 18 104 rfl) fun _ w hn k => ⟨_, v_move rfl (k.eq1 21 107 rfl), rfl⟩) ?_
        refine .o1 (tg rfl rfl rfl (fun _ _ k => k.eq1 22 108 rfl) fun _ w hn k => ⟨_, v_load rfl (k.fx 4 h275) (l_two Tryd.isAgg23 Tryd.sizeOf23 (hb280.new_ hn)), rfl⟩) ?_
        refine .o1 (tg rfl rfl rfl (fun _ _ k => k.eq1 22 108 rfl) fun _ w hn k => ⟨_, v_load rfl (k.fx 3 h274) (l_two Tryd.isAgg23 Tryd.sizeOf23 (hb279.new_ hn)), rfl⟩) ?_
        refine .o1 (cg rfl rfl rfl (fun _ _ k => k.eq1 22 108 rfl) rfl (fun _ w hn k => ⟨#[nv b, nv a], args2 (k.eq1 23 109 rfl) (k.eq1 24 110 rfl), fun _ => by kernel_rfl, less_c b a _⟩) fun _ => congrArg Value.bool ht286) ?_
        refine .o1 (tg rfl rfl rfl (fun _ _ k => k.eq1 18 104 rfl) fun _ w hn k => ⟨_, v_pickT rfl (k.eq1 22 108 rfl) (k.eq1 25 111 rfl), rfl⟩) ?_
        refine .o1 (tg rfl rfl rfl (fun _ _ k => k.eq1 18 104 rfl) fun _ w hn k => ⟨_, v_not rfl (k.eq1 26 112 rfl), rfl⟩) ?_
        refine .o1 (tk rfl rfl fun _ w hn k => ⟨_, v_pickT rfl (k.eq1 18 104 rfl) (k.eq1 27 113 rfl), rfl⟩) ?_
        refine .o1 (tk rfl rfl fun _ w hn k => ⟨_, v_move rfl (k.eq1 28 114 rfl), rfl⟩) ?_
        refine .o1 (tg rfl rfl rfl (fun _ _ k => k.eq1 29 115 rfl) fun _ w hn k => ⟨_, v_load rfl (k.fx 3 h274) (l_two Tryd.isAgg23 Tryd.sizeOf23 (hb279.new_ hn)), rfl⟩) ?_
        refine .o1 (tg rfl rfl rfl (fun _ _ k => k.eq1 29 115 rfl) fun _ w hn k => ⟨_, v_load rfl (k.fx 4 h275) (l_two Tryd.isAgg23 Tryd.sizeOf23 (hb280.new_ hn)), rfl⟩) ?_
        refine .o1 (cg rfl rfl rfl (fun _ _ k => k.eq1 29 115 rfl) rfl (fun _ w hn k => ⟨#[nv a, nv b], args2 (k.eq1 30 116 rfl) (k.eq1 31 117 rfl), fun _ => by kernel_rfl, less_c a b _⟩) fun _ => congrArg Value.bool ht283) ?_
        refine .o1 (tg rfl rfl rfl (fun _ _ k => k.eq1 29 115 rfl) fun _ w hn k => ⟨_, v_move rfl (k.eq1 32 118 rfl), rfl⟩) ?_
        refine .o1 (tg rfl rfl rfl (fun _ _ k => k.eq1 33 119 rfl) fun _ w hn k => ⟨_, v_load rfl (k.fx 3 h274) (l_two Tryd.isAgg23 Tryd.sizeOf23 (hb279.new_ hn)), rfl⟩) ?_
        refine .o1 (tg rfl rfl rfl (fun _ _ k => k.eq1 33 119 rfl) fun _ w hn k => ⟨_, v_load rfl (k.fx 4 h275) (l_two Tryd.isAgg23 Tryd.sizeOf23 (hb280.new_ hn)), rfl⟩) ?_
        refine .o1 (cg rfl rfl rfl (fun _ _ k => k.eq1 33 119 rfl) rfl (fun _ w hn k => ⟨#[nv a, nv b], args2 (k.eq1 34 120 rfl) (k.eq1 35 121 rfl), fun _ => by kernel_rfl, equal_c a b _⟩) fun _ => congrArg Value.bool ht287) ?_
        refine .o1 (tg rfl rfl rfl (fun _ _ k => k.eq1 29 115 rfl) fun _ w hn k => ⟨_, v_pickT rfl (k.eq1 33 119 rfl) (k.eq1 36 122 rfl), rfl⟩) ?_
        refine .o1 (tg rfl rfl rfl (fun _ _ k => k.eq1 29 115 rfl) fun _ w hn k => ⟨_, v_not rfl (k.eq1 37 123 rfl), rfl⟩) ?_
        refine .o1 (tk rfl rfl fun _ w hn k => ⟨_, v_pickT rfl (k.eq1 29 115 rfl) (k.eq1 38 124 rfl), rfl⟩) ?_
        refine .o1 (tk rfl rfl fun _ w hn k => ⟨_, v_assign rfl (k.eq1 39 125 rfl), rfl⟩) ?_
        exact .nil
      intro a288 w289 hn290 ha291
      have hs292 := ha291.size.trans hs272
      have hd293 := ha291.defers.trans hd273
      have h294 := ha291.ge 40 6 rfl
      have hN295 := hN282.transNew hn290
      clear hs272 hd273 h274 h275 h276 h277 h278 hb279 hq20 hb280 hq21 hb281 hq22 hN282 ha291 hn290
      refine st_nil ?_
      refine hK _ _ ?_
      clear hK K
      refine wp_ret (ret_k hd293 (v := .bool true) (res_t rfl h294 _) ?_)
      exact ⟨rfl, hN295⟩
    have ht296 : (lessM b a) = false := less_asymm ht283
    have ht297 : (equalM a b) = false := less_ne ht283
    refine wp_g0 [true, true, true, true, true, true, true, true, true, true, true, true, true, true, true, true, true, true, true, true, true, true, true, true, true, true, true, true, true, true, true, true, true, true, true, true, true, true, true, true, true] [] 126
      [ve (.bool true),
       ve (.bool true),
       ve (nv a),
       ve (nv b),
       ve (.bool true),
       ve (.bool false),
       ve (.bool false),
       ve (nv b),
       ve (nv c),
       ve (.bool false),
       ve (.bool true),
       ve (.bool true),
       ve (.bool true),
       ve undef,
       ve undef,
       ve undef,
       ve (.bool true),
       ve (.bool true),
       ve (.bool true),
       ve (nv a),
       ve (nv b),
       ve (.bool true),
       ve (.bool true),
       ve (nv b),
       ve (nv a),
       ve (.bool false),
       ve (.bool false),
       ve (.bool true),
       ve (.bool true),
       ve (.bool true),
       ve (nv a),
       ve (nv b),
       ve (.bool true),
       ve (.bool true),
       ve (nv a),
       ve (nv b),
       ve (.bool false),
       ve (.bool false),
       ve (.bool true),
       ve (.bool true),
       ve (.bool true)] hs272 (.eq (.eq (.eq (.eq (.eq (.eq (.eq (.eq (.eq (.eq (.eq (.eq (.eq (.eq (.eq (.eq (.eq (.eq (.eq (.eq (.eq (.eq (.eq (.eq (.eq (.eq (.eq (.eq (.eq (.eq (.eq (.eq (.eq (.eq (.eq (.eq (.eq (.eq (.eq (.eq (.eq (.nil)))))))))))))))))))))))))))))))))))))))))) ?_ ?_
    · skip
      refine .o1 (ck rfl rfl rfl (fun _ w hn k => ⟨#[], rfl, fun _ => by kernel_rfl, first_c  _⟩) fun _ => rfl) ?_
      refine .o1 (tk rfl rfl fun _ w hn k => ⟨_, v_move rfl (k.eq1 0 86 rfl), rfl⟩) ?_
      refine .o1 (tg rfl rfl rfl (fun _ _ k => k.eq1 1 87 rfl) fun _ w hn k => ⟨_, v_load rfl (k.fx 3 h274) (l_two Tryd.isAgg23 Tryd.sizeOf23 (hb279.new_ hn)), rfl⟩) ?_
      refine .o1 (tg rfl rfl rfl (fun _ _ k => k.eq1 1 87 rfl) fun _ w hn k => ⟨_, v_load rfl (k.fx 4 h275) (l_two Tryd.isAgg23 Tryd.sizeOf23 (hb280.new_ hn)), rfl⟩) ?_
      refine .o1 (cg rfl rfl rfl (fun _ _ k => k.eq1 1 87 rfl) rfl (fun _ w hn k => ⟨#[nv a, nv b], args2 (k.eq1 2 88 rfl) (k.eq1 3 89 rfl), fun _ => by kernel_rfl, less_c a b _⟩) fun _ => congrArg Value.bool ht283) ?_
      refine .o1 (tg rfl rfl rfl (fun _ _ k => k.eq1 1 87 rfl) fun _ w hn k => ⟨_, v_not rfl (k.eq1 4 90 rfl), rfl⟩) ?_
      refine .o1 (tg rfl rfl rfl (fun _ _ k => k.eq1 1 87 rfl) fun _ w hn k => ⟨_, v_move rfl (k.eq1 5 91 rfl), rfl⟩) ?_
      refine .o1 (tg rfl rfl rfl (fun _ _ k => k.eq1 6 92 rfl) fun _ w hn k => ⟨_, v_load rfl (k.fx 4 h275) (l_two Tryd.isAgg23 Tryd.sizeOf23 (hb280.new_ hn)), rfl⟩) ?_
      refine .o1 (tg rfl rfl rfl (fun _ _ k => k.eq1 6 92 rfl) fun _ w hn k => ⟨_, v_load rfl (k.fx 5 h276) (l_two Tryd.isAgg23 Tryd.sizeOf23 (hb281.new_ hn)), rfl⟩) ?_
      refine .o1 (cg rfl rfl rfl (fun _ _ k => k.eq1 6 92 rfl) rfl (fun _ w hn k => ⟨#[nv b, nv c], args2 (k.eq1 7 93 rfl) (k.eq1 8 94 rfl), fun _ => by kernel_rfl, less_c b c _⟩) fun _ => congrArg Value.bool ht284) ?_
      refine .o1 (tg rfl rfl rfl (fun _ _ k => k.eq1 6 92 rfl) fun _ w hn k => ⟨_, v_not rfl (k.eq1 9 95 rfl), rfl⟩) ?_
      refine .o1 (tg rfl rfl rfl (fun _ _ k => k.eq1 1 87 rfl) fun _ w hn k => ⟨_, v_pickF rfl (k.eq1 6 92 rfl) (k.eq1 10 96 rfl), rfl⟩) ?_
      refine .o1 (tg rfl rfl rfl (fun _ _ k => k.eq1 1 87 rfl) fun _ w hn k => ⟨_, v_move rfl (k.eq1 11 97 rfl), rfl⟩) ?_
      refine .o1 (sk rfl rfl rfl (fun _ _ _ k => k.eq1 12 98 rfl) (fun _ => rfl)) ?_
      refine .o1 (sk rfl rfl rfl (fun _ _ _ k => k.eq1 12 98 rfl) (fun _ => rfl)) ?_
      refine .o1 (sk rfl rfl rfl (fun _ _ _ k => k.eq1 12 98 rfl) (fun _ => rfl)) ?_
      refine .o1 (tg rfl rfl rfl (fun _ _ k => k.eq1 1 87 rfl) fun _ w hn k => ⟨_, v_pickT rfl (k.eq1 12 98 rfl) rfl, rfl⟩) ?_
      refine .o1 (tk rfl rfl fun _ w hn k => ⟨_, v_pickT rfl (k.eq1 1 87 rfl) (k.eq1 16 102 rfl), rfl⟩) ?_
      refine .o1 (tk rfl rfl fun _ w hn k => ⟨_, v_move rfl (k.eq1 17 103 rfl), rfl⟩) ?_
      refine .o1 (tg rfl rfl rfl (fun _ _ k => k.eq1 18 104 rfl) fun _ w hn k => ⟨_, v_load rfl (k.fx 3 h274) (l_two Tryd.isAgg23 Tryd.sizeOf23 (hb279.new_ hn)), rfl⟩) ?_
      refine .o1 (tg rfl rfl rfl (fun _ _ k => k.eq1 18 104 rfl) fun _ w hn k => ⟨_, v_load rfl (k.fx 4 h275) (l_two Tryd.isAgg23 Tryd.sizeOf23 (hb280.new_ hn)), rfl⟩) ?_
      refine .o1 (cg rfl rfl rfl (fun _ _ k => k.eq1 18 104 rfl) rfl (fun _ w hn k => ⟨#[nv a, nv b], args2 (k.eq1 19 105 rfl) (k.eq1 20 106 rfl), fun _ => by kernel_rfl, less_c a b _⟩) fun _ => congrArg Value.bool ht283) ?_
      refine .o1 (tg rfl rfl rfl (fun _ _ k => k.eq1 18 104 rfl) fun _ w hn k => ⟨_, v_move rfl (k.eq1 21 107 rfl), rfl⟩) ?_
      refine .o1 (tg rfl rfl rfl (fun _ _ k => k.eq1 22 108 rfl) fun _ w hn k => ⟨_, v_load rfl (k.fx 4 h275) (l_two Tryd.isAgg23 Tryd.sizeOf23 (hb280.new_ hn)), rfl⟩) ?_
      refine .o1 (tg rfl rfl rfl (fun _ _ k => k.eq1 22 108 rfl) fun _ w hn k => ⟨_, v_load rfl (k.fx 3 h274) (l_two Tryd.isAgg23 Tryd.sizeOf23 (hb279.new_ hn)), rfl⟩) ?_
      refine .o1 (cg rfl rfl rfl (fun _ _ k => k.eq1 22 108 rfl) rfl (fun _ w hn k => ⟨#[nv b, nv a], args2 (k.eq1 23 109 rfl) (k.eq1 24 110 rfl), fun _ => by kernel_rfl, less_c b a _⟩) fun _ => congrArg Value.bool ht296) ?_
      refine .o1 (tg rfl rfl rfl (fun _ _ k => k.eq1 18 104 rfl) fun _ w hn k => ⟨_, v_pickT rfl (k.eq1 22 108 rfl) (k.eq1 25 111 rfl), rfl⟩) ?_
      refine .o1 (tg rfl rfl rfl (fun _ _ k => k.eq1 18 104 rfl) fun _ w hn k => ⟨_, v_not rfl (k.eq1 26 112 rfl), rfl⟩) ?_
      refine .o1 (tk rfl rfl fun _ w hn k => ⟨_, v_pickT rfl (k.eq1 18 104 rfl) (k.eq1 27 113 rfl), rfl⟩) ?_
      refine .o1 (tk rfl rfl fun _ w hn k => ⟨_, v_move rfl (k.eq1 28 114 rfl), rfl⟩) ?_
      refine .o1 (tg rfl rfl rfl (fun _ _ k => k.eq1 29 115 rfl) fun _ w hn k => ⟨_, v_load rfl (k.fx 3 h274) (l_two Tryd.isAgg23 Tryd.sizeOf23 (hb279.new_ hn)), rfl⟩) ?_
      refine .o1 (tg rfl rfl rfl (fun _ _ k => k.eq1 29 115 rfl) fun _ w hn k => ⟨_, v_load rfl (k.fx 4 h275) (l_two Tryd.isAgg23 Tryd.sizeOf23 (hb280.new_ hn)), rfl⟩) ?_
      refine .o1 (cg rfl rfl rfl (fun _ _ k => k.eq1 29 115 rfl) rfl (fun _ w hn k => ⟨#[nv a, nv b], args2 (k.eq1 30 116 rfl) (k.eq1 31 117 rfl), fun _ => by kernel_rfl, less_c a b _⟩) fun _ => congrArg Value.bool ht283) ?_
      refine .o1 (tg rfl rfl rfl (fun _ _ k => k.eq1 29 115 rfl) fun _ w hn k => ⟨_, v_move rfl (k.eq1 32 118 rfl), rfl⟩) ?_
      refine .o1 (tg rfl rfl rfl (fun _ _ k => k.eq1 33 119 rfl) fun _ w hn k => ⟨_, v_load rfl (k.fx 3 h274) (l_two Tryd.isAgg23 Tryd.sizeOf23 (hb279.new_ hn)), rfl⟩) ?_
      refine .o1 (tg rfl rfl rfl (fun _ _ k => k.eq1 33 119 rfl) fun _ w hn k => ⟨_, v_load rfl (k.fx 4 h275) (l_two Tryd.isAgg23 Tryd.sizeOf23 (hb280.new_ hn)), rfl⟩) ?_
      refine .o1 (cg rfl rfl rfl (fun _ _ k => k.eq1 33 119 rfl) rfl (fun _ w hn k => ⟨#[nv a, nv b], args2 (k.eq1 34 120 rfl) (k.eq1 35 121 rfl), fun _ => by kernel_rfl, equal_c a b _⟩) fun _ => congrArg Value.bool ht297) ?_
      refine .o1 (tg rfl rfl rfl (fun _ _ k => k.eq1 29 115 rfl) fun _ w hn k => ⟨_, v_pickT rfl (k.eq1 33 119 rfl) (k.eq1 36 122 rfl), rfl⟩) ?_
      refine .o1 (tg rfl rfl rfl (fun _ _ k => k.eq1 29 115 rfl) fun _ w hn k => ⟨_, v_not rfl (k.eq1 37 123 rfl), rfl⟩) ?_
      refine .o1 (tk rfl rfl fun _ w hn k => ⟨_, v_pickT rfl (k.eq1 29 115 rfl) (k.eq1 38 124 rfl), rfl⟩) ?_
      refine .o1 (tk rfl rfl fun _ w hn k => ⟨_, v_assign rfl (k.eq1 39 125 rfl), rfl⟩) ?_
      exact .nil
    intro a298 w299 hn300 ha301
    have hs302 := ha301.size.trans hs272
    have hd303 := ha301.defers.trans hd273
    have h304 := ha301.ge 40 6 rfl
    have hN305 := hN282.transNew hn300
    clear hs272 hd273 h274 h275 h276 h277 h278 hb279 hq20 hb280 hq21 hb281 hq22 hN282 ha301 hn300
    refine st_nil ?_
    refine hK _ _ ?_
    clear hK K
    refine wp_ret (ret_k hd303 (v := .bool true) (res_t rfl h304 _) ?_)
    exact ⟨rfl, hN305⟩
  refine wp_g0 [true, true, true, true, true, true, true, true, true, true, true, true, true, true, true, true, true, true, true, true, true, true, true, true, true, true, true, true, true, true, true, true, true, true, true, true, true, true, true, true, true] [] 126
    [ve (.bool true),
     ve (.bool true),
     ve (nv a),
     ve (nv b),
     ve (.bool false),
     ve (.bool true),
     ve (.bool true),
     ve undef,
     ve undef,
     ve undef,
     ve undef,
     ve (.bool true),
     ve (.bool true),
     ve undef,
     ve undef,
     ve undef,
     ve (.bool true),
     ve (.bool true),
     ve (.bool true),
     ve (nv a),
     ve (nv b),
     ve (.bool false),
     ve (.bool false),
     ve undef,
     ve undef,
     ve undef,
     ve (.bool false),
     ve (.bool true),
     ve (.bool true),
     ve (.bool true),
     ve (nv a),
     ve (nv b),
     ve (.bool false),
     ve (.bool false),
     ve undef,
     ve undef,
     ve undef,
     ve (.bool false),
     ve (.bool true),
     ve (.bool true),
     ve (.bool true)] hs272 (.eq (.eq (.eq (.eq (.eq (.eq (.eq (.eq (.eq (.eq (.eq (.eq (.eq (.eq (.eq (.eq (.eq (.eq (.eq (.eq (.eq (.eq (.eq (.eq (.eq (.eq (.eq (.eq (.eq (.eq (.eq (.eq (.eq (.eq (.eq (.eq (.eq (.eq (.eq (.eq (.eq (.nil)))))))))))))))))))))))))))))))))))))))))) ?_ ?_
  · skip
    refine .o1 (ck rfl rfl rfl (fun _ w hn k => ⟨#[], rfl, fun _ => by kernel_rfl, first_c  _⟩) fun _ => rfl) ?_
    refine .o1 (tk rfl rfl fun _ w hn k => ⟨_, v_move rfl (k.eq1 0 86 rfl), rfl⟩) ?_
    refine .o1 (tg rfl rfl rfl (fun _ _ k => k.eq1 1 87 rfl) fun _ w hn k => ⟨_, v_load rfl (k.fx 3 h274) (l_two Tryd.isAgg23 Tryd.sizeOf23 (hb279.new_ hn)), rfl⟩) ?_
    refine .o1 (tg rfl rfl rfl (fun _ _ k => k.eq1 1 87 rfl) fun _ w hn k => ⟨_, v_load rfl (k.fx 4 h275) (l_two Tryd.isAgg23 Tryd.sizeOf23 (hb280.new_ hn)), rfl⟩) ?_
    refine .o1 (cg rfl rfl rfl (fun _ _ k => k.eq1 1 87 rfl) rfl (fun _ w hn k => ⟨#[nv a, nv b], args2 (k.eq1 2 88 rfl) (k.eq1 3 89 rfl), fun _ => by kernel_rfl, less_c a b _⟩) fun _ => congrArg Value.bool ht283) ?_
    refine .o1 (tg rfl rfl rfl (fun _ _ k => k.eq1 1 87 rfl) fun _ w hn k => ⟨_, v_not rfl (k.eq1 4 90 rfl), rfl⟩) ?_
    refine .o1 (tg rfl rfl rfl (fun _ _ k => k.eq1 1 87 rfl) fun _ w hn k => ⟨_, v_move rfl (k.eq1 5 91 rfl), rfl⟩) ?_
    refine .o1 (sk rfl rfl rfl (fun _ _ _ k => k.eq1 6 92 rfl) (fun _ => rfl)) ?_
    refine .o1 (sk rfl rfl rfl (fun _ _ _ k => k.eq1 6 92 rfl) (fun _ => rfl)) ?_
    refine .o1 (sk rfl rfl rfl (fun _ _ _ k => k.eq1 6 92 rfl) (fun _ => rfl)) ?_
    refine .o1 (sk rfl rfl rfl (fun _ _ _ k => k.eq1 6 92 rfl) (fun _ => rfl)) ?_
    refine .o1 (tg rfl rfl rfl (fun _ _ k => k.eq1 1 87 rfl) fun _ w hn k => ⟨_, v_pickT rfl (k.eq1 6 92 rfl) rfl, rfl⟩) ?_
    refine .o1 (tg rfl rfl rfl (fun _ _ k => k.eq1 1 87 rfl) fun _ w hn k => ⟨_, v_move rfl (k.eq1 11 97 rfl), rfl⟩) ?_
    refine .o1 (sk rfl rfl rfl (fun _ _ _ k => k.eq1 12 98 rfl) (fun _ => rfl)) ?_
    refine .o1 (sk rfl rfl rfl (fun _ _ _ k => k.eq1 12 98 rfl) (fun _ => rfl)) ?_
    refine .o1 (sk rfl rfl rfl (fun _ _ _ k => k.eq1 12 98 rfl) (fun _ => rfl)) ?_
    refine .o1 (tg rfl rfl rfl (fun _ _ k => k.eq1 1 87 rfl) fun _ w hn k => ⟨_, v_pickT rfl (k.eq1 12 98 rfl) rfl, rfl⟩) ?_
    refine .o1 (tk rfl rfl fun _ w hn k => ⟨_, v_pickT rfl (k.eq1 1 87 rfl) (k.eq1 16 102 rfl), rfl⟩) ?_
    refine .o1 (tk rfl rfl fun _ w hn k => ⟨_, v_move rfl (k.eq1 17 103 rfl), rfl⟩) ?_
    refine .o1 (tg rfl rfl rfl (fun _ _ k => k.eq1 18 104 rfl) fun _ w hn k => ⟨_, v_load rfl (k.fx 3 h274) (l_two Tryd.isAgg23 Tryd.sizeOf23 (hb279.new_ hn)), rfl⟩) ?_
    refine .o1 (tg rfl rfl rfl (fun _ _ k => k.eq1 18 104 rfl) fun _ w hn k => ⟨_, v_load rfl (k.fx 4 h275) (l_two Tryd.isAgg23 Tryd.sizeOf23 (hb280.new_ hn)), rfl⟩) ?_
    refine .o1 (cg rfl rfl rfl (fun _ _ k => k.eq1 18 104 rfl) rfl (fun _ w hn k => ⟨#[nv a, nv b], args2 (k.eq1 19 105 rfl) (k.eq1 20 106 rfl), fun _ => by kernel_rfl, less_c a b _⟩) fun _ => congrArg Value.bool ht283) ?_
    refine .o1 (tg rfl rfl rfl (fun _ _ k => k.eq1 18 104 rfl) fun _ w hn k => ⟨_, v_move rfl (k.eq1 21 107 rfl), rfl⟩) ?_
    refine .o1 (sk rfl rfl rfl (fun _ _ _ k => k.eq1 22 108 rfl) (fun _ => rfl)) ?_
    refine .o1 (sk rfl rfl rfl (fun _ _ _ k => k.eq1 22 108 rfl) (fun _ => rfl)) ?_
    refine .o1 (sk rfl rfl rfl (fun _ _ _ k => k.eq1 22 108 rfl) (fun _ => rfl)) ?_
    refine .o1 (tg rfl rfl rfl (fun _ _ k => k.eq1 18 104 rfl) fun _ w hn k => ⟨_, v_pickF rfl (k.eq1 22 108 rfl) rfl, rfl⟩) ?_
    refine .o1 (tg rfl rfl rfl (fun _ _ k => k.eq1 18 104 rfl) fun _ w hn k => ⟨_, v_not rfl (k.eq1 26 112 rfl), rfl⟩) ?_
    refine .o1 (tk rfl rfl fun _ w hn k => ⟨_, v_pickT rfl (k.eq1 18 104 rfl) (k.eq1 27 113 rfl), rfl⟩) ?_
    refine .o1 (tk rfl rfl fun _ w hn k => ⟨_, v_move rfl (k.eq1 28 114 rfl), rfl⟩) ?_
    refine .o1 (tg rfl rfl rfl (fun _ _ k => k.eq1 29 115 rfl) fun _ w hn k => ⟨_, v_load rfl (k.fx 3 h274) (l_two Tryd.isAgg23 Tryd.sizeOf23 (hb279.new_ hn)), rfl⟩) ?_
    refine .o1 (tg rfl rfl rfl (fun _ _ k => k.eq1 29 115 rfl) fun _ w hn k => ⟨_, v_load rfl (k.fx 4 h275) (l_two Tryd.isAgg23 Tryd.sizeOf23 (hb280.new_ hn)), rfl⟩) ?_
    refine .o1 (cg rfl rfl rfl (fun _ _ k => k.eq1 29 115 rfl) rfl (fun _ w hn k => ⟨#[nv a, nv b], args2 (k.eq1 30 116 rfl) (k.eq1 31 117 rfl), fun _ => by kernel_rfl, less_c a b _⟩) fun _ => congrArg Value.bool ht283) ?_
    refine .o1 (tg rfl rfl rfl (fun _ _ k => k.eq1 29 115 rfl) fun _ w hn k => ⟨_, v_move rfl (k.eq1 32 118 rfl), rfl⟩) ?_
    refine .o1 (sk rfl rfl rfl (fun _ _ _ k => k.eq1 33 119 rfl) (fun _ => rfl)) ?_
    refine .o1 (sk rfl rfl rfl (fun _ _ _ k => k.eq1 33 119 rfl) (fun _ => rfl)) ?_
    refine .o1 (sk rfl rfl rfl (fun _ _ _ k => k.eq1 33 119 rfl) (fun _ => rfl)) ?_
    refine .o1 (tg rfl rfl rfl (fun _ _ k => k.eq1 29 115 rfl) fun _ w hn k => ⟨_, v_pickF rfl (k.eq1 33 119 rfl) rfl, rfl⟩) ?_
    refine .o1 (tg rfl rfl rfl (fun _ _ k => k.eq1 29 115 rfl) fun _ w hn k => ⟨_, v_not rfl (k.eq1 37 123 rfl), rfl⟩) ?_
    refine .o1 (tk rfl rfl fun _ w hn k => ⟨_, v_pickT rfl (k.eq1 29 115 rfl) (k.eq1 38 124 rfl), rfl⟩) ?_
    refine .o1 (tk rfl rfl fun _ w hn k => ⟨_, v_assign rfl (k.eq1 39 125 rfl), rfl⟩) ?_
    exact .nil
  intro a306 w307 hn308 ha309
  have hs310 := ha309.size.trans hs272
  have hd311 := ha309.defers.trans hd273
  have h312 := ha309.ge 40 6 rfl
  have hN313 := hN282.transNew hn308
  clear hs272 hd273 h274 h275 h276 h277 h278 hb279 hq20 hb280 hq21 hb281 hq22 hN282 ha309 hn308
  refine st_nil ?_
  refine hK _ _ ?_
  clear hK K
  refine wp_ret (ret_k hd311 (v := .bool true) (res_t rfl h312 _) ?_)
  exact ⟨rfl, hN313⟩
end Go.Proofs.YtldakajmhfdfgaaDoor
