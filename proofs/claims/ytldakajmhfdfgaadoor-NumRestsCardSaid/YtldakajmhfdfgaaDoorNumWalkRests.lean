/- NumRests: the walk -/
import Derived.Test.YtldakajmhfdfgaaDoorNumWalkRestsb
namespace Go.Proofs.YtldakajmhfdfgaaDoor
open Go.RowKit
set_option linter.unusedSimpArgs false
set_option linter.unusedVariables false
set_option maxHeartbeats 8000000 in
set_option maxRecDepth 100000 in
theorem rests_walk5 (a : Nm) (b : Nm) (c : Nm) (w : World) (hy0 : mayB a = true) (hy1 : mayB b = true) (hy2 : decide ((a.k) = 0) = true) (hy3 : decide ((b.k) = 0) = true) (hy4 : decide ((b.n) = 0) = false) : Calls Tryd.prog 9 #[nv a, nv b, nv c] w (IsRet (.bool true) w) := by
  refine enter_abs Tryd.func9 rfl fun a0 hs0 hd0 hp => ?_
  have hs0 : a0.tmps.size = 126 := hs0
  have hN0 : New w w := Upd.refl _ _
  have hp0 : a0.eval (.tmp 0) = nv a := hp 0 _ rfl
  have hp1 : a0.eval (.tmp 1) = nv b := hp 1 _ rfl
  have hp2 : a0.eval (.tmp 2) = nv c := hp 2 _ rfl
  clear hp
  refine wp_seq_k fun K hK => ?_
  have hbdb := may_n_bd hy1 hy3
  have hbdr := rem_n_bd a b
  refine wp_g [true, true, true, true] [] [] 126
    [IsNew w 23 [iv a.k, iv a.n],
     IsNew w 23 [iv b.k, iv b.n],
     IsNew w 23 [iv c.k, iv c.n],
     ve (.bool false)]
    [0, 1, 2] (newsCons (fun v w h => IsNew.old h) (newsCons (fun v w h => IsNew.old h) (newsCons (fun v w h => IsNew.old h) newsNil))) hs0 (.nw (.nw (.nw (.eq (.nil))))) ?_ (fun i h => by cases h) ?_
  · skip
    refine .o2 (step_allocN (cs := [iv a.k, iv a.n]) (t := 23) rfl (noG rfl) (fun _ w hn k => v_box rfl (k.fx 0 hp0) (fun w => rfl)) (fun q _ hq hb => ⟨q, rfl, hq, hb⟩)) ?_
    refine .o2 (step_allocN (cs := [iv b.k, iv b.n]) (t := 23) rfl (noG rfl) (fun _ w hn k => v_box rfl (k.fx 1 hp1) (fun w => rfl)) (fun q _ hq hb => ⟨q, rfl, hq, hb⟩)) ?_
    refine .o2 (step_allocN (cs := [iv c.k, iv c.n]) (t := 23) rfl (noG rfl) (fun _ w hn k => v_box rfl (k.fx 2 hp2) (fun w => rfl)) (fun q _ hq hb => ⟨q, rfl, hq, hb⟩)) ?_
    refine .o1 (tk rfl rfl fun _ w hn k => ⟨_, v_assign rfl rfl, rfl⟩) ?_
    exact .nil
  intro a1 w2 hn3 ha4
  have hs5 := ha4.size.trans hs0
  have hd6 := ha4.defers.trans hd0
  obtain ⟨q8, h7, hq9, hb10⟩ : IsNew _ _ _ _ _ := ha4.got 0 3 rfl (by kernel_rfl)
  obtain ⟨q12, h11, hq13, hb14⟩ : IsNew _ _ _ _ _ := ha4.got 1 4 rfl (by kernel_rfl)
  obtain ⟨q16, h15, hq17, hb18⟩ : IsNew _ _ _ _ _ := ha4.got 2 5 rfl (by kernel_rfl)
  have h19 := ha4.ge 3 6 rfl
  have hq20 := Nat.le_trans hN0.size hq9
  have hq21 := Nat.le_trans hN0.size hq13
  have hq22 := Nat.le_trans hN0.size hq17
  have hN23 := hN0.transNew hn3
  clear hs0 hd0 hp0 hp1 hp2 hq9 hq13 hq17 hN0 ha4 hn3
  refine st_nil ?_
  refine hK _ _ ?_
  clear hK K
  refine wp_seq_k fun K hK => ?_
  refine wp_seq_k fun K hK => ?_
  refine wp_g0 [true, true] [] 126
    [ve (.bool true),
     ve (.bool false)] hs5 (.eq (.eq (.nil))) ?_ ?_
  · skip
    refine .o1 (ck rfl rfl rfl (fun _ w hn k => ⟨#[], rfl, fun _ => by kernel_rfl, first_c  _⟩) fun _ => rfl) ?_
    refine .o1 (tk rfl rfl fun _ w hn k => ⟨_, v_not rfl (k.eq1 0 13 rfl), rfl⟩) ?_
    exact .nil
  intro a24 w25 hn26 ha27
  have hs28 := ha27.size.trans hs5
  have hd29 := ha27.defers.trans hd6
  have h30 := ha27.fx 3 h7
  have h31 := ha27.fx 4 h11
  have h32 := ha27.fx 5 h15
  have h33 := ha27.fx 6 h19
  have h34 := ha27.ge 1 14 rfl
  have hb35 := hb10.new_ hn26
  have hb36 := hb14.new_ hn26
  have hb37 := hb18.new_ hn26
  have hN38 := hN23.transNew hn26
  clear hs5 hd6 h7 h11 h15 h19 hb10 hb14 hb18 hN23 ha27 hn26
  refine st_nil ?_
  refine hK _ _ ?_
  clear hK K
  refine wp_cond_false h34 ?_
  refine wp_skip ?_
  refine hK _ _ ?_
  clear hK K
  refine wp_seq_k fun K hK => ?_
  refine wp_g [true, true, true, true, true, true, true, false, false] [5] [(7, false), (8, true)] 126
    [ve (nv a),
     ve (nv b),
     ve (.tuple #[nv ((divM a b).1), .bool ((divM a b).2)]),
     ve (.tuple #[nv ((divM a b).1), .bool ((divM a b).2)]),
     ve (nv ((divM a b).1)),
     ve (.bool ((divM a b).2)),
     IsNew w25 23 [iv 0, iv 0],
     vt,
     vt]
    [6] (newsCons (fun v w h => IsNew.old h) newsNil) hs28 (.eq (.eq (.eq (.eq (.eq (.eq (.nw (.tt (.tt (.nil)))))))))) ?_ ?_ ?_
  · skip
    refine .o1 (tk rfl rfl fun _ w hn k => ⟨_, v_load rfl (k.fx 3 h30) (l_two Tryd.isAgg23 Tryd.sizeOf23 (hb35.new_ hn)), rfl⟩) ?_
    refine .o1 (tk rfl rfl fun _ w hn k => ⟨_, v_load rfl (k.fx 4 h31) (l_two Tryd.isAgg23 Tryd.sizeOf23 (hb36.new_ hn)), rfl⟩) ?_
    refine .o1 (ck rfl rfl rfl (fun _ w hn k => ⟨#[nv a, nv b], args2 (k.eq1 0 16 rfl) (k.eq1 1 17 rfl), fun _ => by kernel_rfl, div_c a b _⟩) fun _ => rfl) ?_
    refine .o1 (tk rfl rfl fun _ w hn k => ⟨_, v_move rfl (k.eq1 2 18 rfl), rfl⟩) ?_
    refine .o1 (tk rfl rfl fun _ w hn k => ⟨_, v_extract rfl (k.eq1 3 15 rfl) rfl, rfl⟩) ?_
    refine .o3 ?_
    refine .o2 (step_allocN (cs := [iv 0, iv 0]) (t := 23) rfl (noG rfl) (fun _ w hn k => rfl) (fun q _ hq hb => ⟨q, rfl, hq, hb⟩)) ?_
    refine .off ?_
    refine .off ?_
    exact .nil
  · skip
    intro i h
    simp only [List.contains_eq_mem, List.mem_cons, List.not_mem_nil, or_false, decide_eq_true_eq] at h
    subst h
    · exact eager_take rfl rfl fun _ w hn k => ⟨.bool ((divM a b).2), fun w => v_extract rfl (k.eq1 3 15 rfl) rfl, rfl⟩
  intro a39 w40 hn41 ha42
  have hs43 := ha42.size.trans hs28
  have hd44 := ha42.defers.trans hd29
  have h45 := ha42.fx 3 h30
  have h46 := ha42.fx 4 h31
  have h47 := ha42.fx 5 h32
  have h48 := ha42.fx 6 h33
  have h49 := ha42.ge 4 19 rfl
  have h50 := ha42.ge 5 20 rfl
  obtain ⟨q52, h51, hq53, hb54⟩ : IsNew _ _ _ _ _ := ha42.got 6 7 rfl (by kernel_rfl)
  have hb55 := hb35.new_ hn41
  have hb56 := hb36.new_ hn41
  have hb57 := hb37.new_ hn41
  have hne58 : q8 ≠ q52 := by have h1 := hb35.lt; have h2 := hq53; omega
  have hne59 : q12 ≠ q52 := by have h1 := hb36.lt; have h2 := hq53; omega
  have hne60 : q16 ≠ q52 := by have h1 := hb37.lt; have h2 := hq53; omega
  have hq61 := Nat.le_trans hN38.size hq53
  have hN62 := hN38.transNew hn41
  clear hs28 hd29 h30 h31 h32 h33 h34 hb35 hb36 hb37 hq53 hN38 ha42 hn41
  obtain ⟨w63, -, hst64, hb65, hu66, hf67⟩ := s_two (v0 := iv ((divM a b).1.k)) (v1 := iv ((divM a b).1.n)) Tryd.sizeOf23 rfl rfl rfl hb54
  refine st_act rfl rfl fun K68 hL69 => a_store' rfl h51 h49 hst64 (hL69 _ _ trivial ?_)
  have hb70 := hf67 _ _ _ (hne58) hb55
  have hb71 := hf67 _ _ _ (hne59) hb56
  have hb72 := hf67 _ _ _ (hne60) hb57
  have hN73 := hN62.trans hu66 (fun k hk hkb => by subst hkb; omega)
  clear hb54 hst64 K68 hL69 hN62 hb55 hb56 hb57 hu66 hf67
  refine st_take rfl rfl (y_assign (v := .bool ((divM a b).2)) rfl h50) rfl ?_
  obtain ⟨a74, ha75⟩ : ∃ a', a' = a39.put (some 8) (.bool ((divM a b).2)) := ⟨_, rfl⟩
  have hs76 : a74.tmps.size = 126 := by rw [ha75, put_size]; exact hs43
  have hd77 : a74.defers = [] := by rw [ha75, put_defers]; exact hd44
  have h78 : a74.eval (.tmp 3) = pv q8 := by rw [ha75, put_ne _ _ _ _ (by decide)]; exact h45
  have h79 : a74.eval (.tmp 4) = pv q12 := by rw [ha75, put_ne _ _ _ _ (by decide)]; exact h46
  have h80 : a74.eval (.tmp 5) = pv q16 := by rw [ha75, put_ne _ _ _ _ (by decide)]; exact h47
  have h81 : a74.eval (.tmp 6) = .bool false := by rw [ha75, put_ne _ _ _ _ (by decide)]; exact h48
  have h82 : a74.eval (.tmp 19) = nv ((divM a b).1) := by rw [ha75, put_ne _ _ _ _ (by decide)]; exact h49
  have h83 : a74.eval (.tmp 20) = .bool ((divM a b).2) := by rw [ha75, put_ne _ _ _ _ (by decide)]; exact h50
  have h84 : a74.eval (.tmp 7) = pv q52 := by rw [ha75, put_ne _ _ _ _ (by decide)]; exact h51
  have h85 : a74.eval (.tmp 8) = .bool ((divM a b).2) := by rw [ha75]; exact put_same _ _ _ (by rw [hs43]; decide)
  show stepsTo _ _ _ _ _ (a39.put (some 8) (.bool ((divM a b).2))) _
  rw [← ha75]
  clear ha75 hs43 hd44 h45 h46 h47 h48 h49 h50 h51
  clear hne58
  clear hne59
  clear hne60
  refine st_nil ?_
  clear h82 h83
  refine hK _ _ ?_
  clear hK K
  refine wp_seq_k fun K hK => ?_
  have ht86 : (mayB a) = true := hy0
  have ht87 : (mayB b) = true := hy1
  have ht88 : (decide (a.k = 0)) = true := hy2
  have ht88d := of_decide_eq_true ht88
  have ht89 : (decide (b.k = 0)) = true := hy3
  have ht89d := of_decide_eq_true ht89
  have ht90 : (decide (b.n = 0)) = false := hy4
  have ht90d := of_decide_eq_false ht90
  refine wp_g0 [true, true, true, true, true, true, true, true, true, true, true, true, true, true, true, true, true, true, true, true, true, true] [] 126
    [ve (nv a),
     ve (.bool true),
     ve (.bool true),
     ve (nv b),
     ve (.bool true),
     ve (.bool true),
     ve (.bool true),
     ve (pv q8),
     ve (iv a.k),
     ve (.bool true),
     ve (.bool true),
     ve (.bool true),
     ve (pv q12),
     ve (iv b.k),
     ve (.bool true),
     ve (.bool true),
     ve (.bool true),
     ve (.pointer (some ⟨q12, 1, none⟩)),
     ve (iv b.n),
     ve (.bool true),
     ve (.bool true),
     ve (.bool true)] hs76 (.eq (.eq (.eq (.eq (.eq (.eq (.eq (.eq (.eq (.eq (.eq (.eq (.eq (.eq (.eq (.eq (.eq (.eq (.eq (.eq (.eq (.eq (.nil))))))))))))))))))))))) ?_ ?_
  · skip
    refine .o1 (tk rfl rfl fun _ w hn k => ⟨_, v_load rfl (k.fx 3 h78) (l_two Tryd.isAgg23 Tryd.sizeOf23 (hb70.new_ hn)), rfl⟩) ?_
    refine .o1 (ck rfl rfl rfl (fun _ w hn k => ⟨#[nv a], args1 (k.eq1 0 21 rfl), fun _ => by kernel_rfl, may_c a _⟩) fun _ => congrArg Value.bool ht86) ?_
    refine .o1 (tk rfl rfl fun _ w hn k => ⟨_, v_move rfl (k.eq1 1 22 rfl), rfl⟩) ?_
    refine .o1 (tg rfl rfl rfl (fun _ _ k => k.eq1 2 23 rfl) fun _ w hn k => ⟨_, v_load rfl (k.fx 4 h79) (l_two Tryd.isAgg23 Tryd.sizeOf23 (hb71.new_ hn)), rfl⟩) ?_
    refine .o1 (cg rfl rfl rfl (fun _ _ k => k.eq1 2 23 rfl) rfl (fun _ w hn k => ⟨#[nv b], args1 (k.eq1 3 24 rfl), fun _ => by kernel_rfl, may_c b _⟩) fun _ => congrArg Value.bool ht87) ?_
    refine .o1 (tk rfl rfl fun _ w hn k => ⟨_, v_pickT rfl (k.eq1 2 23 rfl) (k.eq1 4 25 rfl), rfl⟩) ?_
    refine .o1 (tk rfl rfl fun _ w hn k => ⟨_, v_move rfl (k.eq1 5 26 rfl), rfl⟩) ?_
    refine .o1 (tg rfl rfl rfl (fun _ _ k => k.eq1 6 27 rfl) fun _ w hn k => ⟨_, v_field rfl (k.fx 3 h78) (fun w => rfl), rfl⟩) ?_
    refine .o1 (tg rfl rfl rfl (fun _ _ k => k.eq1 6 27 rfl) fun _ w hn k => ⟨_, v_load rfl (k.eq1 7 28 rfl) (l_one Tryd.isAgg3 ((hb70.new_ hn).cell 0)), rfl⟩) ?_
    refine .o1 (tg rfl rfl rfl (fun _ _ k => k.eq1 6 27 rfl) fun _ w hn k => ⟨_, v_bin rfl (k.eq1 8 29 rfl) rfl (fun _ => rfl) (r_eql ht88), rfl⟩) ?_
    refine .o1 (tk rfl rfl fun _ w hn k => ⟨_, v_pickT rfl (k.eq1 6 27 rfl) (k.eq1 9 30 rfl), rfl⟩) ?_
    refine .o1 (tk rfl rfl fun _ w hn k => ⟨_, v_move rfl (k.eq1 10 31 rfl), rfl⟩) ?_
    refine .o1 (tg rfl rfl rfl (fun _ _ k => k.eq1 11 32 rfl) fun _ w hn k => ⟨_, v_field rfl (k.fx 4 h79) (fun w => rfl), rfl⟩) ?_
    refine .o1 (tg rfl rfl rfl (fun _ _ k => k.eq1 11 32 rfl) fun _ w hn k => ⟨_, v_load rfl (k.eq1 12 33 rfl) (l_one Tryd.isAgg3 ((hb71.new_ hn).cell 0)), rfl⟩) ?_
    refine .o1 (tg rfl rfl rfl (fun _ _ k => k.eq1 11 32 rfl) fun _ w hn k => ⟨_, v_bin rfl (k.eq1 13 34 rfl) rfl (fun _ => rfl) (r_eql ht89), rfl⟩) ?_
    refine .o1 (tk rfl rfl fun _ w hn k => ⟨_, v_pickT rfl (k.eq1 11 32 rfl) (k.eq1 14 35 rfl), rfl⟩) ?_
    refine .o1 (tk rfl rfl fun _ w hn k => ⟨_, v_move rfl (k.eq1 15 36 rfl), rfl⟩) ?_
    refine .o1 (tg rfl rfl rfl (fun _ _ k => k.eq1 16 37 rfl) fun _ w hn k => ⟨_, v_field rfl (k.fx 4 h79) (fun w => rfl), rfl⟩) ?_
    refine .o1 (tg rfl rfl rfl (fun _ _ k => k.eq1 16 37 rfl) fun _ w hn k => ⟨_, v_load rfl (k.eq1 17 38 rfl) (l_one Tryd.isAgg3 ((hb71.new_ hn).cell 1)), rfl⟩) ?_
    refine .o1 (tg rfl rfl rfl (fun _ _ k => k.eq1 16 37 rfl) fun _ w hn k => ⟨_, v_bin rfl (k.eq1 18 39 rfl) rfl (fun _ => rfl) (r_neq ht90), rfl⟩) ?_
    refine .o1 (tk rfl rfl fun _ w hn k => ⟨_, v_pickT rfl (k.eq1 16 37 rfl) (k.eq1 19 40 rfl), rfl⟩) ?_
    refine .o1 (tk rfl rfl fun _ w hn k => ⟨_, v_assign rfl (k.eq1 20 41 rfl), rfl⟩) ?_
    exact .nil
  intro a91 w92 hn93 ha94
  have hs95 := ha94.size.trans hs76
  have hd96 := ha94.defers.trans hd77
  have h97 := ha94.fx 3 h78
  have h98 := ha94.fx 4 h79
  have h99 := ha94.fx 5 h80
  have h100 := ha94.fx 6 h81
  have h101 := ha94.fx 7 h84
  have h102 := ha94.fx 8 h85
  have h103 := ha94.ge 21 9 rfl
  have hb104 := hb70.new_ hn93
  have hb105 := hb71.new_ hn93
  have hb106 := hb72.new_ hn93
  have hb107 := hb65.new_ hn93
  have hN108 := hN73.transNew hn93
  clear hs76 hd77 h78 h79 h80 h81 h84 h85 hb70 hb71 hb72 hb65 hN73 ha94 hn93
  refine st_nil ?_
  refine hK _ _ ?_
  clear hK K
  refine wp_seq_k fun K hK => ?_
  refine wp_seq_k fun K hK => ?_
  rcases Bool.eq_false_or_eq_true ((divM a b).2) with ht109 | ht109
  · skip
    have hv110 : a91.eval (.tmp 8) = .bool true := h102.trans (congrArg Value.bool ht109)
    clear h102
    refine wp_g0 [true, true, true, true] [] 126
      [ve (.bool true),
       ve (.bool true),
       ve (.bool true),
       ve (.bool true)] hs95 (.eq (.eq (.eq (.eq (.nil))))) ?_ ?_
    · skip
      refine .o1 (tk rfl rfl fun _ w hn k => ⟨_, v_move rfl (k.fx 8 hv110), rfl⟩) ?_
      refine .o1 (tk rfl rfl fun _ w hn k => ⟨_, v_move rfl (k.eq1 0 42 rfl), rfl⟩) ?_
      refine .o1 (tg rfl rfl rfl (fun _ _ k => k.eq1 1 43 rfl) fun _ w hn k => ⟨_, v_move rfl (k.fx 9 h103), rfl⟩) ?_
      refine .o1 (tk rfl rfl fun _ w hn k => ⟨_, v_pickT rfl (k.eq1 1 43 rfl) (k.eq1 2 44 rfl), rfl⟩) ?_
      exact .nil
    intro a111 w112 hn113 ha114
    have hs115 := ha114.size.trans hs95
    have hd116 := ha114.defers.trans hd96
    have h117 := ha114.fx 3 h97
    have h118 := ha114.fx 4 h98
    have h119 := ha114.fx 5 h99
    have h120 := ha114.fx 6 h100
    have h121 := ha114.fx 7 h101
    have h122 := ha114.fx 8 hv110
    have h123 := ha114.fx 9 h103
    have h124 := ha114.ge 3 45 rfl
    have hb125 := hb104.new_ hn113
    have hb126 := hb105.new_ hn113
    have hb127 := hb106.new_ hn113
    have hb128 := hb107.new_ hn113
    have hN129 := hN108.transNew hn113
    clear hs95 hd96 h97 h98 h99 h100 h101 hv110 h103 hb104 hb105 hb106 hb107 hN108 ha114 hn113
    refine st_nil ?_
    refine hK _ _ ?_
    clear hK K
    refine wp_cond_true h124 ?_
    refine wp_seq_k fun K hK => ?_
    refine wp_g [true, true, true, true, true, true, true, false, false] [5] [(7, false), (8, true)] 126
      [ve (nv ((divM a b).1)),
       ve (nv b),
       ve (.tuple #[nv ((mulM ((divM a b).1) b).1), .bool ((mulM ((divM a b).1) b).2)]),
       ve (.tuple #[nv ((mulM ((divM a b).1) b).1), .bool ((mulM ((divM a b).1) b).2)]),
       ve (nv ((mulM ((divM a b).1) b).1)),
       ve (.bool ((mulM ((divM a b).1) b).2)),
       IsNew w112 23 [iv 0, iv 0],
       vt,
       vt]
      [6] (newsCons (fun v w h => IsNew.old h) newsNil) hs115 (.eq (.eq (.eq (.eq (.eq (.eq (.nw (.tt (.tt (.nil)))))))))) ?_ ?_ ?_
    · skip
      refine .o1 (tk rfl rfl fun _ w hn k => ⟨_, v_load rfl (k.fx 7 h121) (l_two Tryd.isAgg23 Tryd.sizeOf23 (hb128.new_ hn)), rfl⟩) ?_
      refine .o1 (tk rfl rfl fun _ w hn k => ⟨_, v_load rfl (k.fx 4 h118) (l_two Tryd.isAgg23 Tryd.sizeOf23 (hb126.new_ hn)), rfl⟩) ?_
      refine .o1 (ck rfl rfl rfl (fun _ w hn k => ⟨#[nv ((divM a b).1), nv b], args2 (k.eq1 0 47 rfl) (k.eq1 1 48 rfl), fun _ => by kernel_rfl, mul_c ((divM a b).1) b _⟩) fun _ => rfl) ?_
      refine .o1 (tk rfl rfl fun _ w hn k => ⟨_, v_move rfl (k.eq1 2 49 rfl), rfl⟩) ?_
      refine .o1 (tk rfl rfl fun _ w hn k => ⟨_, v_extract rfl (k.eq1 3 46 rfl) rfl, rfl⟩) ?_
      refine .o3 ?_
      refine .o2 (step_allocN (cs := [iv 0, iv 0]) (t := 23) rfl (noG rfl) (fun _ w hn k => rfl) (fun q _ hq hb => ⟨q, rfl, hq, hb⟩)) ?_
      refine .off ?_
      refine .off ?_
      exact .nil
    · skip
      intro i h
      simp only [List.contains_eq_mem, List.mem_cons, List.not_mem_nil, or_false, decide_eq_true_eq] at h
      subst h
      · exact eager_take rfl rfl fun _ w hn k => ⟨.bool ((mulM ((divM a b).1) b).2), fun w => v_extract rfl (k.eq1 3 46 rfl) rfl, rfl⟩
    intro a130 w131 hn132 ha133
    have hs134 := ha133.size.trans hs115
    have hd135 := ha133.defers.trans hd116
    have h136 := ha133.fx 3 h117
    have h137 := ha133.fx 4 h118
    have h138 := ha133.fx 5 h119
    have h139 := ha133.fx 6 h120
    have h140 := ha133.fx 8 h122
    have h141 := ha133.fx 9 h123
    have h142 := ha133.ge 4 50 rfl
    have h143 := ha133.ge 5 51 rfl
    obtain ⟨q145, h144, hq146, hb147⟩ : IsNew _ _ _ _ _ := ha133.got 6 10 rfl (by kernel_rfl)
    have hb148 := hb125.new_ hn132
    have hb149 := hb126.new_ hn132
    have hb150 := hb127.new_ hn132
    have hne151 : q8 ≠ q145 := by have h1 := hb125.lt; have h2 := hq146; omega
    have hne152 : q12 ≠ q145 := by have h1 := hb126.lt; have h2 := hq146; omega
    have hne153 : q16 ≠ q145 := by have h1 := hb127.lt; have h2 := hq146; omega
    have hq154 := Nat.le_trans hN129.size hq146
    have hN155 := hN129.transNew hn132
    clear hs115 hd116 h117 h118 h119 h120 h121 h122 h123 h124 hb125 hb126 hb127 hb128 hq61 hq146 hN129 ha133 hn132
    obtain ⟨w156, -, hst157, hb158, hu159, hf160⟩ := s_two (v0 := iv ((mulM ((divM a b).1) b).1.k)) (v1 := iv ((mulM ((divM a b).1) b).1.n)) Tryd.sizeOf23 rfl rfl rfl hb147
    refine st_act rfl rfl fun K161 hL162 => a_store' rfl h144 h142 hst157 (hL162 _ _ trivial ?_)
    have hb163 := hf160 _ _ _ (hne151) hb148
    have hb164 := hf160 _ _ _ (hne152) hb149
    have hb165 := hf160 _ _ _ (hne153) hb150
    have hN166 := hN155.trans hu159 (fun k hk hkb => by subst hkb; omega)
    clear hb147 hst157 K161 hL162 hN155 hb148 hb149 hb150 hu159 hf160
    refine st_take rfl rfl (y_assign (v := .bool ((mulM ((divM a b).1) b).2)) rfl h143) rfl ?_
    obtain ⟨a167, ha168⟩ : ∃ a', a' = a130.put (some 11) (.bool ((mulM ((divM a b).1) b).2)) := ⟨_, rfl⟩
    have hs169 : a167.tmps.size = 126 := by rw [ha168, put_size]; exact hs134
    have hd170 : a167.defers = [] := by rw [ha168, put_defers]; exact hd135
    have h171 : a167.eval (.tmp 3) = pv q8 := by rw [ha168, put_ne _ _ _ _ (by decide)]; exact h136
    have h172 : a167.eval (.tmp 4) = pv q12 := by rw [ha168, put_ne _ _ _ _ (by decide)]; exact h137
    have h173 : a167.eval (.tmp 5) = pv q16 := by rw [ha168, put_ne _ _ _ _ (by decide)]; exact h138
    have h174 : a167.eval (.tmp 6) = .bool false := by rw [ha168, put_ne _ _ _ _ (by decide)]; exact h139
    have h175 : a167.eval (.tmp 8) = .bool true := by rw [ha168, put_ne _ _ _ _ (by decide)]; exact h140
    have h176 : a167.eval (.tmp 9) = .bool true := by rw [ha168, put_ne _ _ _ _ (by decide)]; exact h141
    have h177 : a167.eval (.tmp 50) = nv ((mulM ((divM a b).1) b).1) := by rw [ha168, put_ne _ _ _ _ (by decide)]; exact h142
    have h178 : a167.eval (.tmp 51) = .bool ((mulM ((divM a b).1) b).2) := by rw [ha168, put_ne _ _ _ _ (by decide)]; exact h143
    have h179 : a167.eval (.tmp 10) = pv q145 := by rw [ha168, put_ne _ _ _ _ (by decide)]; exact h144
    have h180 : a167.eval (.tmp 11) = .bool ((mulM ((divM a b).1) b).2) := by rw [ha168]; exact put_same _ _ _ (by rw [hs134]; decide)
    show stepsTo _ _ _ _ _ (a130.put (some 11) (.bool ((mulM ((divM a b).1) b).2))) _
    rw [← ha168]
    clear ha168 hs134 hd135 h136 h137 h138 h139 h140 h141 h142 h143 h144
    clear hne151
    clear hne152
    clear hne153
    refine st_nil ?_
    clear h177 h178
    refine hK _ _ ?_
    clear hK K
    refine wp_seq_k fun K hK => ?_
    have ht181 : ((mulM ((divM a b).1) b).2) = true := ((rests ht86 ht87 ht88 ht89 ht90).2.2 ht109).1
    have hv182 : a167.eval (.tmp 11) = .bool true := h180.trans (congrArg Value.bool ht181)
    clear h180
    have ht183 : (equalM ((mulM ((divM a b).1) b).1) a) = true := ((rests ht86 ht87 ht88 ht89 ht90).2.2 ht109).2
    refine wp_g0 [true, true, true, true, true, true, true, true] [] 126
      [ve (.bool true),
       ve (.bool false),
       ve (.bool false),
       ve (nv ((mulM ((divM a b).1) b).1)),
       ve (nv a),
       ve (.bool true),
       ve (.bool false),
       ve (.bool false)] hs169 (.eq (.eq (.eq (.eq (.eq (.eq (.eq (.eq (.nil))))))))) ?_ ?_
    · skip
      refine .o1 (tk rfl rfl fun _ w hn k => ⟨_, v_move rfl (k.fx 11 hv182), rfl⟩) ?_
      refine .o1 (tk rfl rfl fun _ w hn k => ⟨_, v_not rfl (k.eq1 0 52 rfl), rfl⟩) ?_
      refine .o1 (tk rfl rfl fun _ w hn k => ⟨_, v_move rfl (k.eq1 1 53 rfl), rfl⟩) ?_
      refine .o1 (tg rfl rfl rfl (fun _ _ k => k.eq1 2 54 rfl) fun _ w hn k => ⟨_, v_load rfl (k.fx 10 h179) (l_two Tryd.isAgg23 Tryd.sizeOf23 (hb158.new_ hn)), rfl⟩) ?_
      refine .o1 (tg rfl rfl rfl (fun _ _ k => k.eq1 2 54 rfl) fun _ w hn k => ⟨_, v_load rfl (k.fx 3 h171) (l_two Tryd.isAgg23 Tryd.sizeOf23 (hb163.new_ hn)), rfl⟩) ?_
      refine .o1 (cg rfl rfl rfl (fun _ _ k => k.eq1 2 54 rfl) rfl (fun _ w hn k => ⟨#[nv ((mulM ((divM a b).1) b).1), nv a], args2 (k.eq1 3 55 rfl) (k.eq1 4 56 rfl), fun _ => by kernel_rfl, equal_c ((mulM ((divM a b).1) b).1) a _⟩) fun _ => congrArg Value.bool ht183) ?_
      refine .o1 (tg rfl rfl rfl (fun _ _ k => k.eq1 2 54 rfl) fun _ w hn k => ⟨_, v_not rfl (k.eq1 5 57 rfl), rfl⟩) ?_
      refine .o1 (tk rfl rfl fun _ w hn k => ⟨_, v_pickF rfl (k.eq1 2 54 rfl) (k.eq1 6 58 rfl), rfl⟩) ?_
      exact .nil
    intro a184 w185 hn186 ha187
    have hs188 := ha187.size.trans hs169
    have hd189 := ha187.defers.trans hd170
    have h190 := ha187.fx 3 h171
    have h191 := ha187.fx 4 h172
    have h192 := ha187.fx 5 h173
    have h193 := ha187.fx 6 h174
    have h194 := ha187.fx 8 h175
    have h195 := ha187.fx 9 h176
    have h196 := ha187.ge 7 59 rfl
    have hb197 := hb163.new_ hn186
    have hb198 := hb164.new_ hn186
    have hb199 := hb165.new_ hn186
    have hN200 := hN166.transNew hn186
    clear hs169 hd170 h171 h172 h173 h174 h175 h176 h179 hv182 hb163 hb164 hb165 hb158 hq154 hN166 ha187 hn186
    refine st_nil ?_
    refine hK _ _ ?_
    clear hK K
    refine wp_cond_false h196 ?_
    refine wp_skip ?_
    refine hK _ _ ?_
    clear hK K
    refine wp_seq_k fun K hK => ?_
    refine wp_g [true, true, true, true, false] [] [(4, false)] 126
      [ve (nv a),
       ve (nv b),
       ve (nv (remM a b)),
       IsNew w185 23 [iv 0, iv 0],
       vt]
      [3] (newsCons (fun v w h => IsNew.old h) newsNil) hs188 (.eq (.eq (.eq (.nw (.tt (.nil)))))) ?_ (fun i h => by cases h) ?_
    · skip
      refine .o1 (tk rfl rfl fun _ w hn k => ⟨_, v_load rfl (k.fx 3 h190) (l_two Tryd.isAgg23 Tryd.sizeOf23 (hb197.new_ hn)), rfl⟩) ?_
      refine .o1 (tk rfl rfl fun _ w hn k => ⟨_, v_load rfl (k.fx 4 h191) (l_two Tryd.isAgg23 Tryd.sizeOf23 (hb198.new_ hn)), rfl⟩) ?_
      refine .o1 (ck rfl rfl rfl (fun _ w hn k => ⟨#[nv a, nv b], args2 (k.eq1 0 60 rfl) (k.eq1 1 61 rfl), fun _ => by kernel_rfl, rem_c a b _⟩) fun _ => rfl) ?_
      refine .o2 (step_allocN (cs := [iv 0, iv 0]) (t := 23) rfl (noG rfl) (fun _ w hn k => rfl) (fun q _ hq hb => ⟨q, rfl, hq, hb⟩)) ?_
      refine .off ?_
      exact .nil
    intro a201 w202 hn203 ha204
    have hs205 := ha204.size.trans hs188
    have hd206 := ha204.defers.trans hd189
    have h207 := ha204.fx 3 h190
    have h208 := ha204.fx 4 h191
    have h209 := ha204.fx 5 h192
    have h210 := ha204.fx 6 h193
    have h211 := ha204.fx 8 h194
    have h212 := ha204.fx 9 h195
    have h213 := ha204.ge 2 62 rfl
    obtain ⟨q215, h214, hq216, hb217⟩ : IsNew _ _ _ _ _ := ha204.got 3 12 rfl (by kernel_rfl)
    have hb218 := hb197.new_ hn203
    have hb219 := hb198.new_ hn203
    have hb220 := hb199.new_ hn203
    have hne221 : q8 ≠ q215 := by have h1 := hb197.lt; have h2 := hq216; omega
    have hne222 : q12 ≠ q215 := by have h1 := hb198.lt; have h2 := hq216; omega
    have hne223 : q16 ≠ q215 := by have h1 := hb199.lt; have h2 := hq216; omega
    have hq224 := Nat.le_trans hN200.size hq216
    have hN225 := hN200.transNew hn203
    clear hs188 hd189 h190 h191 h192 h193 h194 h195 h196 hb197 hb198 hb199 hq216 hN200 ha204 hn203
    obtain ⟨w226, -, hst227, hb228, hu229, hf230⟩ := s_two (v0 := iv ((remM a b).k)) (v1 := iv ((remM a b).n)) Tryd.sizeOf23 rfl rfl rfl hb217
    refine st_act rfl rfl fun K231 hL232 => a_store' rfl h214 h213 hst227 (hL232 _ _ trivial ?_)
    have hb233 := hf230 _ _ _ (hne221) hb218
    have hb234 := hf230 _ _ _ (hne222) hb219
    have hb235 := hf230 _ _ _ (hne223) hb220
    have hN236 := hN225.trans hu229 (fun k hk hkb => by subst hkb; omega)
    clear hb217 hst227 K231 hL232 hN225 hb218 hb219 hb220 hu229 hf230
    clear hne221
    clear hne222
    clear hne223
    refine st_nil ?_
    clear h213
    refine hK _ _ ?_
    clear hK K
    refine wp_seq_k fun K hK => ?_
    refine wp_seq_k fun K hK => ?_
    have ht237 : (decide ((max ((remM a b).n) (-((remM a b).n))) < (max b.n (-b.n)))) = true := (rests ht86 ht87 ht88 ht89 ht90).2.1
    have ht237d := of_decide_eq_true ht237
    have ht238 : (equalM (remM a b) (Nm.mk 0 0)) = true := (rests ht86 ht87 ht88 ht89 ht90).1.trans ht109
    refine wp_g0 [true, true, true, true, true, true, true, true, true, true, true, true, true, true, true, true, true, true, true, true, true, true, true] [] 126
      [ve (.bool true),
       ve (.bool true),
       ve (.pointer (some ⟨q215, 1, none⟩)),
       ve (iv ((remM a b).n)),
       ve (.pointer (some ⟨q215, 1, none⟩)),
       ve (iv ((remM a b).n)),
       ve (iv (-((remM a b).n))),
       ve (iv (max ((remM a b).n) (-((remM a b).n)))),
       ve (.pointer (some ⟨q12, 1, none⟩)),
       ve (iv b.n),
       ve (.pointer (some ⟨q12, 1, none⟩)),
       ve (iv b.n),
       ve (iv (-b.n)),
       ve (iv (max b.n (-b.n))),
       ve (.bool false),
       ve (.bool false),
       ve (.bool true),
       ve (nv (remM a b)),
       ve (nv (Nm.mk 0 0)),
       ve (.bool true),
       ve (.bool false),
       ve (.bool false),
       ve (.bool false)] hs205 (.eq (.eq (.eq (.eq (.eq (.eq (.eq (.eq (.eq (.eq (.eq (.eq (.eq (.eq (.eq (.eq (.eq (.eq (.eq (.eq (.eq (.eq (.eq (.nil)))))))))))))))))))))))) ?_ ?_
    · skip
      refine .o1 (tk rfl rfl fun _ w hn k => ⟨_, v_move rfl (k.fx 9 h212), rfl⟩) ?_
      refine .o1 (tk rfl rfl fun _ w hn k => ⟨_, v_move rfl (k.eq1 0 63 rfl), rfl⟩) ?_
      refine .o1 (tg rfl rfl rfl (fun _ _ k => k.eq1 1 64 rfl) fun _ w hn k => ⟨_, v_field rfl (k.fx 12 h214) (fun w => rfl), rfl⟩) ?_
      refine .o1 (tg rfl rfl rfl (fun _ _ k => k.eq1 1 64 rfl) fun _ w hn k => ⟨_, v_load rfl (k.eq1 2 65 rfl) (l_one Tryd.isAgg3 ((hb228.new_ hn).cell 1)), rfl⟩) ?_
      refine .o1 (tg rfl rfl rfl (fun _ _ k => k.eq1 1 64 rfl) fun _ w hn k => ⟨_, v_field rfl (k.fx 12 h214) (fun w => rfl), rfl⟩) ?_
      refine .o1 (tg rfl rfl rfl (fun _ _ k => k.eq1 1 64 rfl) fun _ w hn k => ⟨_, v_load rfl (k.eq1 4 67 rfl) (l_one Tryd.isAgg3 ((hb228.new_ hn).cell 1)), rfl⟩) ?_
      refine .o1 (tg rfl rfl rfl (fun _ _ k => k.eq1 1 64 rfl) fun _ w hn k => ⟨_, v_neg rfl (k.eq1 5 68 rfl) (by omega), rfl⟩) ?_
      refine .o1 (tg rfl rfl rfl (fun _ _ k => k.eq1 1 64 rfl) fun _ w hn k => ⟨_, v_max rfl (k.eq1 3 66 rfl) (k.eq1 6 69 rfl), rfl⟩) ?_
      refine .o1 (tg rfl rfl rfl (fun _ _ k => k.eq1 1 64 rfl) fun _ w hn k => ⟨_, v_field rfl (k.fx 4 h208) (fun w => rfl), rfl⟩) ?_
      refine .o1 (tg rfl rfl rfl (fun _ _ k => k.eq1 1 64 rfl) fun _ w hn k => ⟨_, v_load rfl (k.eq1 8 71 rfl) (l_one Tryd.isAgg3 ((hb234.new_ hn).cell 1)), rfl⟩) ?_
      refine .o1 (tg rfl rfl rfl (fun _ _ k => k.eq1 1 64 rfl) fun _ w hn k => ⟨_, v_field rfl (k.fx 4 h208) (fun w => rfl), rfl⟩) ?_
      refine .o1 (tg rfl rfl rfl (fun _ _ k => k.eq1 1 64 rfl) fun _ w hn k => ⟨_, v_load rfl (k.eq1 10 73 rfl) (l_one Tryd.isAgg3 ((hb234.new_ hn).cell 1)), rfl⟩) ?_
      refine .o1 (tg rfl rfl rfl (fun _ _ k => k.eq1 1 64 rfl) fun _ w hn k => ⟨_, v_neg rfl (k.eq1 11 74 rfl) (by omega), rfl⟩) ?_
      refine .o1 (tg rfl rfl rfl (fun _ _ k => k.eq1 1 64 rfl) fun _ w hn k => ⟨_, v_max rfl (k.eq1 9 72 rfl) (k.eq1 12 75 rfl), rfl⟩) ?_
      refine .o1 (tg rfl rfl rfl (fun _ _ k => k.eq1 1 64 rfl) fun _ w hn k => ⟨_, v_bin rfl (k.eq1 7 70 rfl) (k.eq1 13 76 rfl) (fun _ => rfl) (r_geqK ht237), rfl⟩) ?_
      refine .o1 (tg rfl rfl rfl (fun _ _ k => k.eq1 1 64 rfl) fun _ w hn k => ⟨_, v_move rfl (k.eq1 14 77 rfl), rfl⟩) ?_
      refine .o1 (tg rfl rfl rfl (fun _ _ k => k.eq1 15 78 rfl) fun _ w hn k => ⟨_, v_move rfl (k.fx 8 h211), rfl⟩) ?_
      refine .o1 (tg rfl rfl rfl (fun _ _ k => k.eq1 15 78 rfl) fun _ w hn k => ⟨_, v_load rfl (k.fx 12 h214) (l_two Tryd.isAgg23 Tryd.sizeOf23 (hb228.new_ hn)), rfl⟩) ?_
      refine .o1 (cg rfl rfl rfl (fun _ _ k => k.eq1 15 78 rfl) rfl (fun _ w hn k => ⟨#[iv 0], args1 rfl, fun _ => by kernel_rfl, w_c 0 _⟩) fun _ => rfl) ?_
      refine .o1 (cg rfl rfl rfl (fun _ _ k => k.eq1 15 78 rfl) rfl (fun _ w hn k => ⟨#[nv (remM a b), nv (Nm.mk 0 0)], args2 (k.eq1 17 80 rfl) (k.eq1 18 81 rfl), fun _ => by kernel_rfl, equal_c (remM a b) (Nm.mk 0 0) _⟩) fun _ => congrArg Value.bool ht238) ?_
      refine .o1 (tg rfl rfl rfl (fun _ _ k => k.eq1 15 78 rfl) fun _ w hn k => ⟨_, v_bin rfl (k.eq1 16 79 rfl) (k.eq1 19 82 rfl) (fun _ => rfl) (fun w => by kernel_rfl), rfl⟩) ?_
      refine .o1 (tg rfl rfl rfl (fun _ _ k => k.eq1 1 64 rfl) fun _ w hn k => ⟨_, v_pickF rfl (k.eq1 15 78 rfl) (k.eq1 20 83 rfl), rfl⟩) ?_
      refine .o1 (tk rfl rfl fun _ w hn k => ⟨_, v_pickT rfl (k.eq1 1 64 rfl) (k.eq1 21 84 rfl), rfl⟩) ?_
      exact .nil
    intro a239 w240 hn241 ha242
    have hs243 := ha242.size.trans hs205
    have hd244 := ha242.defers.trans hd206
    have h245 := ha242.fx 3 h207
    have h246 := ha242.fx 4 h208
    have h247 := ha242.fx 5 h209
    have h248 := ha242.fx 6 h210
    have h249 := ha242.ge 22 85 rfl
    have hb250 := hb233.new_ hn241
    have hb251 := hb234.new_ hn241
    have hb252 := hb235.new_ hn241
    have hN253 := hN236.transNew hn241
    clear hs205 hd206 h207 h208 h209 h210 h211 h212 h214 hb233 hb234 hb235 hb228 hq224 hN236 ha242 hn241
    refine st_nil ?_
    refine hK _ _ ?_
    clear hK K
    refine wp_cond_false h249 ?_
    refine wp_skip ?_
    refine hK _ _ ?_
    clear hK K
    refine wp_seq_k fun K hK => ?_
    rcases Bool.eq_false_or_eq_true (lessM a b) with ht254 | ht254
    · skip
      rcases Bool.eq_false_or_eq_true (lessM b c) with ht255 | ht255
      · skip
        have ht256 : (lessM a c) = true := less_trans ht254 ht255
        have ht257 : (lessM b a) = false := less_asymm ht254
        have ht258 : (equalM a b) = false := less_ne ht254
        refine wp_g0 [true, true, true, true, true, true, true, true, true, true, true, true, true, true, true, true, true, true, true, true, true, true, true, true, true, true, true, true, true, true, true, true, true, true, true, true, true, true, true, true, true] [] 126
          [ve (.bool true),
           ve (.bool true),
           ve (nv a),
           ve (nv b),
           ve (.bool true),
           ve (.bool false),
           ve (.bool false),
           ve (nv b),
           ve (nv c),
           ve (.bool true),
           ve (.bool false),
           ve (.bool false),
           ve (.bool false),
           ve (nv a),
           ve (nv c),
           ve (.bool true),
           ve (.bool true),
           ve (.bool true),
           ve (.bool true),
           ve (nv a),
           ve (nv b),
           ve (.bool true),
           ve (.bool true),
           ve (nv b),
           ve (nv a),
           ve (.bool false),
           ve (.bool false),
           ve (.bool true),
           ve (.bool true),
           ve (.bool true),
           ve (nv a),
           ve (nv b),
           ve (.bool true),
           ve (.bool true),
           ve (nv a),
           ve (nv b),
           ve (.bool false),
           ve (.bool false),
           ve (.bool true),
           ve (.bool true),
           ve (.bool true)] hs243 (.eq (.eq (.eq (.eq (.eq (.eq (.eq (.eq (.eq (.eq (.eq (.eq (.eq (.eq (.eq (.eq (.eq (.eq (.eq (.eq (.eq (.eq (.eq (.eq (.eq (.eq (.eq (.eq (.eq (.eq (.eq (.eq (.eq (.eq (.eq (.eq (.eq (.eq (.eq (.eq (.eq (.nil)))))))))))))))))))))))))))))))))))))))))) ?_ ?_
        · skip
          refine .o1 (ck rfl rfl rfl (fun _ w hn k => ⟨#[], rfl, fun _ => by kernel_rfl, first_c  _⟩) fun _ => rfl) ?_
          refine .o1 (tk rfl rfl fun _ w hn k => ⟨_, v_move rfl (k.eq1 0 86 rfl), rfl⟩) ?_
          refine .o1 (tg rfl rfl rfl (fun _ _ k => k.eq1 1 87 rfl) fun _ w hn k => ⟨_, v_load rfl (k.fx 3 h245) (l_two Tryd.isAgg23 Tryd.sizeOf23 (hb250.new_ hn)), rfl⟩) ?_
          refine .o1 (tg rfl rfl rfl (fun _ _ k => k.eq1 1 87 rfl) fun _ w hn k => ⟨_, v_load rfl (k.fx 4 h246) (l_two Tryd.isAgg23 Tryd.sizeOf23 (hb251.new_ hn)), rfl⟩) ?_
          refine .o1 (cg rfl rfl rfl (fun _ _ k => k.eq1 1 87 rfl) rfl (fun _ w hn k => ⟨#[nv a, nv b], args2 (k.eq1 2 88 rfl) (k.eq1 3 89 rfl), fun _ => by kernel_rfl, less_c a b _⟩) fun _ => congrArg Value.bool ht254) ?_
          refine .o1 (tg rfl rfl rfl (fun _ _ k => k.eq1 1 87 rfl) fun _ w hn k => ⟨_, v_not rfl (k.eq1 4 90 rfl), rfl⟩) ?_
          refine .o1 (tg rfl rfl rfl (fun _ _ k => k.eq1 1 87 rfl) fun _ w hn k => ⟨_, v_move rfl (k.eq1 5 91 rfl), rfl⟩) ?_
          refine .o1 (tg rfl rfl rfl (fun _ _ k => k.eq1 6 92 rfl) fun _ w hn k => ⟨_, v_load rfl (k.fx 4 h246) (l_two Tryd.isAgg23 Tryd.sizeOf23 (hb251.new_ hn)), rfl⟩) ?_
          refine .o1 (tg rfl rfl rfl (fun _ _ k => k.eq1 6 92 rfl) fun _ w hn k => ⟨_, v_load rfl (k.fx 5 h247) (l_two Tryd.isAgg23 Tryd.sizeOf23 (hb252.new_ hn)), rfl⟩) ?_
          refine .o1 (cg rfl rfl rfl (fun _ _ k => k.eq1 6 92 rfl) rfl (fun _ w hn k => ⟨#[nv b, nv c], args2 (k.eq1 7 93 rfl) (k.eq1 8 94 rfl), fun _ => by kernel_rfl, less_c b c _⟩) fun _ => congrArg Value.bool ht255) ?_
          refine .o1 (tg rfl rfl rfl (fun _ _ k => k.eq1 6 92 rfl) fun _ w hn k => ⟨_, v_not rfl (k.eq1 9 95 rfl), rfl⟩) ?_
          refine .o1 (tg rfl rfl rfl (fun _ _ k => k.eq1 1 87 rfl) fun _ w hn k => ⟨_, v_pickF rfl (k.eq1 6 92 rfl) (k.eq1 10 96 rfl), rfl⟩) ?_
          refine .o1 (tg rfl rfl rfl (fun _ _ k => k.eq1 1 87 rfl) fun _ w hn k => ⟨_, v_move rfl (k.eq1 11 97 rfl), rfl⟩) ?_
          refine .o1 (tg rfl rfl rfl (fun _ _ k => k.eq1 12 98 rfl) fun _ w hn k => ⟨_, v_load rfl (k.fx 3 h245) (l_two Tryd.isAgg23 Tryd.sizeOf23 (hb250.new_ hn)), rfl⟩) ?_
          refine .o1 (tg rfl rfl rfl (fun _ _ k => k.eq1 12 98 rfl) fun _ w hn k => ⟨_, v_load rfl (k.fx 5 h247) (l_two Tryd.isAgg23 Tryd.sizeOf23 (hb252.new_ hn)), rfl⟩) ?_
          refine .o1 (cg rfl rfl rfl (fun _ _ k => k.eq1 12 98 rfl) rfl (fun _ w hn k => ⟨#[nv a, nv c], args2 (k.eq1 13 99 rfl) (k.eq1 14 100 rfl), fun _ => by kernel_rfl, less_c a c _⟩) fun _ => congrArg Value.bool ht256) ?_
          refine .o1 (tg rfl rfl rfl (fun _ _ k => k.eq1 1 87 rfl) fun _ w hn k => ⟨_, v_pickF rfl (k.eq1 12 98 rfl) (k.eq1 15 101 rfl), rfl⟩) ?_
          refine .o1 (tk rfl rfl fun _ w hn k => ⟨_, v_pickT rfl (k.eq1 1 87 rfl) (k.eq1 16 102 rfl), rfl⟩) ?_
          refine .o1 (tk rfl rfl fun _ w hn k => ⟨_, v_move rfl (k.eq1 17 103 rfl), rfl⟩) ?_
          refine .o1 (tg rfl rfl rfl (fun _ _ k => k.eq1 18 104 rfl) fun _ w hn k => ⟨_, v_load rfl (k.fx 3 h245) (l_two Tryd.isAgg23 Tryd.sizeOf23 (hb250.new_ hn)), rfl⟩) ?_
          refine .o1 (tg rfl rfl rfl (fun _ _ k => k.eq1 18 104 rfl) fun _ w hn k => ⟨_, v_load rfl (k.fx 4 h246) (l_two Tryd.isAgg23 Tryd.sizeOf23 (hb251.new_ hn)), rfl⟩) ?_
          refine .o1 (cg rfl rfl rfl (fun _ _ k => k.eq1 18 104 rfl) rfl (fun _ w hn k => ⟨#[nv a, nv b], args2 (k.eq1 19 105 rfl) (k.eq1 20 106 rfl), fun _ => by kernel_rfl, less_c a b _⟩) fun _ => congrArg Value.bool ht254) ?_
          refine .o1 (tg rfl rfl rfl (fun _ _ k => k.eq1 18 104 rfl) fun _ w hn k => ⟨_, v_move rfl (k.eq1 21 107 rfl), rfl⟩) ?_
          refine .o1 (tg rfl rfl rfl (fun _ _ k => k.eq1 22 108 rfl) fun _ w hn k => ⟨_, v_load rfl (k.fx 4 h246) (l_two Tryd.isAgg23 Tryd.sizeOf23 (hb251.new_ hn)), rfl⟩) ?_
          refine .o1 (tg rfl rfl rfl (fun _ _ k => k.eq1 22 108 rfl) fun _ w hn k => ⟨_, v_load rfl (k.fx 3 h245) (l_two Tryd.isAgg23 Tryd.sizeOf23 (hb250.new_ hn)), rfl⟩) ?_
          refine .o1 (cg rfl rfl rfl (fun _ _ k => k.eq1 22 108 rfl) rfl (fun _ w hn k => ⟨#[nv b, nv a], args2 (k.eq1 23 109 rfl) (k.eq1 24 110 rfl), fun _ => by kernel_rfl, less_c b a _⟩) fun _ => congrArg Value.bool ht257) ?_
          refine .o1 (tg rfl rfl rfl (fun _ _ k => k.eq1 18 104 rfl) fun _ w hn k => ⟨_, v_pickT rfl (k.eq1 22 108 rfl) (k.eq1 25 111 rfl), rfl⟩) ?_
          refine .o1 (tg rfl rfl rfl (fun _ _ k => k.eq1 18 104 rfl) fun _ w hn k => ⟨_, v_not rfl (k.eq1 26 112 rfl), rfl⟩) ?_
          refine .o1 (tk rfl rfl fun _ w hn k => ⟨_, v_pickT rfl (k.eq1 18 104 rfl) (k.eq1 27 113 rfl), rfl⟩) ?_
          refine .o1 (tk rfl rfl fun _ w hn k => ⟨_, v_move rfl (k.eq1 28 114 rfl), rfl⟩) ?_
          refine .o1 (tg rfl rfl rfl (fun _ _ k => k.eq1 29 115 rfl) fun _ w hn k => ⟨_, v_load rfl (k.fx 3 h245) (l_two Tryd.isAgg23 Tryd.sizeOf23 (hb250.new_ hn)), rfl⟩) ?_
          refine .o1 (tg rfl rfl rfl (fun _ _ k => k.eq1 29 115 rfl) fun _ w hn k => ⟨_, v_load rfl (k.fx 4 h246) (l_two Tryd.isAgg23 Tryd.sizeOf23 (hb251.new_ hn)), rfl⟩) ?_
          refine .o1 (cg rfl rfl rfl (fun _ _ k => k.eq1 29 115 rfl) rfl (fun _ w hn k => ⟨#[nv a, nv b], args2 (k.eq1 30 116 rfl) (k.eq1 31 117 rfl), fun _ => by kernel_rfl, less_c a b _⟩) fun _ => congrArg Value.bool ht254) ?_
          refine .o1 (tg rfl rfl rfl (fun _ _ k => k.eq1 29 115 rfl) fun _ w hn k => ⟨_, v_move rfl (k.eq1 32 118 rfl), rfl⟩) ?_
          refine .o1 (tg rfl rfl rfl (fun _ _ k => k.eq1 33 119 rfl) fun _ w hn k => ⟨_, v_load rfl (k.fx 3 h245) (l_two Tryd.isAgg23 Tryd.sizeOf23 (hb250.new_ hn)), rfl⟩) ?_
          refine .o1 (tg rfl rfl rfl (fun _ _ k => k.eq1 33 119 rfl) fun _ w hn k => ⟨_, v_load rfl (k.fx 4 h246) (l_two Tryd.isAgg23 Tryd.sizeOf23 (hb251.new_ hn)), rfl⟩) ?_
          refine .o1 (cg rfl rfl rfl (fun _ _ k => k.eq1 33 119 rfl) rfl (fun _ w hn k => ⟨#[nv a, nv b], args2 (k.eq1 34 120 rfl) (k.eq1 35 121 rfl), fun _ => by kernel_rfl, equal_c a b _⟩) fun _ => congrArg Value.bool ht258) ?_
          refine .o1 (tg rfl rfl rfl (fun _ _ k => k.eq1 29 115 rfl) fun _ w hn k => ⟨_, v_pickT rfl (k.eq1 33 119 rfl) (k.eq1 36 122 rfl), rfl⟩) ?_
          refine .o1 (tg rfl rfl rfl (fun _ _ k => k.eq1 29 115 rfl) fun _ w hn k => ⟨_, v_not rfl (k.eq1 37 123 rfl), rfl⟩) ?_
          refine .o1 (tk rfl rfl fun _ w hn k => ⟨_, v_pickT rfl (k.eq1 29 115 rfl) (k.eq1 38 124 rfl), rfl⟩) ?_
          refine .o1 (tk rfl rfl fun _ w hn k => ⟨_, v_assign rfl (k.eq1 39 125 rfl), rfl⟩) ?_
          exact .nil
        intro a259 w260 hn261 ha262
        have hs263 := ha262.size.trans hs243
        have hd264 := ha262.defers.trans hd244
        have h265 := ha262.ge 40 6 rfl
        have hN266 := hN253.transNew hn261
        clear hs243 hd244 h245 h246 h247 h248 h249 hb250 hq20 hb251 hq21 hb252 hq22 hN253 ha262 hn261
        refine st_nil ?_
        refine hK _ _ ?_
        clear hK K
        refine wp_ret (ret_k hd264 (v := .bool true) (res_t rfl h265 _) ?_)
        exact ⟨rfl, hN266⟩
      have ht267 : (lessM b a) = false := less_asymm ht254
      have ht268 : (equalM a b) = false := less_ne ht254
      refine wp_g0 [true, true, true, true, true, true, true, true, true, true, true, true, true, true, true, true, true, true, true, true, true, true, true, true, true, true, true, true, true, true, true, true, true, true, true, true, true, true, true, true, true] [] 126
        [ve (.bool true),
         ve (.bool true),
         ve (nv a),
         ve (nv b),
         ve (.bool true),
         ve (.bool false),
         ve (.bool false),
         ve (nv b),
         ve (nv c),
         ve (.bool false),
         ve (.bool true),
         ve (.bool true),
         ve (.bool true),
         ve undef,
         ve undef,
         ve undef,
         ve (.bool true),
         ve (.bool true),
         ve (.bool true),
         ve (nv a),
         ve (nv b),
         ve (.bool true),
         ve (.bool true),
         ve (nv b),
         ve (nv a),
         ve (.bool false),
         ve (.bool false),
         ve (.bool true),
         ve (.bool true),
         ve (.bool true),
         ve (nv a),
         ve (nv b),
         ve (.bool true),
         ve (.bool true),
         ve (nv a),
         ve (nv b),
         ve (.bool false),
         ve (.bool false),
         ve (.bool true),
         ve (.bool true),
         ve (.bool true)] hs243 (.eq (.eq (.eq (.eq (.eq (.eq (.eq (.eq (.eq (.eq (.eq (.eq (.eq (.eq (.eq (.eq (.eq (.eq (.eq (.eq (.eq (.eq (.eq (.eq (.eq (.eq (.eq (.eq (.eq (.eq (.eq (.eq (.eq (.eq (.eq (.eq (.eq (.eq (.eq (.eq (.eq (.nil)))))))))))))))))))))))))))))))))))))))))) ?_ ?_
      · skip
        refine .o1 (ck rfl rfl rfl (fun _ w hn k => ⟨#[], rfl, fun _ => by kernel_rfl, first_c  _⟩) fun _ => rfl) ?_
        refine .o1 (tk rfl rfl fun _ w hn k => ⟨_, v_move rfl (k.eq1 0 86 rfl), rfl⟩) ?_
        refine .o1 (tg rfl rfl rfl (fun _ _ k => k.eq1 1 87 rfl) fun _ w hn k => ⟨_, v_load rfl (k.fx 3 h245) (l_two Tryd.isAgg23 Tryd.sizeOf23 (hb250.new_ hn)), rfl⟩) ?_
        refine .o1 (tg rfl rfl rfl (fun _ _ k => k.eq1 1 87 rfl) fun _ w hn k => ⟨_, v_load rfl (k.fx 4 h246) (l_two Tryd.isAgg23 Tryd.sizeOf23 (hb251.new_ hn)), rfl⟩) ?_
        refine .o1 (cg rfl rfl rfl (fun _ _ k => k.eq1 1 87 rfl) rfl (fun _ w hn k => ⟨#[nv a, nv b], args2 (k.eq1 2 88 rfl) (k.eq1 3 89 rfl), fun _ => by kernel_rfl, less_c a b _⟩) fun _ => congrArg Value.bool ht254) ?_
        refine .o1 (tg rfl rfl rfl (fun _ _ k => k.eq1 1 87 rfl) fun _ w hn k => ⟨_, v_not rfl (k.eq1 4 90 rfl), rfl⟩) ?_
        refine .o1 (tg rfl rfl rfl (fun _ _ k => k.eq1 1 87 rfl) fun _ w hn k => ⟨_, v_move rfl (k.eq1 5 91 rfl), rfl⟩) ?_
        refine .o1 (tg rfl rfl rfl (fun _ _ k => k.eq1 6 92 rfl) fun _ w hn k => ⟨_, v_load rfl (k.fx 4 h246) (l_two Tryd.isAgg23 Tryd.sizeOf23 (hb251.new_ hn)), rfl⟩) ?_
        refine .o1 (tg rfl rfl rfl (fun _ _ k => k.eq1 6 92 rfl) fun _ w hn k => ⟨_, v_load rfl (k.fx 5 h247) (l_two Tryd.isAgg23 Tryd.sizeOf23 (hb252.new_ hn)), rfl⟩) ?_
        refine .o1 (cg rfl rfl rfl (fun _ _ k => k.eq1 6 92 rfl) rfl (fun _ w hn k => ⟨#[nv b, nv c], args2 (k.eq1 7 93 rfl) (k.eq1 8 94 rfl), fun _ => by kernel_rfl, less_c b c _⟩) fun _ => congrArg Value.bool ht255) ?_
        refine .o1 (tg rfl rfl rfl (fun _ _ k => k.eq1 6 92 rfl) fun _ w hn k => ⟨_, v_not rfl (k.eq1 9 95 rfl), rfl⟩) ?_
        refine .o1 (tg rfl rfl rfl (fun _ _ k => k.eq1 1 87 rfl) fun _ w hn k => ⟨_, v_pickF rfl (k.eq1 6 92 rfl) (k.eq1 10 96 rfl), rfl⟩) ?_
        refine .o1 (tg rfl rfl rfl (fun _ _ k => k.eq1 1 87 rfl) fun _ w hn k => ⟨_, v_move rfl (k.eq1 11 97 rfl), rfl⟩) ?_
        refine .o1 (sk rfl rfl rfl (fun _ _ _ k => k.eq1 12 98 rfl) (fun _ => rfl)) ?_
        refine .o1 (sk rfl rfl rfl (fun _ _ _ k => k.eq1 12 98 rfl) (fun _ => rfl)) ?_
        refine .o1 (sk rfl rfl rfl (fun _ _ _ k => k.eq1 12 98 rfl) (fun _ => rfl)) ?_
        refine .o1 (tg rfl rfl rfl (fun _ _ k => k.eq1 1 87 rfl) fun _ w hn k => ⟨_, v_pickT rfl (k.eq1 12 98 rfl) rfl, rfl⟩) ?_
        refine .o1 (tk rfl rfl fun _ w hn k => ⟨_, v_pickT rfl (k.eq1 1 87 rfl) (k.eq1 16 102 rfl), rfl⟩) ?_
        refine .o1 (tk rfl rfl fun _ w hn k => ⟨_, v_move rfl (k.eq1 17 103 rfl), rfl⟩) ?_
        refine .o1 (tg rfl rfl rfl (fun _ _ k => k.eq1 18 104 rfl) fun _ w hn k => ⟨_, v_load rfl (k.fx 3 h245) (l_two Tryd.isAgg23 Tryd.sizeOf23 (hb250.new_ hn)), rfl⟩) ?_
        refine .o1 (tg rfl rfl rfl (fun _ _ k => k.eq1 18 104 rfl) fun _ w hn k => ⟨_, v_load rfl (k.fx 4 h246) (l_two Tryd.isAgg23 Tryd.sizeOf23 (hb251.new_ hn)), rfl⟩) ?_
        refine .o1 (cg rfl rfl rfl (fun _ _ k => k.eq1 18 104 rfl) rfl (fun _ w hn k => ⟨#[nv a, nv b], args2 (k.eq1 19 105 rfl) (k.eq1 20 106 rfl), fun _ => by kernel_rfl, less_c a b _⟩) fun _ => congrArg Value.bool ht254) ?_
        refine .o1 (tg rfl rfl rfl (fun _ _ k => k.eq1 18 104 rfl) fun _ w hn k => ⟨_, v_move rfl (k.eq1 21 107 rfl), rfl⟩) ?_
        refine .o1 (tg rfl rfl rfl (fun _ _ k => k.eq1 22 108 rfl) fun _ w hn k => ⟨_, v_load rfl (k.fx 4 h246) (l_two Tryd.isAgg23 Tryd.sizeOf23 (hb251.new_ hn)), rfl⟩) ?_
        refine .o1 (tg rfl rfl rfl (fun _ _ k => k.eq1 22 108 rfl) fun _ w hn k => ⟨_, v_load rfl (k.fx 3 h245) (l_two Tryd.isAgg23 Tryd.sizeOf23 (hb250.new_ hn)), rfl⟩) ?_
        refine .o1 (cg rfl rfl rfl (fun _ _ k => k.eq1 22 108 rfl) rfl (fun _ w hn k => ⟨#[nv b, nv a], args2 (k.eq1 23 109 rfl) (k.eq1 24 110 rfl), fun _ => by kernel_rfl, less_c b a _⟩) fun _ => congrArg Value.bool ht267) ?_
        refine .o1 (tg rfl rfl rfl (fun _ _ k => k.eq1 18 104 rfl) fun _ w hn k => ⟨_, v_pickT rfl (k.eq1 22 108 rfl) (k.eq1 25 111 rfl), rfl⟩) ?_
        refine .o1 (tg rfl rfl rfl (fun _ _ k => k.eq1 18 104 rfl) fun _ w hn k => ⟨_, v_not rfl (k.eq1 26 112 rfl), rfl⟩) ?_
        refine .o1 (tk rfl rfl fun _ w hn k => ⟨_, v_pickT rfl (k.eq1 18 104 rfl) (k.eq1 27 113 rfl), rfl⟩) ?_
        refine .o1 (tk rfl rfl fun _ w hn k => ⟨_, v_move rfl (k.eq1 28 114 rfl), rfl⟩) ?_
        refine .o1 (tg rfl rfl rfl (fun _ _ k => k.eq1 29 115 rfl) fun _ w hn k => ⟨_, v_load rfl (k.fx 3 h245) (l_two Tryd.isAgg23 Tryd.sizeOf23 (hb250.new_ hn)), rfl⟩) ?_
        refine .o1 (tg rfl rfl rfl (fun _ _ k => k.eq1 29 115 rfl) fun _ w hn k => ⟨_, v_load rfl (k.fx 4 h246) (l_two Tryd.isAgg23 Tryd.sizeOf23 (hb251.new_ hn)), rfl⟩) ?_
        refine .o1 (cg rfl rfl rfl (fun _ _ k => k.eq1 29 115 rfl) rfl (fun _ w hn k => ⟨#[nv a, nv b], args2 (k.eq1 30 116 rfl) (k.eq1 31 117 rfl), fun _ => by kernel_rfl, less_c a b _⟩) fun _ => congrArg Value.bool ht254) ?_
        refine .o1 (tg rfl rfl rfl (fun _ _ k => k.eq1 29 115 rfl) fun _ w hn k => ⟨_, v_move rfl (k.eq1 32 118 rfl), rfl⟩) ?_
        refine .o1 (tg rfl rfl rfl (fun _ _ k => k.eq1 33 119 rfl) fun _ w hn k => ⟨_, v_load rfl (k.fx 3 h245) (l_two Tryd.isAgg23 Tryd.sizeOf23 (hb250.new_ hn)), rfl⟩) ?_
        refine .o1 (tg rfl rfl rfl (fun _ _ k => k.eq1 33 119 rfl) fun _ w hn k => ⟨_, v_load rfl (k.fx 4 h246) (l_two Tryd.isAgg23 Tryd.sizeOf23 (hb251.new_ hn)), rfl⟩) ?_
        refine .o1 (cg rfl rfl rfl (fun _ _ k => k.eq1 33 119 rfl) rfl (fun _ w hn k => ⟨#[nv a, nv b], args2 (k.eq1 34 120 rfl) (k.eq1 35 121 rfl), fun _ => by kernel_rfl, equal_c a b _⟩) fun _ => congrArg Value.bool ht268) ?_
        refine .o1 (tg rfl rfl rfl (fun _ _ k => k.eq1 29 115 rfl) fun _ w hn k => ⟨_, v_pickT rfl (k.eq1 33 119 rfl) (k.eq1 36 122 rfl), rfl⟩) ?_
        refine .o1 (tg rfl rfl rfl (fun _ _ k => k.eq1 29 115 rfl) fun _ w hn k => ⟨_, v_not rfl (k.eq1 37 123 rfl), rfl⟩) ?_
        refine .o1 (tk rfl rfl fun _ w hn k => ⟨_, v_pickT rfl (k.eq1 29 115 rfl) (k.eq1 38 124 rfl), rfl⟩) ?_
        refine .o1 (tk rfl rfl fun _ w hn k => ⟨_, v_assign rfl (k.eq1 39 125 rfl), rfl⟩) ?_
        exact .nil
      intro a269 w270 hn271 ha272
      have hs273 := ha272.size.trans hs243
      have hd274 := ha272.defers.trans hd244
      have h275 := ha272.ge 40 6 rfl
      have hN276 := hN253.transNew hn271
      clear hs243 hd244 h245 h246 h247 h248 h249 hb250 hq20 hb251 hq21 hb252 hq22 hN253 ha272 hn271
      refine st_nil ?_
      refine hK _ _ ?_
      clear hK K
      refine wp_ret (ret_k hd274 (v := .bool true) (res_t rfl h275 _) ?_)
      exact ⟨rfl, hN276⟩
    refine wp_g0 [true, true, true, true, true, true, true, true, true, true, true, true, true, true, true, true, true, true, true, true, true, true, true, true, true, true, true, true, true, true, true, true, true, true, true, true, true, true, true, true, true] [] 126
      [ve (.bool true),
       ve (.bool true),
       ve (nv a),
       ve (nv b),
       ve (.bool false),
       ve (.bool true),
       ve (.bool true),
       ve undef,
       ve undef,
       ve undef,
       ve undef,
       ve (.bool true),
       ve (.bool true),
       ve undef,
       ve undef,
       ve undef,
       ve (.bool true),
       ve (.bool true),
       ve (.bool true),
       ve (nv a),
       ve (nv b),
       ve (.bool false),
       ve (.bool false),
       ve undef,
       ve undef,
       ve undef,
       ve (.bool false),
       ve (.bool true),
       ve (.bool true),
       ve (.bool true),
       ve (nv a),
       ve (nv b),
       ve (.bool false),
       ve (.bool false),
       ve undef,
       ve undef,
       ve undef,
       ve (.bool false),
       ve (.bool true),
       ve (.bool true),
       ve (.bool true)] hs243 (.eq (.eq (.eq (.eq (.eq (.eq (.eq (.eq (.eq (.eq (.eq (.eq (.eq (.eq (.eq (.eq (.eq (.eq (.eq (.eq (.eq (.eq (.eq (.eq (.eq (.eq (.eq (.eq (.eq (.eq (.eq (.eq (.eq (.eq (.eq (.eq (.eq (.eq (.eq (.eq (.eq (.nil)))))))))))))))))))))))))))))))))))))))))) ?_ ?_
    · skip
      refine .o1 (ck rfl rfl rfl (fun _ w hn k => ⟨#[], rfl, fun _ => by kernel_rfl, first_c  _⟩) fun _ => rfl) ?_
      refine .o1 (tk rfl rfl fun _ w hn k => ⟨_, v_move rfl (k.eq1 0 86 rfl), rfl⟩) ?_
      refine .o1 (tg rfl rfl rfl (fun _ _ k => k.eq1 1 87 rfl) fun _ w hn k => ⟨_, v_load rfl (k.fx 3 h245) (l_two Tryd.isAgg23 Tryd.sizeOf23 (hb250.new_ hn)), rfl⟩) ?_
      refine .o1 (tg rfl rfl rfl (fun _ _ k => k.eq1 1 87 rfl) fun _ w hn k => ⟨_, v_load rfl (k.fx 4 h246) (l_two Tryd.isAgg23 Tryd.sizeOf23 (hb251.new_ hn)), rfl⟩) ?_
      refine .o1 (cg rfl rfl rfl (fun _ _ k => k.eq1 1 87 rfl) rfl (fun _ w hn k => ⟨#[nv a, nv b], args2 (k.eq1 2 88 rfl) (k.eq1 3 89 rfl), fun _ => by kernel_rfl, less_c a b _⟩) fun _ => congrArg Value.bool ht254) ?_
      refine .o1 (tg rfl rfl rfl (fun _ _ k => k.eq1 1 87 rfl) fun _ w hn k => ⟨_, v_not rfl (k.eq1 4 90 rfl), rfl⟩) ?_
      refine .o1 (tg rfl rfl rfl (fun _ _ k => k.eq1 1 87 rfl) fun _ w hn k => ⟨_, v_move rfl (k.eq1 5 91 rfl), rfl⟩) ?_
      refine .o1 (sk rfl rfl rfl (fun _ _ _ k => k.eq1 6 92 rfl) (fun _ => rfl)) ?_
      refine .o1 (sk rfl rfl rfl (fun _ _ _ k => k.eq1 6 92 rfl) (fun _ => rfl)) ?_
      refine .o1 (sk rfl rfl rfl (fun _ _ _ k => k.eq1 6 92 rfl) (fun _ => rfl)) ?_
      refine .o1 (sk rfl rfl rfl (fun _ _ _ k => k.eq1 6 92 rfl) (fun _ => rfl)) ?_
      refine .o1 (tg rfl rfl rfl (fun _ _ k => k.eq1 1 87 rfl) fun _ w hn k => ⟨_, v_pickT rfl (k.eq1 6 92 rfl) rfl, rfl⟩) ?_
      refine .o1 (tg rfl rfl rfl (fun _ _ k => k.eq1 1 87 rfl) fun _ w hn k => ⟨_, v_move rfl (k.eq1 11 97 rfl), rfl⟩) ?_
      refine .o1 (sk rfl rfl rfl (fun _ _ _ k => k.eq1 12 98 rfl) (fun _ => rfl)) ?_
      refine .o1 (sk rfl rfl rfl (fun _ _ _ k => k.eq1 12 98 rfl) (fun _ => rfl)) ?_
      refine .o1 (sk rfl rfl rfl (fun _ _ _ k => k.eq1 12 98 rfl) (fun _ => rfl)) ?_
      refine .o1 (tg rfl rfl rfl (fun _ _ k => k.eq1 1 87 rfl) fun _ w hn k => ⟨_, v_pickT rfl (k.eq1 12 98 rfl) rfl, rfl⟩) ?_
      refine .o1 (tk rfl rfl fun _ w hn k => ⟨_, v_pickT rfl (k.eq1 1 87 rfl) (k.eq1 16 102 rfl), rfl⟩) ?_
      refine .o1 (tk rfl rfl fun _ w hn k => ⟨_, v_move rfl (k.eq1 17 103 rfl), rfl⟩) ?_
      refine .o1 (tg rfl rfl rfl (fun _ _ k => k.eq1 18 104 rfl) fun _ w hn k => ⟨_, v_load rfl (k.fx 3 h245) (l_two Tryd.isAgg23 Tryd.sizeOf23 (hb250.new_ hn)), rfl⟩) ?_
      refine .o1 (tg rfl rfl rfl (fun _ _ k => k.eq1 18 104 rfl) fun _ w hn k => ⟨_, v_load rfl (k.fx 4 h246) (l_two Tryd.isAgg23 Tryd.sizeOf23 (hb251.new_ hn)), rfl⟩) ?_
      refine .o1 (cg rfl rfl rfl (fun _ _ k => k.eq1 18 104 rfl) rfl (fun _ w hn k => ⟨#[nv a, nv b], args2 (k.eq1 19 105 rfl) (k.eq1 20 106 rfl), fun _ => by kernel_rfl, less_c a b _⟩) fun _ => congrArg Value.bool ht254) ?_
      refine .o1 (tg rfl rfl rfl (fun _ _ k => k.eq1 18 104 rfl) fun _ w hn k => ⟨_, v_move rfl (k.eq1 21 107 rfl), rfl⟩) ?_
      refine .o1 (sk rfl rfl rfl (fun _ _ _ k => k.eq1 22 108 rfl) (fun _ => rfl)) ?_
      refine .o1 (sk rfl rfl rfl (fun _ _ _ k => k.eq1 22 108 rfl) (fun _ => rfl)) ?_
      refine .o1 (sk rfl rfl rfl (fun _ _ _ k => k.eq1 22 108 rfl) (fun _ => rfl)) ?_
      refine .o1 (tg rfl rfl rfl (fun _ _ k => k.eq1 18 104 rfl) fun _ w hn k => ⟨_, v_pickF rfl (k.eq1 22 108 rfl) rfl, rfl⟩) ?_
      refine .o1 (tg rfl rfl rfl (fun _ _ k => k.eq1 18 104 rfl) fun _ w hn k => ⟨_, v_not rfl (k.eq1 26 112 rfl), rfl⟩) ?_
      refine .o1 (tk rfl rfl fun _ w hn k => ⟨_, v_pickT rfl (k.eq1 18 104 rfl) (k.eq1 27 113 rfl), rfl⟩) ?_
      refine .o1 (tk rfl rfl fun _ w hn k => ⟨_, v_move rfl (k.eq1 28 114 rfl), rfl⟩) ?_
      refine .o1 (tg rfl rfl rfl (fun _ _ k => k.eq1 29 115 rfl) fun _ w hn k => ⟨_, v_load rfl (k.fx 3 h245) (l_two Tryd.isAgg23 Tryd.sizeOf23 (hb250.new_ hn)), rfl⟩) ?_
      refine .o1 (tg rfl rfl rfl (fun _ _ k => k.eq1 29 115 rfl) fun _ w hn k => ⟨_, v_load rfl (k.fx 4 h246) (l_two Tryd.isAgg23 Tryd.sizeOf23 (hb251.new_ hn)), rfl⟩) ?_
      refine .o1 (cg rfl rfl rfl (fun _ _ k => k.eq1 29 115 rfl) rfl (fun _ w hn k => ⟨#[nv a, nv b], args2 (k.eq1 30 116 rfl) (k.eq1 31 117 rfl), fun _ => by kernel_rfl, less_c a b _⟩) fun _ => congrArg Value.bool ht254) ?_
      refine .o1 (tg rfl rfl rfl (fun _ _ k => k.eq1 29 115 rfl) fun _ w hn k => ⟨_, v_move rfl (k.eq1 32 118 rfl), rfl⟩) ?_
      refine .o1 (sk rfl rfl rfl (fun _ _ _ k => k.eq1 33 119 rfl) (fun _ => rfl)) ?_
      refine .o1 (sk rfl rfl rfl (fun _ _ _ k => k.eq1 33 119 rfl) (fun _ => rfl)) ?_
      refine .o1 (sk rfl rfl rfl (fun _ _ _ k => k.eq1 33 119 rfl) (fun _ => rfl)) ?_
      refine .o1 (tg rfl rfl rfl (fun _ _ k => k.eq1 29 115 rfl) fun _ w hn k => ⟨_, v_pickF rfl (k.eq1 33 119 rfl) rfl, rfl⟩) ?_
      refine .o1 (tg rfl rfl rfl (fun _ _ k => k.eq1 29 115 rfl) fun _ w hn k => ⟨_, v_not rfl (k.eq1 37 123 rfl), rfl⟩) ?_
      refine .o1 (tk rfl rfl fun _ w hn k => ⟨_, v_pickT rfl (k.eq1 29 115 rfl) (k.eq1 38 124 rfl), rfl⟩) ?_
      refine .o1 (tk rfl rfl fun _ w hn k => ⟨_, v_assign rfl (k.eq1 39 125 rfl), rfl⟩) ?_
      exact .nil
    intro a277 w278 hn279 ha280
    have hs281 := ha280.size.trans hs243
    have hd282 := ha280.defers.trans hd244
    have h283 := ha280.ge 40 6 rfl
    have hN284 := hN253.transNew hn279
    clear hs243 hd244 h245 h246 h247 h248 h249 hb250 hq20 hb251 hq21 hb252 hq22 hN253 ha280 hn279
    refine st_nil ?_
    refine hK _ _ ?_
    clear hK K
    refine wp_ret (ret_k hd282 (v := .bool true) (res_t rfl h283 _) ?_)
    exact ⟨rfl, hN284⟩
  have hv285 : a91.eval (.tmp 8) = .bool false := h102.trans (congrArg Value.bool ht109)
  clear h102
  refine wp_g0 [true, true, true, true] [] 126
    [ve (.bool false),
     ve (.bool false),
     ve undef,
     ve (.bool false)] hs95 (.eq (.eq (.eq (.eq (.nil))))) ?_ ?_
  · skip
    refine .o1 (tk rfl rfl fun _ w hn k => ⟨_, v_move rfl (k.fx 8 hv285), rfl⟩) ?_
    refine .o1 (tk rfl rfl fun _ w hn k => ⟨_, v_move rfl (k.eq1 0 42 rfl), rfl⟩) ?_
    refine .o1 (sk rfl rfl rfl (fun _ _ _ k => k.eq1 1 43 rfl) (fun _ => rfl)) ?_
    refine .o1 (tk rfl rfl fun _ w hn k => ⟨_, v_pickF rfl (k.eq1 1 43 rfl) rfl, rfl⟩) ?_
    exact .nil
  intro a286 w287 hn288 ha289
  have hs290 := ha289.size.trans hs95
  have hd291 := ha289.defers.trans hd96
  have h292 := ha289.fx 3 h97
  have h293 := ha289.fx 4 h98
  have h294 := ha289.fx 5 h99
  have h295 := ha289.fx 6 h100
  have h296 := ha289.fx 7 h101
  have h297 := ha289.fx 8 hv285
  have h298 := ha289.fx 9 h103
  have h299 := ha289.ge 3 45 rfl
  have hb300 := hb104.new_ hn288
  have hb301 := hb105.new_ hn288
  have hb302 := hb106.new_ hn288
  have hb303 := hb107.new_ hn288
  have hN304 := hN108.transNew hn288
  clear hs95 hd96 h97 h98 h99 h100 h101 hv285 h103 hb104 hb105 hb106 hb107 hN108 ha289 hn288
  refine st_nil ?_
  refine hK _ _ ?_
  clear hK K
  refine wp_cond_false h299 ?_
  refine wp_skip ?_
  refine hK _ _ ?_
  clear hK K
  refine wp_seq_k fun K hK => ?_
  refine wp_g [true, true, true, true, false] [] [(4, false)] 126
    [ve (nv a),
     ve (nv b),
     ve (nv (remM a b)),
     IsNew w287 23 [iv 0, iv 0],
     vt]
    [3] (newsCons (fun v w h => IsNew.old h) newsNil) hs290 (.eq (.eq (.eq (.nw (.tt (.nil)))))) ?_ (fun i h => by cases h) ?_
  · skip
    refine .o1 (tk rfl rfl fun _ w hn k => ⟨_, v_load rfl (k.fx 3 h292) (l_two Tryd.isAgg23 Tryd.sizeOf23 (hb300.new_ hn)), rfl⟩) ?_
    refine .o1 (tk rfl rfl fun _ w hn k => ⟨_, v_load rfl (k.fx 4 h293) (l_two Tryd.isAgg23 Tryd.sizeOf23 (hb301.new_ hn)), rfl⟩) ?_
    refine .o1 (ck rfl rfl rfl (fun _ w hn k => ⟨#[nv a, nv b], args2 (k.eq1 0 60 rfl) (k.eq1 1 61 rfl), fun _ => by kernel_rfl, rem_c a b _⟩) fun _ => rfl) ?_
    refine .o2 (step_allocN (cs := [iv 0, iv 0]) (t := 23) rfl (noG rfl) (fun _ w hn k => rfl) (fun q _ hq hb => ⟨q, rfl, hq, hb⟩)) ?_
    refine .off ?_
    exact .nil
  intro a305 w306 hn307 ha308
  have hs309 := ha308.size.trans hs290
  have hd310 := ha308.defers.trans hd291
  have h311 := ha308.fx 3 h292
  have h312 := ha308.fx 4 h293
  have h313 := ha308.fx 5 h294
  have h314 := ha308.fx 6 h295
  have h315 := ha308.fx 8 h297
  have h316 := ha308.fx 9 h298
  have h317 := ha308.ge 2 62 rfl
  obtain ⟨q319, h318, hq320, hb321⟩ : IsNew _ _ _ _ _ := ha308.got 3 12 rfl (by kernel_rfl)
  have hb322 := hb300.new_ hn307
  have hb323 := hb301.new_ hn307
  have hb324 := hb302.new_ hn307
  have hne325 : q8 ≠ q319 := by have h1 := hb300.lt; have h2 := hq320; omega
  have hne326 : q12 ≠ q319 := by have h1 := hb301.lt; have h2 := hq320; omega
  have hne327 : q16 ≠ q319 := by have h1 := hb302.lt; have h2 := hq320; omega
  have hq328 := Nat.le_trans hN304.size hq320
  have hN329 := hN304.transNew hn307
  clear hs290 hd291 h292 h293 h294 h295 h296 h297 h298 h299 hb300 hb301 hb302 hb303 hq61 hq320 hN304 ha308 hn307
  obtain ⟨w330, -, hst331, hb332, hu333, hf334⟩ := s_two (v0 := iv ((remM a b).k)) (v1 := iv ((remM a b).n)) Tryd.sizeOf23 rfl rfl rfl hb321
  refine st_act rfl rfl fun K335 hL336 => a_store' rfl h318 h317 hst331 (hL336 _ _ trivial ?_)
  have hb337 := hf334 _ _ _ (hne325) hb322
  have hb338 := hf334 _ _ _ (hne326) hb323
  have hb339 := hf334 _ _ _ (hne327) hb324
  have hN340 := hN329.trans hu333 (fun k hk hkb => by subst hkb; omega)
  clear hb321 hst331 K335 hL336 hN329 hb322 hb323 hb324 hu333 hf334
  clear hne325
  clear hne326
  clear hne327
  refine st_nil ?_
  clear h317
  refine hK _ _ ?_
  clear hK K
  refine wp_seq_k fun K hK => ?_
  refine wp_seq_k fun K hK => ?_
  have ht341 : (decide ((max ((remM a b).n) (-((remM a b).n))) < (max b.n (-b.n)))) = true := (rests ht86 ht87 ht88 ht89 ht90).2.1
  have ht341d := of_decide_eq_true ht341
  have ht342 : (equalM (remM a b) (Nm.mk 0 0)) = false := (rests ht86 ht87 ht88 ht89 ht90).1.trans ht109
  refine wp_g0 [true, true, true, true, true, true, true, true, true, true, true, true, true, true, true, true, true, true, true, true, true, true, true] [] 126
    [ve (.bool true),
     ve (.bool true),
     ve (.pointer (some ⟨q319, 1, none⟩)),
     ve (iv ((remM a b).n)),
     ve (.pointer (some ⟨q319, 1, none⟩)),
     ve (iv ((remM a b).n)),
     ve (iv (-((remM a b).n))),
     ve (iv (max ((remM a b).n) (-((remM a b).n)))),
     ve (.pointer (some ⟨q12, 1, none⟩)),
     ve (iv b.n),
     ve (.pointer (some ⟨q12, 1, none⟩)),
     ve (iv b.n),
     ve (iv (-b.n)),
     ve (iv (max b.n (-b.n))),
     ve (.bool false),
     ve (.bool false),
     ve (.bool false),
     ve (nv (remM a b)),
     ve (nv (Nm.mk 0 0)),
     ve (.bool false),
     ve (.bool false),
     ve (.bool false),
     ve (.bool false)] hs309 (.eq (.eq (.eq (.eq (.eq (.eq (.eq (.eq (.eq (.eq (.eq (.eq (.eq (.eq (.eq (.eq (.eq (.eq (.eq (.eq (.eq (.eq (.eq (.nil)))))))))))))))))))))))) ?_ ?_
  · skip
    refine .o1 (tk rfl rfl fun _ w hn k => ⟨_, v_move rfl (k.fx 9 h316), rfl⟩) ?_
    refine .o1 (tk rfl rfl fun _ w hn k => ⟨_, v_move rfl (k.eq1 0 63 rfl), rfl⟩) ?_
    refine .o1 (tg rfl rfl rfl (fun _ _ k => k.eq1 1 64 rfl) fun _ w hn k => ⟨_, v_field rfl (k.fx 12 h318) (fun w => rfl), rfl⟩) ?_
    refine .o1 (tg rfl rfl rfl (fun _ _ k => k.eq1 1 64 rfl) fun _ w hn k => ⟨_, v_load rfl (k.eq1 2 65 rfl) (l_one Tryd.isAgg3 ((hb332.new_ hn).cell 1)), rfl⟩) ?_
    refine .o1 (tg rfl rfl rfl (fun _ _ k => k.eq1 1 64 rfl) fun _ w hn k => ⟨_, v_field rfl (k.fx 12 h318) (fun w => rfl), rfl⟩) ?_
    refine .o1 (tg rfl rfl rfl (fun _ _ k => k.eq1 1 64 rfl) fun _ w hn k => ⟨_, v_load rfl (k.eq1 4 67 rfl) (l_one Tryd.isAgg3 ((hb332.new_ hn).cell 1)), rfl⟩) ?_
    refine .o1 (tg rfl rfl rfl (fun _ _ k => k.eq1 1 64 rfl) fun _ w hn k => ⟨_, v_neg rfl (k.eq1 5 68 rfl) (by omega), rfl⟩) ?_
    refine .o1 (tg rfl rfl rfl (fun _ _ k => k.eq1 1 64 rfl) fun _ w hn k => ⟨_, v_max rfl (k.eq1 3 66 rfl) (k.eq1 6 69 rfl), rfl⟩) ?_
    refine .o1 (tg rfl rfl rfl (fun _ _ k => k.eq1 1 64 rfl) fun _ w hn k => ⟨_, v_field rfl (k.fx 4 h312) (fun w => rfl), rfl⟩) ?_
    refine .o1 (tg rfl rfl rfl (fun _ _ k => k.eq1 1 64 rfl) fun _ w hn k => ⟨_, v_load rfl (k.eq1 8 71 rfl) (l_one Tryd.isAgg3 ((hb338.new_ hn).cell 1)), rfl⟩) ?_
    refine .o1 (tg rfl rfl rfl (fun _ _ k => k.eq1 1 64 rfl) fun _ w hn k => ⟨_, v_field rfl (k.fx 4 h312) (fun w => rfl), rfl⟩) ?_
    refine .o1 (tg rfl rfl rfl (fun _ _ k => k.eq1 1 64 rfl) fun _ w hn k => ⟨_, v_load rfl (k.eq1 10 73 rfl) (l_one Tryd.isAgg3 ((hb338.new_ hn).cell 1)), rfl⟩) ?_
    refine .o1 (tg rfl rfl rfl (fun _ _ k => k.eq1 1 64 rfl) fun _ w hn k => ⟨_, v_neg rfl (k.eq1 11 74 rfl) (by omega), rfl⟩) ?_
    refine .o1 (tg rfl rfl rfl (fun _ _ k => k.eq1 1 64 rfl) fun _ w hn k => ⟨_, v_max rfl (k.eq1 9 72 rfl) (k.eq1 12 75 rfl), rfl⟩) ?_
    refine .o1 (tg rfl rfl rfl (fun _ _ k => k.eq1 1 64 rfl) fun _ w hn k => ⟨_, v_bin rfl (k.eq1 7 70 rfl) (k.eq1 13 76 rfl) (fun _ => rfl) (r_geqK ht341), rfl⟩) ?_
    refine .o1 (tg rfl rfl rfl (fun _ _ k => k.eq1 1 64 rfl) fun _ w hn k => ⟨_, v_move rfl (k.eq1 14 77 rfl), rfl⟩) ?_
    refine .o1 (tg rfl rfl rfl (fun _ _ k => k.eq1 15 78 rfl) fun _ w hn k => ⟨_, v_move rfl (k.fx 8 h315), rfl⟩) ?_
    refine .o1 (tg rfl rfl rfl (fun _ _ k => k.eq1 15 78 rfl) fun _ w hn k => ⟨_, v_load rfl (k.fx 12 h318) (l_two Tryd.isAgg23 Tryd.sizeOf23 (hb332.new_ hn)), rfl⟩) ?_
    refine .o1 (cg rfl rfl rfl (fun _ _ k => k.eq1 15 78 rfl) rfl (fun _ w hn k => ⟨#[iv 0], args1 rfl, fun _ => by kernel_rfl, w_c 0 _⟩) fun _ => rfl) ?_
    refine .o1 (cg rfl rfl rfl (fun _ _ k => k.eq1 15 78 rfl) rfl (fun _ w hn k => ⟨#[nv (remM a b), nv (Nm.mk 0 0)], args2 (k.eq1 17 80 rfl) (k.eq1 18 81 rfl), fun _ => by kernel_rfl, equal_c (remM a b) (Nm.mk 0 0) _⟩) fun _ => congrArg Value.bool ht342) ?_
    refine .o1 (tg rfl rfl rfl (fun _ _ k => k.eq1 15 78 rfl) fun _ w hn k => ⟨_, v_bin rfl (k.eq1 16 79 rfl) (k.eq1 19 82 rfl) (fun _ => rfl) (fun w => by kernel_rfl), rfl⟩) ?_
    refine .o1 (tg rfl rfl rfl (fun _ _ k => k.eq1 1 64 rfl) fun _ w hn k => ⟨_, v_pickF rfl (k.eq1 15 78 rfl) (k.eq1 20 83 rfl), rfl⟩) ?_
    refine .o1 (tk rfl rfl fun _ w hn k => ⟨_, v_pickT rfl (k.eq1 1 64 rfl) (k.eq1 21 84 rfl), rfl⟩) ?_
    exact .nil
  intro a343 w344 hn345 ha346
  have hs347 := ha346.size.trans hs309
  have hd348 := ha346.defers.trans hd310
  have h349 := ha346.fx 3 h311
  have h350 := ha346.fx 4 h312
  have h351 := ha346.fx 5 h313
  have h352 := ha346.fx 6 h314
  have h353 := ha346.ge 22 85 rfl
  have hb354 := hb337.new_ hn345
  have hb355 := hb338.new_ hn345
  have hb356 := hb339.new_ hn345
  have hN357 := hN340.transNew hn345
  clear hs309 hd310 h311 h312 h313 h314 h315 h316 h318 hb337 hb338 hb339 hb332 hq328 hN340 ha346 hn345
  refine st_nil ?_
  refine hK _ _ ?_
  clear hK K
  refine wp_cond_false h353 ?_
  refine wp_skip ?_
  refine hK _ _ ?_
  clear hK K
  refine wp_seq_k fun K hK => ?_
  rcases Bool.eq_false_or_eq_true (lessM a b) with ht358 | ht358
  · skip
    rcases Bool.eq_false_or_eq_true (lessM b c) with ht359 | ht359
    · skip
      have ht360 : (lessM a c) = true := less_trans ht358 ht359
      have ht361 : (lessM b a) = false := less_asymm ht358
      have ht362 : (equalM a b) = false := less_ne ht358
      refine wp_g0 [true, true, true, true, true, true, true, true, true, true, true, true, true, true, true, true, true, true, true, true, true, true, true, true, true, true, true, true, true, true, true, true, true, true, true, true, true, true, true, true, true] [] 126
        [ve (.bool true),
         ve (.bool true),
         ve (nv a),
         ve (nv b),
         ve (.bool true),
         ve (.bool false),
         ve (.bool false),
         ve (nv b),
         ve (nv c),
         ve (.bool true),
         ve (.bool false),
         ve (.bool false),
         ve (.bool false),
         ve (nv a),
         ve (nv c),
         ve (.bool true),
         ve (.bool true),
         ve (.bool true),
         ve (.bool true),
         ve (nv a),
         ve (nv b),
         ve (.bool true),
         ve (.bool true),
         ve (nv b),
         ve (nv a),
         ve (.bool false),
         ve (.bool false),
         ve (.bool true),
         ve (.bool true),
         ve (.bool true),
         ve (nv a),
         ve (nv b),
         ve (.bool true),
         ve (.bool true),
         ve (nv a),
         ve (nv b),
         ve (.bool false),
         ve (.bool false),
         ve (.bool true),
         ve (.bool true),
         ve (.bool true)] hs347 (.eq (.eq (.eq (.eq (.eq (.eq (.eq (.eq (.eq (.eq (.eq (.eq (.eq (.eq (.eq (.eq (.eq (.eq (.eq (.eq (.eq (.eq (.eq (.eq (.eq (.eq (.eq (.eq (.eq (.eq (.eq (.eq (.eq (.eq (.eq (.eq (.eq (.eq (.eq (.eq (.eq (.nil)))))))))))))))))))))))))))))))))))))))))) ?_ ?_
      · skip
        refine .o1 (ck rfl rfl rfl (fun _ w hn k => ⟨#[], rfl, fun _ => by kernel_rfl, first_c  _⟩) fun _ => rfl) ?_
        refine .o1 (tk rfl rfl fun _ w hn k => ⟨_, v_move rfl (k.eq1 0 86 rfl), rfl⟩) ?_
        refine .o1 (tg rfl rfl rfl (fun _ _ k => k.eq1 1 87 rfl) fun _ w hn k => ⟨_, v_load rfl (k.fx 3 h349) (l_two Tryd.isAgg23 Tryd.sizeOf23 (hb354.new_ hn)), rfl⟩) ?_
        refine .o1 (tg rfl rfl rfl (fun _ _ k => k.eq1 1 87 rfl) fun _ w hn k => ⟨_, v_load rfl (k.fx 4 h350) (l_two Tryd.isAgg23 Tryd.sizeOf23 (hb355.new_ hn)), rfl⟩) ?_
        refine .o1 (cg rfl rfl rfl (fun _ _ k => k.eq1 1 87 rfl) rfl (fun _ w hn k => ⟨#[nv a, nv b], args2 (k.eq1 2 88 rfl) (k.eq1 3 89 rfl), fun _ => by kernel_rfl, less_c a b _⟩) fun _ => congrArg Value.bool ht358) ?_
        refine .o1 (tg rfl rfl rfl (fun _ _ k => k.eq1 1 87 rfl) fun _ w hn k => ⟨_, v_not rfl (k.eq1 4 90 rfl), rfl⟩) ?_
        refine .o1 (tg rfl rfl rfl (fun _ _ k => k.eq1 1 87 rfl) fun _ w hn k => ⟨_, v_move rfl (k.eq1 5 91 rfl), rfl⟩) ?_
        refine .o1 (tg rfl rfl rfl (fun _ _ k => k.eq1 6 92 rfl) fun _ w hn k => ⟨_, v_load rfl (k.fx 4 h350) (l_two Tryd.isAgg23 Tryd.sizeOf23 (hb355.new_ hn)), rfl⟩) ?_
        refine .o1 (tg rfl rfl rfl (fun _ _ k => k.eq1 6 92 rfl) fun _ w hn k => ⟨_, v_load rfl (k.fx 5 h351) (l_two Tryd.isAgg23 Tryd.sizeOf23 (hb356.new_ hn)), rfl⟩) ?_
        refine .o1 (cg rfl rfl rfl (fun _ _ k => k.eq1 6 92 rfl) rfl (fun _ w hn k => ⟨#[nv b, nv c], args2 (k.eq1 7 93 rfl) (k.eq1 8 94 rfl), fun _ => by kernel_rfl, less_c b c _⟩) fun _ => congrArg Value.bool ht359) ?_
        refine .o1 (tg rfl rfl rfl (fun _ _ k => k.eq1 6 92 rfl) fun _ w hn k => ⟨_, v_not rfl (k.eq1 9 95 rfl), rfl⟩) ?_
        refine .o1 (tg rfl rfl rfl (fun _ _ k => k.eq1 1 87 rfl) fun _ w hn k => ⟨_, v_pickF rfl (k.eq1 6 92 rfl) (k.eq1 10 96 rfl), rfl⟩) ?_
        refine .o1 (tg rfl rfl rfl (fun _ _ k => k.eq1 1 87 rfl) fun _ w hn k => ⟨_, v_move rfl (k.eq1 11 97 rfl), rfl⟩) ?_
        refine .o1 (tg rfl rfl rfl (fun _ _ k => k.eq1 12 98 rfl) fun _ w hn k => ⟨_, v_load rfl (k.fx 3 h349) (l_two Tryd.isAgg23 Tryd.sizeOf23 (hb354.new_ hn)), rfl⟩) ?_
        refine .o1 (tg rfl rfl rfl (fun _ _ k => k.eq1 12 98 rfl) fun _ w hn k => ⟨_, v_load rfl (k.fx 5 h351) (l_two Tryd.isAgg23 Tryd.sizeOf23 (hb356.new_ hn)), rfl⟩) ?_
        refine .o1 (cg rfl rfl rfl (fun _ _ k => k.eq1 12 98 rfl) rfl (fun _ w hn k => ⟨#[nv a, nv c], args2 (k.eq1 13 99 rfl) (k.eq1 14 100 rfl), fun _ => by kernel_rfl, less_c a c _⟩) fun _ => congrArg Value.bool ht360) ?_
        refine .o1 (tg rfl rfl rfl (fun _ _ k => k.eq1 1 87 rfl) fun _ w hn k => ⟨_, v_pickF rfl (k.eq1 12 98 rfl) (k.eq1 15 101 rfl), rfl⟩) ?_
        refine .o1 (tk rfl rfl fun _ w hn k => ⟨_, v_pickT rfl (k.eq1 1 87 rfl) (k.eq1 16 102 rfl), rfl⟩) ?_
        refine .o1 (tk rfl rfl fun _ w hn k => ⟨_, v_move rfl (k.eq1 17 103 rfl), rfl⟩) ?_
        refine .o1 (tg rfl rfl rfl (fun _ _ k => k.eq1 18 104 rfl) fun _ w hn k => ⟨_, v_load rfl (k.fx 3 h349) (l_two Tryd.isAgg23 Tryd.sizeOf23 (hb354.new_ hn)), rfl⟩) ?_
        refine .o1 (tg rfl rfl rfl (fun _ _ k => k.eq1 18 104 rfl) fun _ w hn k => ⟨_, v_load rfl (k.fx 4 h350) (l_two Tryd.isAgg23 Tryd.sizeOf23 (hb355.new_ hn)), rfl⟩) ?_
        refine .o1 (cg rfl rfl rfl (fun _ _ k => k.eq1 18 104 rfl) rfl (fun _ w hn k => ⟨#[nv a, nv b], args2 (k.eq1 19 105 rfl) (k.eq1 20 106 rfl), fun _ => by kernel_rfl, less_c a b _⟩) fun _ => congrArg Value.bool ht358) ?_
        refine .o1 (tg rfl rfl rfl (fun _ _ k => k.eq1 18 104 rfl) fun _ w hn k => ⟨_, v_move rfl (k.eq1 21 107 rfl), rfl⟩) ?_
        refine .o1 (tg rfl rfl rfl (fun _ _ k => k.eq1 22 108 rfl) fun _ w hn k => ⟨_, v_load rfl (k.fx 4 h350) (l_two Tryd.isAgg23 Tryd.sizeOf23 (hb355.new_ hn)), rfl⟩) ?_
        refine .o1 (tg rfl rfl rfl (fun _ _ k => k.eq1 22 108 rfl) fun _ w hn k => ⟨_, v_load rfl (k.fx 3 h349) (l_two Tryd.isAgg23 Tryd.sizeOf23 (hb354.new_ hn)), rfl⟩) ?_
        refine .o1 (cg rfl rfl rfl (fun _ _ k => k.eq1 22 108 rfl) rfl (fun _ w hn k => ⟨#[nv b, nv a], args2 (k.eq1 23 109 rfl) (k.eq1 24 110 rfl), fun _ => by kernel_rfl, less_c b a _⟩) fun _ => congrArg Value.bool ht361) ?_
        refine .o1 (tg rfl rfl rfl (fun _ _ k => k.eq1 18 104 rfl) fun _ w hn k => ⟨_, v_pickT rfl (k.eq1 22 108 rfl) (k.eq1 25 111 rfl), rfl⟩) ?_
        refine .o1 (tg rfl rfl rfl (fun _ _ k => k.eq1 18 104 rfl) fun _ w hn k => ⟨_, v_not rfl (k.eq1 26 112 rfl), rfl⟩) ?_
        refine .o1 (tk rfl rfl fun _ w hn k => ⟨_, v_pickT rfl (k.eq1 18 104 rfl) (k.eq1 27 113 rfl), rfl⟩) ?_
        refine .o1 (tk rfl rfl fun _ w hn k => ⟨_, v_move rfl (k.eq1 28 114 rfl), rfl⟩) ?_
        refine .o1 (tg rfl rfl rfl (fun _ _ k => k.eq1 29 115 rfl) fun _ w hn k => ⟨_, v_load rfl (k.fx 3 h349) (l_two Tryd.isAgg23 Tryd.sizeOf23 (hb354.new_ hn)), rfl⟩) ?_
        refine .o1 (tg rfl rfl rfl (fun _ _ k => k.eq1 29 115 rfl) fun _ w hn k => ⟨_, v_load rfl (k.fx 4 h350) (l_two Tryd.isAgg23 Tryd.sizeOf23 (hb355.new_ hn)), rfl⟩) ?_
        refine .o1 (cg rfl rfl rfl (fun _ _ k => k.eq1 29 115 rfl) rfl (fun _ w hn k => ⟨#[nv a, nv b], args2 (k.eq1 30 116 rfl) (k.eq1 31 117 rfl), fun _ => by kernel_rfl, less_c a b _⟩) fun _ => congrArg Value.bool ht358) ?_
        refine .o1 (tg rfl rfl rfl (fun _ _ k => k.eq1 29 115 rfl) fun _ w hn k => ⟨_, v_move rfl (k.eq1 32 118 rfl), rfl⟩) ?_
        refine .o1 (tg rfl rfl rfl (fun _ _ k => k.eq1 33 119 rfl) fun _ w hn k => ⟨_, v_load rfl (k.fx 3 h349) (l_two Tryd.isAgg23 Tryd.sizeOf23 (hb354.new_ hn)), rfl⟩) ?_
        refine .o1 (tg rfl rfl rfl (fun _ _ k => k.eq1 33 119 rfl) fun _ w hn k => ⟨_, v_load rfl (k.fx 4 h350) (l_two Tryd.isAgg23 Tryd.sizeOf23 (hb355.new_ hn)), rfl⟩) ?_
        refine .o1 (cg rfl rfl rfl (fun _ _ k => k.eq1 33 119 rfl) rfl (fun _ w hn k => ⟨#[nv a, nv b], args2 (k.eq1 34 120 rfl) (k.eq1 35 121 rfl), fun _ => by kernel_rfl, equal_c a b _⟩) fun _ => congrArg Value.bool ht362) ?_
        refine .o1 (tg rfl rfl rfl (fun _ _ k => k.eq1 29 115 rfl) fun _ w hn k => ⟨_, v_pickT rfl (k.eq1 33 119 rfl) (k.eq1 36 122 rfl), rfl⟩) ?_
        refine .o1 (tg rfl rfl rfl (fun _ _ k => k.eq1 29 115 rfl) fun _ w hn k => ⟨_, v_not rfl (k.eq1 37 123 rfl), rfl⟩) ?_
        refine .o1 (tk rfl rfl fun _ w hn k => ⟨_, v_pickT rfl (k.eq1 29 115 rfl) (k.eq1 38 124 rfl), rfl⟩) ?_
        refine .o1 (tk rfl rfl fun _ w hn k => ⟨_, v_assign rfl (k.eq1 39 125 rfl), rfl⟩) ?_
        exact .nil
      intro a363 w364 hn365 ha366
      have hs367 := ha366.size.trans hs347
      have hd368 := ha366.defers.trans hd348
      have h369 := ha366.ge 40 6 rfl
      have hN370 := hN357.transNew hn365
      clear hs347 hd348 h349 h350 h351 h352 h353 hb354 hq20 hb355 hq21 hb356 hq22 hN357 ha366 hn365
      refine st_nil ?_
      refine hK _ _ ?_
      clear hK K
      refine wp_ret (ret_k hd368 (v := .bool true) (res_t rfl h369 _) ?_)
      exact ⟨rfl, hN370⟩
    have ht371 : (lessM b a) = false := less_asymm ht358
    have ht372 : (equalM a b) = false := less_ne ht358
    refine wp_g0 [true, true, true, true, true, true, true, true, true, true, true, true, true, true, true, true, true, true, true, true, true, true, true, true, true, true, true, true, true, true, true, true, true, true, true, true, true, true, true, true, true] [] 126
      [ve (.bool true),
       ve (.bool true),
       ve (nv a),
       ve (nv b),
       ve (.bool true),
       ve (.bool false),
       ve (.bool false),
       ve (nv b),
       ve (nv c),
       ve (.bool false),
       ve (.bool true),
       ve (.bool true),
       ve (.bool true),
       ve undef,
       ve undef,
       ve undef,
       ve (.bool true),
       ve (.bool true),
       ve (.bool true),
       ve (nv a),
       ve (nv b),
       ve (.bool true),
       ve (.bool true),
       ve (nv b),
       ve (nv a),
       ve (.bool false),
       ve (.bool false),
       ve (.bool true),
       ve (.bool true),
       ve (.bool true),
       ve (nv a),
       ve (nv b),
       ve (.bool true),
       ve (.bool true),
       ve (nv a),
       ve (nv b),
       ve (.bool false),
       ve (.bool false),
       ve (.bool true),
       ve (.bool true),
       ve (.bool true)] hs347 (.eq (.eq (.eq (.eq (.eq (.eq (.eq (.eq (.eq (.eq (.eq (.eq (.eq (.eq (.eq (.eq (.eq (.eq (.eq (.eq (.eq (.eq (.eq (.eq (.eq (.eq (.eq (.eq (.eq (.eq (.eq (.eq (.eq (.eq (.eq (.eq (.eq (.eq (.eq (.eq (.eq (.nil)))))))))))))))))))))))))))))))))))))))))) ?_ ?_
    · skip
      refine .o1 (ck rfl rfl rfl (fun _ w hn k => ⟨#[], rfl, fun _ => by kernel_rfl, first_c  _⟩) fun _ => rfl) ?_
      refine .o1 (tk rfl rfl fun _ w hn k => ⟨_, v_move rfl (k.eq1 0 86 rfl), rfl⟩) ?_
      refine .o1 (tg rfl rfl rfl (fun _ _ k => k.eq1 1 87 rfl) fun _ w hn k => ⟨_, v_load rfl (k.fx 3 h349) (l_two Tryd.isAgg23 Tryd.sizeOf23 (hb354.new_ hn)), rfl⟩) ?_
      refine .o1 (tg rfl rfl rfl (fun _ _ k => k.eq1 1 87 rfl) fun _ w hn k => ⟨_, v_load rfl (k.fx 4 h350) (l_two Tryd.isAgg23 Tryd.sizeOf23 (hb355.new_ hn)), rfl⟩) ?_
      refine .o1 (cg rfl rfl rfl (fun _ _ k => k.eq1 1 87 rfl) rfl (fun _ w hn k => ⟨#[nv a, nv b], args2 (k.eq1 2 88 rfl) (k.eq1 3 89 rfl), fun _ => by kernel_rfl, less_c a b _⟩) fun _ => congrArg Value.bool ht358) ?_
      refine .o1 (tg rfl rfl rfl (fun _ _ k => k.eq1 1 87 rfl) fun _ w hn k => ⟨_, v_not rfl (k.eq1 4 90 rfl), rfl⟩) ?_
      refine .o1 (tg rfl rfl rfl (fun _ _ k => k.eq1 1 87 rfl) fun _ w hn k => ⟨_, v_move rfl (k.eq1 5 91 rfl), rfl⟩) ?_
      refine .o1 (tg rfl rfl rfl (fun _ _ k => k.eq1 6 92 rfl) fun _ w hn k => ⟨_, v_load rfl (k.fx 4 h350) (l_two Tryd.isAgg23 Tryd.sizeOf23 (hb355.new_ hn)), rfl⟩) ?_
      refine .o1 (tg rfl rfl rfl (fun _ _ k => k.eq1 6 92 rfl) fun _ w hn k => ⟨_, v_load rfl (k.fx 5 h351) (l_two Tryd.isAgg23 Tryd.sizeOf23 (hb356.new_ hn)), rfl⟩) ?_
      refine .o1 (cg rfl rfl rfl (fun _ _ k => k.eq1 6 92 rfl) rfl (fun _ w hn k => ⟨#[nv b, nv c], args2 (k.eq1 7 93 rfl) (k.eq1 8 94 rfl), fun _ => by kernel_rfl, less_c b c _⟩) fun _ => congrArg Value.bool ht359) ?_
      refine .o1 (tg rfl rfl rfl (fun _ _ k => k.eq1 6 92 rfl) fun _ w hn k => ⟨_, v_not rfl (k.eq1 9 95 rfl), rfl⟩) ?_
      refine .o1 (tg rfl rfl rfl (fun _ _ k => k.eq1 1 87 rfl) fun _ w hn k => ⟨_, v_pickF rfl (k.eq1 6 92 rfl) (k.eq1 10 96 rfl), rfl⟩) ?_
      refine .o1 (tg rfl rfl rfl (fun _ _ k => k.eq1 1 87 rfl) fun _ w hn k => ⟨_, v_move rfl (k.eq1 11 97 rfl), rfl⟩) ?_
      refine .o1 (sk rfl rfl rfl (fun _ _ _ k => k.eq1 12 98 rfl) (fun _ => rfl)) ?_
      refine .o1 (sk rfl rfl rfl (fun _ _ _ k => k.eq1 12 98 rfl) (fun _ => rfl)) ?_
      refine .o1 (sk rfl rfl rfl (fun _ _ _ k => k.eq1 12 98 rfl) (fun _ => rfl)) ?_
      refine .o1 (tg rfl rfl rfl (fun _ _ k => k.eq1 1 87 rfl) fun _ w hn k => ⟨_, v_pickT rfl (k.eq1 12 98 rfl) rfl, rfl⟩) ?_
      refine .o1 (tk rfl rfl fun _ w hn k => ⟨_, v_pickT rfl (k.eq1 1 87 rfl) (k.eq1 16 102 rfl), rfl⟩) ?_
      refine .o1 (tk rfl rfl fun _ w hn k => ⟨_, v_move rfl (k.eq1 17 103 rfl), rfl⟩) ?_
      refine .o1 (tg rfl rfl rfl (fun _ _ k => k.eq1 18 104 rfl) fun _ w hn k => ⟨_, v_load rfl (k.fx 3 h349) (l_two Tryd.isAgg23 Tryd.sizeOf23 (hb354.new_ hn)), rfl⟩) ?_
      refine .o1 (tg rfl rfl rfl (fun _ _ k => k.eq1 18 104 rfl) fun _ w hn k => ⟨_, v_load rfl (k.fx 4 h350) (l_two Tryd.isAgg23 Tryd.sizeOf23 (hb355.new_ hn)), rfl⟩) ?_
      refine .o1 (cg rfl rfl rfl (fun _ _ k => k.eq1 18 104 rfl) rfl (fun _ w hn k => ⟨#[nv a, nv b], args2 (k.eq1 19 105 rfl) (k.eq1 20 106 rfl), fun _ => by kernel_rfl, less_c a b _⟩) fun _ => congrArg Value.bool ht358) ?_
      refine .o1 (tg rfl rfl rfl (fun _ _ k => k.eq1 18 104 rfl) fun _ w hn k => ⟨_, v_move rfl (k.eq1 21 107 rfl), rfl⟩) ?_
      refine .o1 (tg rfl rfl rfl (fun _ _ k => k.eq1 22 108 rfl) fun _ w hn k => ⟨_, v_load rfl (k.fx 4 h350) (l_two Tryd.isAgg23 Tryd.sizeOf23 (hb355.new_ hn)), rfl⟩) ?_
      refine .o1 (tg rfl rfl rfl (fun _ _ k => k.eq1 22 108 rfl) fun _ w hn k => ⟨_, v_load rfl (k.fx 3 h349) (l_two Tryd.isAgg23 Tryd.sizeOf23 (hb354.new_ hn)), rfl⟩) ?_
      refine .o1 (cg rfl rfl rfl (fun _ _ k => k.eq1 22 108 rfl) rfl (fun _ w hn k => ⟨#[nv b, nv a], args2 (k.eq1 23 109 rfl) (k.eq1 24 110 rfl), fun _ => by kernel_rfl, less_c b a _⟩) fun _ => congrArg Value.bool ht371) ?_
      refine .o1 (tg rfl rfl rfl (fun _ _ k => k.eq1 18 104 rfl) fun _ w hn k => ⟨_, v_pickT rfl (k.eq1 22 108 rfl) (k.eq1 25 111 rfl), rfl⟩) ?_
      refine .o1 (tg rfl rfl rfl (fun _ _ k => k.eq1 18 104 rfl) fun _ w hn k => ⟨_, v_not rfl (k.eq1 26 112 rfl), rfl⟩) ?_
      refine .o1 (tk rfl rfl fun _ w hn k => ⟨_, v_pickT rfl (k.eq1 18 104 rfl) (k.eq1 27 113 rfl), rfl⟩) ?_
      refine .o1 (tk rfl rfl fun _ w hn k => ⟨_, v_move rfl (k.eq1 28 114 rfl), rfl⟩) ?_
      refine .o1 (tg rfl rfl rfl (fun _ _ k => k.eq1 29 115 rfl) fun _ w hn k => ⟨_, v_load rfl (k.fx 3 h349) (l_two Tryd.isAgg23 Tryd.sizeOf23 (hb354.new_ hn)), rfl⟩) ?_
      refine .o1 (tg rfl rfl rfl (fun _ _ k => k.eq1 29 115 rfl) fun _ w hn k => ⟨_, v_load rfl (k.fx 4 h350) (l_two Tryd.isAgg23 Tryd.sizeOf23 (hb355.new_ hn)), rfl⟩) ?_
      refine .o1 (cg rfl rfl rfl (fun _ _ k => k.eq1 29 115 rfl) rfl (fun _ w hn k => ⟨#[nv a, nv b], args2 (k.eq1 30 116 rfl) (k.eq1 31 117 rfl), fun _ => by kernel_rfl, less_c a b _⟩) fun _ => congrArg Value.bool ht358) ?_
      refine .o1 (tg rfl rfl rfl (fun _ _ k => k.eq1 29 115 rfl) fun _ w hn k => ⟨_, v_move rfl (k.eq1 32 118 rfl), rfl⟩) ?_
      refine .o1 (tg rfl rfl rfl (fun _ _ k => k.eq1 33 119 rfl) fun _ w hn k => ⟨_, v_load rfl (k.fx 3 h349) (l_two Tryd.isAgg23 Tryd.sizeOf23 (hb354.new_ hn)), rfl⟩) ?_
      refine .o1 (tg rfl rfl rfl (fun _ _ k => k.eq1 33 119 rfl) fun _ w hn k => ⟨_, v_load rfl (k.fx 4 h350) (l_two Tryd.isAgg23 Tryd.sizeOf23 (hb355.new_ hn)), rfl⟩) ?_
      refine .o1 (cg rfl rfl rfl (fun _ _ k => k.eq1 33 119 rfl) rfl (fun _ w hn k => ⟨#[nv a, nv b], args2 (k.eq1 34 120 rfl) (k.eq1 35 121 rfl), fun _ => by kernel_rfl, equal_c a b _⟩) fun _ => congrArg Value.bool ht372) ?_
      refine .o1 (tg rfl rfl rfl (fun _ _ k => k.eq1 29 115 rfl) fun _ w hn k => ⟨_, v_pickT rfl (k.eq1 33 119 rfl) (k.eq1 36 122 rfl), rfl⟩) ?_
      refine .o1 (tg rfl rfl rfl (fun _ _ k => k.eq1 29 115 rfl) fun _ w hn k => ⟨_, v_not rfl (k.eq1 37 123 rfl), rfl⟩) ?_
      refine .o1 (tk rfl rfl fun _ w hn k => ⟨_, v_pickT rfl (k.eq1 29 115 rfl) (k.eq1 38 124 rfl), rfl⟩) ?_
      refine .o1 (tk rfl rfl fun _ w hn k => ⟨_, v_assign rfl (k.eq1 39 125 rfl), rfl⟩) ?_
      exact .nil
    intro a373 w374 hn375 ha376
    have hs377 := ha376.size.trans hs347
    have hd378 := ha376.defers.trans hd348
    have h379 := ha376.ge 40 6 rfl
    have hN380 := hN357.transNew hn375
    clear hs347 hd348 h349 h350 h351 h352 h353 hb354 hq20 hb355 hq21 hb356 hq22 hN357 ha376 hn375
    refine st_nil ?_
    refine hK _ _ ?_
    clear hK K
    refine wp_ret (ret_k hd378 (v := .bool true) (res_t rfl h379 _) ?_)
    exact ⟨rfl, hN380⟩
  refine wp_g0 [true, true, true, true, true, true, true, true, true, true, true, true, true, true, true, true, true, true, true, true, true, true, true, true, true, true, true, true, true, true, true, true, true, true, true, true, true, true, true, true, true] [] 126
    [ve (.bool true),
     ve (.bool true),
     ve (nv a),
     ve (nv b),
     ve (.bool false),
     ve (.bool true),
     ve (.bool true),
     ve undef,
     ve undef,
     ve undef,
     ve undef,
     ve (.bool true),
     ve (.bool true),
     ve undef,
     ve undef,
     ve undef,
     ve (.bool true),
     ve (.bool true),
     ve (.bool true),
     ve (nv a),
     ve (nv b),
     ve (.bool false),
     ve (.bool false),
     ve undef,
     ve undef,
     ve undef,
     ve (.bool false),
     ve (.bool true),
     ve (.bool true),
     ve (.bool true),
     ve (nv a),
     ve (nv b),
     ve (.bool false),
     ve (.bool false),
     ve undef,
     ve undef,
     ve undef,
     ve (.bool false),
     ve (.bool true),
     ve (.bool true),
     ve (.bool true)] hs347 (.eq (.eq (.eq (.eq (.eq (.eq (.eq (.eq (.eq (.eq (.eq (.eq (.eq (.eq (.eq (.eq (.eq (.eq (.eq (.eq (.eq (.eq (.eq (.eq (.eq (.eq (.eq (.eq (.eq (.eq (.eq (.eq (.eq (.eq (.eq (.eq (.eq (.eq (.eq (.eq (.eq (.nil)))))))))))))))))))))))))))))))))))))))))) ?_ ?_
  · skip
    refine .o1 (ck rfl rfl rfl (fun _ w hn k => ⟨#[], rfl, fun _ => by kernel_rfl, first_c  _⟩) fun _ => rfl) ?_
    refine .o1 (tk rfl rfl fun _ w hn k => ⟨_, v_move rfl (k.eq1 0 86 rfl), rfl⟩) ?_
    refine .o1 (tg rfl rfl rfl (fun _ _ k => k.eq1 1 87 rfl) fun _ w hn k => ⟨_, v_load rfl (k.fx 3 h349) (l_two Tryd.isAgg23 Tryd.sizeOf23 (hb354.new_ hn)), rfl⟩) ?_
    refine .o1 (tg rfl rfl rfl (fun _ _ k => k.eq1 1 87 rfl) fun _ w hn k => ⟨_, v_load rfl (k.fx 4 h350) (l_two Tryd.isAgg23 Tryd.sizeOf23 (hb355.new_ hn)), rfl⟩) ?_
    refine .o1 (cg rfl rfl rfl (fun _ _ k => k.eq1 1 87 rfl) rfl (fun _ w hn k => ⟨#[nv a, nv b], args2 (k.eq1 2 88 rfl) (k.eq1 3 89 rfl), fun _ => by kernel_rfl, less_c a b _⟩) fun _ => congrArg Value.bool ht358) ?_
    refine .o1 (tg rfl rfl rfl (fun _ _ k => k.eq1 1 87 rfl) fun _ w hn k => ⟨_, v_not rfl (k.eq1 4 90 rfl), rfl⟩) ?_
    refine .o1 (tg rfl rfl rfl (fun _ _ k => k.eq1 1 87 rfl) fun _ w hn k => ⟨_, v_move rfl (k.eq1 5 91 rfl), rfl⟩) ?_
    refine .o1 (sk rfl rfl rfl (fun _ _ _ k => k.eq1 6 92 rfl) (fun _ => rfl)) ?_
    refine .o1 (sk rfl rfl rfl (fun _ _ _ k => k.eq1 6 92 rfl) (fun _ => rfl)) ?_
    refine .o1 (sk rfl rfl rfl (fun _ _ _ k => k.eq1 6 92 rfl) (fun _ => rfl)) ?_
    refine .o1 (sk rfl rfl rfl (fun _ _ _ k => k.eq1 6 92 rfl) (fun _ => rfl)) ?_
    refine .o1 (tg rfl rfl rfl (fun _ _ k => k.eq1 1 87 rfl) fun _ w hn k => ⟨_, v_pickT rfl (k.eq1 6 92 rfl) rfl, rfl⟩) ?_
    refine .o1 (tg rfl rfl rfl (fun _ _ k => k.eq1 1 87 rfl) fun _ w hn k => ⟨_, v_move rfl (k.eq1 11 97 rfl), rfl⟩) ?_
    refine .o1 (sk rfl rfl rfl (fun _ _ _ k => k.eq1 12 98 rfl) (fun _ => rfl)) ?_
    refine .o1 (sk rfl rfl rfl (fun _ _ _ k => k.eq1 12 98 rfl) (fun _ => rfl)) ?_
    refine .o1 (sk rfl rfl rfl (fun _ _ _ k => k.eq1 12 98 rfl) (fun _ => rfl)) ?_
    refine .o1 (tg rfl rfl rfl (fun _ _ k => k.eq1 1 87 rfl) fun _ w hn k => ⟨_, v_pickT rfl (k.eq1 12 98 rfl) rfl, rfl⟩) ?_
    refine .o1 (tk rfl rfl fun _ w hn k => ⟨_, v_pickT rfl (k.eq1 1 87 rfl) (k.eq1 16 102 rfl), rfl⟩) ?_
    refine .o1 (tk rfl rfl fun _ w hn k => ⟨_, v_move rfl (k.eq1 17 103 rfl), rfl⟩) ?_
    refine .o1 (tg rfl rfl rfl (fun _ _ k => k.eq1 18 104 rfl) fun _ w hn k => ⟨_, v_load rfl (k.fx 3 h349) (l_two Tryd.isAgg23 Tryd.sizeOf23 (hb354.new_ hn)), rfl⟩) ?_
    refine .o1 (tg rfl rfl rfl (fun _ _ k => k.eq1 18 104 rfl) fun _ w hn k => ⟨_, v_load rfl (k.fx 4 h350) (l_two Tryd.isAgg23 Tryd.sizeOf23 (hb355.new_ hn)), rfl⟩) ?_
    refine .o1 (cg rfl rfl rfl (fun _ _ k => k.eq1 18 104 rfl) rfl (fun _ w hn k => ⟨#[nv a, nv b], args2 (k.eq1 19 105 rfl) (k.eq1 20 106 rfl), fun _ => by kernel_rfl, less_c a b _⟩) fun _ => congrArg Value.bool ht358) ?_
    refine .o1 (tg rfl rfl rfl (fun _ _ k => k.eq1 18 104 rfl) fun _ w hn k => ⟨_, v_move rfl (k.eq1 21 107 rfl), rfl⟩) ?_
    refine .o1 (sk rfl rfl rfl (fun _ _ _ k => k.eq1 22 108 rfl) (fun _ => rfl)) ?_
    refine .o1 (sk rfl rfl rfl (fun _ _ _ k => k.eq1 22 108 rfl) (fun _ => rfl)) ?_
    refine .o1 (sk rfl rfl rfl (fun _ _ _ k => k.eq1 22 108 rfl) (fun _ => rfl)) ?_
    refine .o1 (tg rfl rfl rfl (fun _ _ k => k.eq1 18 104 rfl) fun _ w hn k => ⟨_, v_pickF rfl (k.eq1 22 108 rfl) rfl, rfl⟩) ?_
    refine .o1 (tg rfl rfl rfl (fun _ _ k => k.eq1 18 104 rfl) fun _ w hn k => ⟨_, v_not rfl (k.eq1 26 112 rfl), rfl⟩) ?_
    refine .o1 (tk rfl rfl fun _ w hn k => ⟨_, v_pickT rfl (k.eq1 18 104 rfl) (k.eq1 27 113 rfl), rfl⟩) ?_
    refine .o1 (tk rfl rfl fun _ w hn k => ⟨_, v_move rfl (k.eq1 28 114 rfl), rfl⟩) ?_
    refine .o1 (tg rfl rfl rfl (fun _ _ k => k.eq1 29 115 rfl) fun _ w hn k => ⟨_, v_load rfl (k.fx 3 h349) (l_two Tryd.isAgg23 Tryd.sizeOf23 (hb354.new_ hn)), rfl⟩) ?_
    refine .o1 (tg rfl rfl rfl (fun _ _ k => k.eq1 29 115 rfl) fun _ w hn k => ⟨_, v_load rfl (k.fx 4 h350) (l_two Tryd.isAgg23 Tryd.sizeOf23 (hb355.new_ hn)), rfl⟩) ?_
    refine .o1 (cg rfl rfl rfl (fun _ _ k => k.eq1 29 115 rfl) rfl (fun _ w hn k => ⟨#[nv a, nv b], args2 (k.eq1 30 116 rfl) (k.eq1 31 117 rfl), fun _ => by kernel_rfl, less_c a b _⟩) fun _ => congrArg Value.bool ht358) ?_
    refine .o1 (tg rfl rfl rfl (fun _ _ k => k.eq1 29 115 rfl) fun _ w hn k => ⟨_, v_move rfl (k.eq1 32 118 rfl), rfl⟩) ?_
    refine .o1 (sk rfl rfl rfl (fun _ _ _ k => k.eq1 33 119 rfl) (fun _ => rfl)) ?_
    refine .o1 (sk rfl rfl rfl (fun _ _ _ k => k.eq1 33 119 rfl) (fun _ => rfl)) ?_
    refine .o1 (sk rfl rfl rfl (fun _ _ _ k => k.eq1 33 119 rfl) (fun _ => rfl)) ?_
    refine .o1 (tg rfl rfl rfl (fun _ _ k => k.eq1 29 115 rfl) fun _ w hn k => ⟨_, v_pickF rfl (k.eq1 33 119 rfl) rfl, rfl⟩) ?_
    refine .o1 (tg rfl rfl rfl (fun _ _ k => k.eq1 29 115 rfl) fun _ w hn k => ⟨_, v_not rfl (k.eq1 37 123 rfl), rfl⟩) ?_
    refine .o1 (tk rfl rfl fun _ w hn k => ⟨_, v_pickT rfl (k.eq1 29 115 rfl) (k.eq1 38 124 rfl), rfl⟩) ?_
    refine .o1 (tk rfl rfl fun _ w hn k => ⟨_, v_assign rfl (k.eq1 39 125 rfl), rfl⟩) ?_
    exact .nil
  intro a381 w382 hn383 ha384
  have hs385 := ha384.size.trans hs347
  have hd386 := ha384.defers.trans hd348
  have h387 := ha384.ge 40 6 rfl
  have hN388 := hN357.transNew hn383
  clear hs347 hd348 h349 h350 h351 h352 h353 hb354 hq20 hb355 hq21 hb356 hq22 hN357 ha384 hn383
  refine st_nil ?_
  refine hK _ _ ?_
  clear hK K
  refine wp_ret (ret_k hd386 (v := .bool true) (res_t rfl h387 _) ?_)
  exact ⟨rfl, hN388⟩
theorem rests_walk (a b c : Nm) (w : World) : Calls Tryd.prog 9 #[nv a, nv b, nv c] w (IsRet (.bool true) w) := by
  cases hy0 : mayB a
  · exact rests_walk0 a b c w hy0
  cases hy1 : mayB b
  · exact rests_walk1 a b c w hy0 hy1
  cases hy2 : decide ((a.k) = 0)
  · exact rests_walk2 a b c w hy0 hy1 hy2
  cases hy3 : decide ((b.k) = 0)
  · exact rests_walk3 a b c w hy0 hy1 hy2 hy3
  cases hy4 : decide ((b.n) = 0)
  · exact rests_walk5 a b c w hy0 hy1 hy2 hy3 hy4
  · exact rests_walk4 a b c w hy0 hy1 hy2 hy3 hy4
end Go.Proofs.YtldakajmhfdfgaaDoor
