/- NumRests: the walk -/
import Derived.Test.YtldakajmhfdfgaaDoorNumF
import Derived.Test.YtldakajmhfdfgaaDoorNumMath8
namespace Go.Proofs.YtldakajmhfdfgaaDoor
open Go.RowKit
set_option linter.unusedSimpArgs false
set_option linter.unusedVariables false
set_option maxHeartbeats 8000000 in
set_option maxRecDepth 100000 in
theorem rests_walk0 (a : Nm) (b : Nm) (c : Nm) (w : World) (hy0 : mayB a = false) : Calls Tryd.prog 9 #[nv a, nv b, nv c] w (IsRet (.bool true) w) := by
  refine enter_abs Tryd.func9 rfl fun a0 hs0 hd0 hp => ?_
  have hs0 : a0.tmps.size = 126 := hs0
  have hN0 : New w w := Upd.refl _ _
  have hp0 : a0.eval (.tmp 0) = nv a := hp 0 _ rfl
  have hp1 : a0.eval (.tmp 1) = nv b := hp 1 _ rfl
  have hp2 : a0.eval (.tmp 2) = nv c := hp 2 _ rfl
  clear hp
  refine wp_seq_k fun K hK => ?_
  refine wp_g [true, true, true, true] [] [] 126
    [IsNew w 23 [iv a.k, iv a.n],
     IsNew w 23 [iv b.k, iv b.n],
     IsNew w 23 [iv c.k, iv c.n],
     ve (.bool false)]
    [0, 1, 2] (newsCons (fun v w h => IsNew.old h) (newsCons (fun v w h => IsNew.old h) (newsCons (fun v w h => IsNew.old h) newsNil))) hs0 (.nw (.nw (.nw (.eq (.nil))))) ?_ (fun i h => by cases h) ?_
  · skip
    refine .o2 (step_allocN (cs := [iv a.k, iv a.n]) (t := 23) rfl (noG rfl) (fun _ w hn k => v_box rfl (k.fx 0 hp0) (fun w => rfl)) (fun q _ hq hb => ⟨q, rfl, hq, hb⟩)) ?_
    refine .o2 (step_allocN (cs := [iv b.k, iv b.n]) (t := 23) rfl (noG rfl) (fun _ w hn k => v_box rfl (k.fx 1 hp1) (fun w => rfl)) (fun q _ hq hb => ⟨q, rfl, hq, hb⟩)) ?_
    refine .o2 (step_allocN (cs := [iv c.k, iv c.n]) (t := 23) rfl (noG rfl) (fun _ w hn k => v_box rfl (k.fx 2 hp2) (fun w => rfl)) (fun q _ hq hb => ⟨q, rfl, hq, hb⟩)) ?_
    refine .o1 (tk rfl rfl fun _ w hn k => ⟨_, v_assign rfl rfl, rfl⟩) ?_
    exact .nil
  intro a1 w2 hn3 ha4
  have hs5 := ha4.size.trans hs0
  have hd6 := ha4.defers.trans hd0
  obtain ⟨q8, h7, hq9, hb10⟩ : IsNew _ _ _ _ _ := ha4.got 0 3 rfl (by kernel_rfl)
  obtain ⟨q12, h11, hq13, hb14⟩ : IsNew _ _ _ _ _ := ha4.got 1 4 rfl (by kernel_rfl)
  obtain ⟨q16, h15, hq17, hb18⟩ : IsNew _ _ _ _ _ := ha4.got 2 5 rfl (by kernel_rfl)
  have h19 := ha4.ge 3 6 rfl
  have hq20 := Nat.le_trans hN0.size hq9
  have hq21 := Nat.le_trans hN0.size hq13
  have hq22 := Nat.le_trans hN0.size hq17
  have hN23 := hN0.transNew hn3
  clear hs0 hd0 hp0 hp1 hp2 hq9 hq13 hq17 hN0 ha4 hn3
  refine st_nil ?_
  refine hK _ _ ?_
  clear hK K
  refine wp_seq_k fun K hK => ?_
  refine wp_seq_k fun K hK => ?_
  refine wp_g0 [true, true] [] 126
    [ve (.bool true),
     ve (.bool false)] hs5 (.eq (.eq (.nil))) ?_ ?_
  · skip
    refine .o1 (ck rfl rfl rfl (fun _ w hn k => ⟨#[], rfl, fun _ => by kernel_rfl, first_c  _⟩) fun _ => rfl) ?_
    refine .o1 (tk rfl rfl fun _ w hn k => ⟨_, v_not rfl (k.eq1 0 13 rfl), rfl⟩) ?_
    exact .nil
  intro a24 w25 hn26 ha27
  have hs28 := ha27.size.trans hs5
  have hd29 := ha27.defers.trans hd6
  have h30 := ha27.fx 3 h7
  have h31 := ha27.fx 4 h11
  have h32 := ha27.fx 5 h15
  have h33 := ha27.fx 6 h19
  have h34 := ha27.ge 1 14 rfl
  have hb35 := hb10.new_ hn26
  have hb36 := hb14.new_ hn26
  have hb37 := hb18.new_ hn26
  have hN38 := hN23.transNew hn26
  clear hs5 hd6 h7 h11 h15 h19 hb10 hb14 hb18 hN23 ha27 hn26
  refine st_nil ?_
  refine hK _ _ ?_
  clear hK K
  refine wp_cond_false h34 ?_
  refine wp_skip ?_
  refine hK _ _ ?_
  clear hK K
  refine wp_seq_k fun K hK => ?_
  refine wp_g [true, true, true, true, true, true, true, false, false] [5] [(7, false), (8, true)] 126
    [ve (nv a),
     ve (nv b),
     ve (.tuple #[nv ((divM a b).1), .bool ((divM a b).2)]),
     ve (.tuple #[nv ((divM a b).1), .bool ((divM a b).2)]),
     ve (nv ((divM a b).1)),
     ve (.bool ((divM a b).2)),
     IsNew w25 23 [iv 0, iv 0],
     vt,
     vt]
    [6] (newsCons (fun v w h => IsNew.old h) newsNil) hs28 (.eq (.eq (.eq (.eq (.eq (.eq (.nw (.tt (.tt (.nil)))))))))) ?_ ?_ ?_
  · skip
    refine .o1 (tk rfl rfl fun _ w hn k => ⟨_, v_load rfl (k.fx 3 h30) (l_two Tryd.isAgg23 Tryd.sizeOf23 (hb35.new_ hn)), rfl⟩) ?_
    refine .o1 (tk rfl rfl fun _ w hn k => ⟨_, v_load rfl (k.fx 4 h31) (l_two Tryd.isAgg23 Tryd.sizeOf23 (hb36.new_ hn)), rfl⟩) ?_
    refine .o1 (ck rfl rfl rfl (fun _ w hn k => ⟨#[nv a, nv b], args2 (k.eq1 0 16 rfl) (k.eq1 1 17 rfl), fun _ => by kernel_rfl, div_c a b _⟩) fun _ => rfl) ?_
    refine .o1 (tk rfl rfl fun _ w hn k => ⟨_, v_move rfl (k.eq1 2 18 rfl), rfl⟩) ?_
    refine .o1 (tk rfl rfl fun _ w hn k => ⟨_, v_extract rfl (k.eq1 3 15 rfl) rfl, rfl⟩) ?_
    refine .o3 ?_
    refine .o2 (step_allocN (cs := [iv 0, iv 0]) (t := 23) rfl (noG rfl) (fun _ w hn k => rfl) (fun q _ hq hb => ⟨q, rfl, hq, hb⟩)) ?_
    refine .off ?_
    refine .off ?_
    exact .nil
  · skip
    intro i h
    simp only [List.contains_eq_mem, List.mem_cons, List.not_mem_nil, or_false, decide_eq_true_eq] at h
    subst h
    · exact eager_take rfl rfl fun _ w hn k => ⟨.bool ((divM a b).2), fun w => v_extract rfl (k.eq1 3 15 rfl) rfl, rfl⟩
  intro a39 w40 hn41 ha42
  have hs43 := ha42.size.trans hs28
  have hd44 := ha42.defers.trans hd29
  have h45 := ha42.fx 3 h30
  have h46 := ha42.fx 4 h31
  have h47 := ha42.fx 5 h32
  have h48 := ha42.fx 6 h33
  have h49 := ha42.ge 4 19 rfl
  have h50 := ha42.ge 5 20 rfl
  obtain ⟨q52, h51, hq53, hb54⟩ : IsNew _ _ _ _ _ := ha42.got 6 7 rfl (by kernel_rfl)
  have hb55 := hb35.new_ hn41
  have hb56 := hb36.new_ hn41
  have hb57 := hb37.new_ hn41
  have hne58 : q8 ≠ q52 := by have h1 := hb35.lt; have h2 := hq53; omega
  have hne59 : q12 ≠ q52 := by have h1 := hb36.lt; have h2 := hq53; omega
  have hne60 : q16 ≠ q52 := by have h1 := hb37.lt; have h2 := hq53; omega
  have hq61 := Nat.le_trans hN38.size hq53
  have hN62 := hN38.transNew hn41
  clear hs28 hd29 h30 h31 h32 h33 h34 hb35 hb36 hb37 hq53 hN38 ha42 hn41
  obtain ⟨w63, -, hst64, hb65, hu66, hf67⟩ := s_two (v0 := iv ((divM a b).1.k)) (v1 := iv ((divM a b).1.n)) Tryd.sizeOf23 rfl rfl rfl hb54
  refine st_act rfl rfl fun K68 hL69 => a_store' rfl h51 h49 hst64 (hL69 _ _ trivial ?_)
  have hb70 := hf67 _ _ _ (hne58) hb55
  have hb71 := hf67 _ _ _ (hne59) hb56
  have hb72 := hf67 _ _ _ (hne60) hb57
  have hN73 := hN62.trans hu66 (fun k hk hkb => by subst hkb; omega)
  clear hb54 hst64 K68 hL69 hN62 hb55 hb56 hb57 hu66 hf67
  refine st_take rfl rfl (y_assign (v := .bool ((divM a b).2)) rfl h50) rfl ?_
  obtain ⟨a74, ha75⟩ : ∃ a', a' = a39.put (some 8) (.bool ((divM a b).2)) := ⟨_, rfl⟩
  have hs76 : a74.tmps.size = 126 := by rw [ha75, put_size]; exact hs43
  have hd77 : a74.defers = [] := by rw [ha75, put_defers]; exact hd44
  have h78 : a74.eval (.tmp 3) = pv q8 := by rw [ha75, put_ne _ _ _ _ (by decide)]; exact h45
  have h79 : a74.eval (.tmp 4) = pv q12 := by rw [ha75, put_ne _ _ _ _ (by decide)]; exact h46
  have h80 : a74.eval (.tmp 5) = pv q16 := by rw [ha75, put_ne _ _ _ _ (by decide)]; exact h47
  have h81 : a74.eval (.tmp 6) = .bool false := by rw [ha75, put_ne _ _ _ _ (by decide)]; exact h48
  have h82 : a74.eval (.tmp 19) = nv ((divM a b).1) := by rw [ha75, put_ne _ _ _ _ (by decide)]; exact h49
  have h83 : a74.eval (.tmp 20) = .bool ((divM a b).2) := by rw [ha75, put_ne _ _ _ _ (by decide)]; exact h50
  have h84 : a74.eval (.tmp 7) = pv q52 := by rw [ha75, put_ne _ _ _ _ (by decide)]; exact h51
  have h85 : a74.eval (.tmp 8) = .bool ((divM a b).2) := by rw [ha75]; exact put_same _ _ _ (by rw [hs43]; decide)
  show stepsTo _ _ _ _ _ (a39.put (some 8) (.bool ((divM a b).2))) _
  rw [← ha75]
  clear ha75 hs43 hd44 h45 h46 h47 h48 h49 h50 h51
  clear hne58
  clear hne59
  clear hne60
  refine st_nil ?_
  clear h82 h83
  refine hK _ _ ?_
  clear hK K
  refine wp_seq_k fun K hK => ?_
  have ht86 : (mayB a) = false := hy0
  refine wp_g0 [true, true, true, true, true, true, true, true, true, true, true, true, true, true, true, true, true, true, true, true, true, true] [] 126
    [ve (nv a),
     ve (.bool false),
     ve (.bool false),
     ve undef,
     ve undef,
     ve (.bool false),
     ve (.bool false),
     ve undef,
     ve undef,
     ve undef,
     ve (.bool false),
     ve (.bool false),
     ve undef,
     ve undef,
     ve undef,
     ve (.bool false),
     ve (.bool false),
     ve undef,
     ve undef,
     ve undef,
     ve (.bool false),
     ve (.bool false)] hs76 (.eq (.eq (.eq (.eq (.eq (.eq (.eq (.eq (.eq (.eq (.eq (.eq (.eq (.eq (.eq (.eq (.eq (.eq (.eq (.eq (.eq (.eq (.nil))))))))))))))))))))))) ?_ ?_
  · skip
    refine .o1 (tk rfl rfl fun _ w hn k => ⟨_, v_load rfl (k.fx 3 h78) (l_two Tryd.isAgg23 Tryd.sizeOf23 (hb70.new_ hn)), rfl⟩) ?_
    refine .o1 (ck rfl rfl rfl (fun _ w hn k => ⟨#[nv a], args1 (k.eq1 0 21 rfl), fun _ => by kernel_rfl, may_c a _⟩) fun _ => congrArg Value.bool ht86) ?_
    refine .o1 (tk rfl rfl fun _ w hn k => ⟨_, v_move rfl (k.eq1 1 22 rfl), rfl⟩) ?_
    refine .o1 (sk rfl rfl rfl (fun _ _ _ k => k.eq1 2 23 rfl) (fun _ => rfl)) ?_
    refine .o1 (sk rfl rfl rfl (fun _ _ _ k => k.eq1 2 23 rfl) (fun _ => rfl)) ?_
    refine .o1 (tk rfl rfl fun _ w hn k => ⟨_, v_pickF rfl (k.eq1 2 23 rfl) rfl, rfl⟩) ?_
    refine .o1 (tk rfl rfl fun _ w hn k => ⟨_, v_move rfl (k.eq1 5 26 rfl), rfl⟩) ?_
    refine .o1 (sk rfl rfl rfl (fun _ _ _ k => k.eq1 6 27 rfl) (fun _ => rfl)) ?_
    refine .o1 (sk rfl rfl rfl (fun _ _ _ k => k.eq1 6 27 rfl) (fun _ => rfl)) ?_
    refine .o1 (sk rfl rfl rfl (fun _ _ _ k => k.eq1 6 27 rfl) (fun _ => rfl)) ?_
    refine .o1 (tk rfl rfl fun _ w hn k => ⟨_, v_pickF rfl (k.eq1 6 27 rfl) rfl, rfl⟩) ?_
    refine .o1 (tk rfl rfl fun _ w hn k => ⟨_, v_move rfl (k.eq1 10 31 rfl), rfl⟩) ?_
    refine .o1 (sk rfl rfl rfl (fun _ _ _ k => k.eq1 11 32 rfl) (fun _ => rfl)) ?_
    refine .o1 (sk rfl rfl rfl (fun _ _ _ k => k.eq1 11 32 rfl) (fun _ => rfl)) ?_
    refine .o1 (sk rfl rfl rfl (fun _ _ _ k => k.eq1 11 32 rfl) (fun _ => rfl)) ?_
    refine .o1 (tk rfl rfl fun _ w hn k => ⟨_, v_pickF rfl (k.eq1 11 32 rfl) rfl, rfl⟩) ?_
    refine .o1 (tk rfl rfl fun _ w hn k => ⟨_, v_move rfl (k.eq1 15 36 rfl), rfl⟩) ?_
    refine .o1 (sk rfl rfl rfl (fun _ _ _ k => k.eq1 16 37 rfl) (fun _ => rfl)) ?_
    refine .o1 (sk rfl rfl rfl (fun _ _ _ k => k.eq1 16 37 rfl) (fun _ => rfl)) ?_
    refine .o1 (sk rfl rfl rfl (fun _ _ _ k => k.eq1 16 37 rfl) (fun _ => rfl)) ?_
    refine .o1 (tk rfl rfl fun _ w hn k => ⟨_, v_pickF rfl (k.eq1 16 37 rfl) rfl, rfl⟩) ?_
    refine .o1 (tk rfl rfl fun _ w hn k => ⟨_, v_assign rfl (k.eq1 20 41 rfl), rfl⟩) ?_
    exact .nil
  intro a87 w88 hn89 ha90
  have hs91 := ha90.size.trans hs76
  have hd92 := ha90.defers.trans hd77
  have h93 := ha90.fx 3 h78
  have h94 := ha90.fx 4 h79
  have h95 := ha90.fx 5 h80
  have h96 := ha90.fx 6 h81
  have h97 := ha90.fx 7 h84
  have h98 := ha90.fx 8 h85
  have h99 := ha90.ge 21 9 rfl
  have hb100 := hb70.new_ hn89
  have hb101 := hb71.new_ hn89
  have hb102 := hb72.new_ hn89
  have hb103 := hb65.new_ hn89
  have hN104 := hN73.transNew hn89
  clear hs76 hd77 h78 h79 h80 h81 h84 h85 hb70 hb71 hb72 hb65 hN73 ha90 hn89
  refine st_nil ?_
  refine hK _ _ ?_
  clear hK K
  refine wp_seq_k fun K hK => ?_
  refine wp_seq_k fun K hK => ?_
  rcases Bool.eq_false_or_eq_true ((divM a b).2) with ht105 | ht105
  · skip
    have hv106 : a87.eval (.tmp 8) = .bool true := h98.trans (congrArg Value.bool ht105)
    clear h98
    refine wp_g0 [true, true, true, true] [] 126
      [ve (.bool true),
       ve (.bool true),
       ve (.bool false),
       ve (.bool false)] hs91 (.eq (.eq (.eq (.eq (.nil))))) ?_ ?_
    · skip
      refine .o1 (tk rfl rfl fun _ w hn k => ⟨_, v_move rfl (k.fx 8 hv106), rfl⟩) ?_
      refine .o1 (tk rfl rfl fun _ w hn k => ⟨_, v_move rfl (k.eq1 0 42 rfl), rfl⟩) ?_
      refine .o1 (tg rfl rfl rfl (fun _ _ k => k.eq1 1 43 rfl) fun _ w hn k => ⟨_, v_move rfl (k.fx 9 h99), rfl⟩) ?_
      refine .o1 (tk rfl rfl fun _ w hn k => ⟨_, v_pickT rfl (k.eq1 1 43 rfl) (k.eq1 2 44 rfl), rfl⟩) ?_
      exact .nil
    intro a107 w108 hn109 ha110
    have hs111 := ha110.size.trans hs91
    have hd112 := ha110.defers.trans hd92
    have h113 := ha110.fx 3 h93
    have h114 := ha110.fx 4 h94
    have h115 := ha110.fx 5 h95
    have h116 := ha110.fx 6 h96
    have h117 := ha110.fx 7 h97
    have h118 := ha110.fx 8 hv106
    have h119 := ha110.fx 9 h99
    have h120 := ha110.ge 3 45 rfl
    have hb121 := hb100.new_ hn109
    have hb122 := hb101.new_ hn109
    have hb123 := hb102.new_ hn109
    have hb124 := hb103.new_ hn109
    have hN125 := hN104.transNew hn109
    clear hs91 hd92 h93 h94 h95 h96 h97 hv106 h99 hb100 hb101 hb102 hb103 hN104 ha110 hn109
    refine st_nil ?_
    refine hK _ _ ?_
    clear hK K
    refine wp_cond_false h120 ?_
    refine wp_skip ?_
    refine hK _ _ ?_
    clear hK K
    refine wp_seq_k fun K hK => ?_
    refine wp_g [true, true, true, true, false] [] [(4, false)] 126
      [ve (nv a),
       ve (nv b),
       ve (nv (remM a b)),
       IsNew w108 23 [iv 0, iv 0],
       vt]
      [3] (newsCons (fun v w h => IsNew.old h) newsNil) hs111 (.eq (.eq (.eq (.nw (.tt (.nil)))))) ?_ (fun i h => by cases h) ?_
    · skip
      refine .o1 (tk rfl rfl fun _ w hn k => ⟨_, v_load rfl (k.fx 3 h113) (l_two Tryd.isAgg23 Tryd.sizeOf23 (hb121.new_ hn)), rfl⟩) ?_
      refine .o1 (tk rfl rfl fun _ w hn k => ⟨_, v_load rfl (k.fx 4 h114) (l_two Tryd.isAgg23 Tryd.sizeOf23 (hb122.new_ hn)), rfl⟩) ?_
      refine .o1 (ck rfl rfl rfl (fun _ w hn k => ⟨#[nv a, nv b], args2 (k.eq1 0 60 rfl) (k.eq1 1 61 rfl), fun _ => by kernel_rfl, rem_c a b _⟩) fun _ => rfl) ?_
      refine .o2 (step_allocN (cs := [iv 0, iv 0]) (t := 23) rfl (noG rfl) (fun _ w hn k => rfl) (fun q _ hq hb => ⟨q, rfl, hq, hb⟩)) ?_
      refine .off ?_
      exact .nil
    intro a126 w127 hn128 ha129
    have hs130 := ha129.size.trans hs111
    have hd131 := ha129.defers.trans hd112
    have h132 := ha129.fx 3 h113
    have h133 := ha129.fx 4 h114
    have h134 := ha129.fx 5 h115
    have h135 := ha129.fx 6 h116
    have h136 := ha129.fx 8 h118
    have h137 := ha129.fx 9 h119
    have h138 := ha129.ge 2 62 rfl
    obtain ⟨q140, h139, hq141, hb142⟩ : IsNew _ _ _ _ _ := ha129.got 3 12 rfl (by kernel_rfl)
    have hb143 := hb121.new_ hn128
    have hb144 := hb122.new_ hn128
    have hb145 := hb123.new_ hn128
    have hne146 : q8 ≠ q140 := by have h1 := hb121.lt; have h2 := hq141; omega
    have hne147 : q12 ≠ q140 := by have h1 := hb122.lt; have h2 := hq141; omega
    have hne148 : q16 ≠ q140 := by have h1 := hb123.lt; have h2 := hq141; omega
    have hq149 := Nat.le_trans hN125.size hq141
    have hN150 := hN125.transNew hn128
    clear hs111 hd112 h113 h114 h115 h116 h117 h118 h119 h120 hb121 hb122 hb123 hb124 hq61 hq141 hN125 ha129 hn128
    obtain ⟨w151, -, hst152, hb153, hu154, hf155⟩ := s_two (v0 := iv ((remM a b).k)) (v1 := iv ((remM a b).n)) Tryd.sizeOf23 rfl rfl rfl hb142
    refine st_act rfl rfl fun K156 hL157 => a_store' rfl h139 h138 hst152 (hL157 _ _ trivial ?_)
    have hb158 := hf155 _ _ _ (hne146) hb143
    have hb159 := hf155 _ _ _ (hne147) hb144
    have hb160 := hf155 _ _ _ (hne148) hb145
    have hN161 := hN150.trans hu154 (fun k hk hkb => by subst hkb; omega)
    clear hb142 hst152 K156 hL157 hN150 hb143 hb144 hb145 hu154 hf155
    clear hne146
    clear hne147
    clear hne148
    refine st_nil ?_
    clear h138
    refine hK _ _ ?_
    clear hK K
    refine wp_seq_k fun K hK => ?_
    refine wp_seq_k fun K hK => ?_
    refine wp_g0 [true, true, true, true, true, true, true, true, true, true, true, true, true, true, true, true, true, true, true, true, true, true, true] [] 126
      [ve (.bool false),
       ve (.bool false),
       ve undef,
       ve undef,
       ve undef,
       ve undef,
       ve undef,
       ve undef,
       ve undef,
       ve undef,
       ve undef,
       ve undef,
       ve undef,
       ve undef,
       ve undef,
       ve undef,
       ve undef,
       ve undef,
       ve undef,
       ve undef,
       ve undef,
       ve undef,
       ve (.bool false)] hs130 (.eq (.eq (.eq (.eq (.eq (.eq (.eq (.eq (.eq (.eq (.eq (.eq (.eq (.eq (.eq (.eq (.eq (.eq (.eq (.eq (.eq (.eq (.eq (.nil)))))))))))))))))))))))) ?_ ?_
    · skip
      refine .o1 (tk rfl rfl fun _ w hn k => ⟨_, v_move rfl (k.fx 9 h137), rfl⟩) ?_
      refine .o1 (tk rfl rfl fun _ w hn k => ⟨_, v_move rfl (k.eq1 0 63 rfl), rfl⟩) ?_
      refine .o1 (sk rfl rfl rfl (fun _ _ _ k => k.eq1 1 64 rfl) (fun _ => rfl)) ?_
      refine .o1 (sk rfl rfl rfl (fun _ _ _ k => k.eq1 1 64 rfl) (fun _ => rfl)) ?_
      refine .o1 (sk rfl rfl rfl (fun _ _ _ k => k.eq1 1 64 rfl) (fun _ => rfl)) ?_
      refine .o1 (sk rfl rfl rfl (fun _ _ _ k => k.eq1 1 64 rfl) (fun _ => rfl)) ?_
      refine .o1 (sk rfl rfl rfl (fun _ _ _ k => k.eq1 1 64 rfl) (fun _ => rfl)) ?_
      refine .o1 (sk rfl rfl rfl (fun _ _ _ k => k.eq1 1 64 rfl) (fun _ => rfl)) ?_
      refine .o1 (sk rfl rfl rfl (fun _ _ _ k => k.eq1 1 64 rfl) (fun _ => rfl)) ?_
      refine .o1 (sk rfl rfl rfl (fun _ _ _ k => k.eq1 1 64 rfl) (fun _ => rfl)) ?_
      refine .o1 (sk rfl rfl rfl (fun _ _ _ k => k.eq1 1 64 rfl) (fun _ => rfl)) ?_
      refine .o1 (sk rfl rfl rfl (fun _ _ _ k => k.eq1 1 64 rfl) (fun _ => rfl)) ?_
      refine .o1 (sk rfl rfl rfl (fun _ _ _ k => k.eq1 1 64 rfl) (fun _ => rfl)) ?_
      refine .o1 (sk rfl rfl rfl (fun _ _ _ k => k.eq1 1 64 rfl) (fun _ => rfl)) ?_
      refine .o1 (sk rfl rfl rfl (fun _ _ _ k => k.eq1 1 64 rfl) (fun _ => rfl)) ?_
      refine .o1 (sk rfl rfl rfl (fun _ _ _ k => k.eq1 1 64 rfl) (fun _ => rfl)) ?_
      refine .o1 (su rfl rfl rfl (fun _ _ _ k => k.eq1 15 78 rfl) (fun _ => rfl)) ?_
      refine .o1 (su rfl rfl rfl (fun _ _ _ k => k.eq1 15 78 rfl) (fun _ => rfl)) ?_
      refine .o1 (su rfl rfl rfl (fun _ _ _ k => k.eq1 15 78 rfl) (fun _ => rfl)) ?_
      refine .o1 (su rfl rfl rfl (fun _ _ _ k => k.eq1 15 78 rfl) (fun _ => rfl)) ?_
      refine .o1 (su rfl rfl rfl (fun _ _ _ k => k.eq1 15 78 rfl) (fun _ => rfl)) ?_
      refine .o1 (sk rfl rfl rfl (fun _ _ _ k => k.eq1 1 64 rfl) (fun _ => rfl)) ?_
      refine .o1 (tk rfl rfl fun _ w hn k => ⟨_, v_pickF rfl (k.eq1 1 64 rfl) rfl, rfl⟩) ?_
      exact .nil
    intro a162 w163 hn164 ha165
    have hs166 := ha165.size.trans hs130
    have hd167 := ha165.defers.trans hd131
    have h168 := ha165.fx 3 h132
    have h169 := ha165.fx 4 h133
    have h170 := ha165.fx 5 h134
    have h171 := ha165.fx 6 h135
    have h172 := ha165.ge 22 85 rfl
    have hb173 := hb158.new_ hn164
    have hb174 := hb159.new_ hn164
    have hb175 := hb160.new_ hn164
    have hN176 := hN161.transNew hn164
    clear hs130 hd131 h132 h133 h134 h135 h136 h137 h139 hb158 hb159 hb160 hb153 hq149 hN161 ha165 hn164
    refine st_nil ?_
    refine hK _ _ ?_
    clear hK K
    refine wp_cond_false h172 ?_
    refine wp_skip ?_
    refine hK _ _ ?_
    clear hK K
    refine wp_seq_k fun K hK => ?_
    rcases Bool.eq_false_or_eq_true (lessM a b) with ht177 | ht177
    · skip
      rcases Bool.eq_false_or_eq_true (lessM b c) with ht178 | ht178
      · skip
        have ht179 : (lessM a c) = true := less_trans ht177 ht178
        have ht180 : (lessM b a) = false := less_asymm ht177
        have ht181 : (equalM a b) = false := less_ne ht177
        refine wp_g0 [true, true, true, true, true, true, true, true, true, true, true, true, true, true, true, true, true, true, true, true, true, true, true, true, true, true, true, true, true, true, true, true, true, true, true, true, true, true, true, true, true] [] 126
          [ve (.bool true),
           ve (.bool true),
           ve (nv a),
           ve (nv b),
           ve (.bool true),
           ve (.bool false),
           ve (.bool false),
           ve (nv b),
           ve (nv c),
           ve (.bool true),
           ve (.bool false),
           ve (.bool false),
           ve (.bool false),
           ve (nv a),
           ve (nv c),
           ve (.bool true),
           ve (.bool true),
           ve (.bool true),
           ve (.bool true),
           ve (nv a),
           ve (nv b),
           ve (.bool true),
           ve (.bool true),
           ve (nv b),
           ve (nv a),
           ve (.bool false),
           ve (.bool false),
           ve (.bool true),
           ve (.bool true),
           ve (.bool true),
           ve (nv a),
           ve (nv b),
           ve (.bool true),
           ve (.bool true),
           ve (nv a),
           ve (nv b),
           ve (.bool false),
           ve (.bool false),
           ve (.bool true),
           ve (.bool true),
           ve (.bool true)] hs166 (.eq (.eq (.eq (.eq (.eq (.eq (.eq (.eq (.eq (.eq (.eq (.eq (.eq (.eq (.eq (.eq (.eq (.eq (.eq (.eq (.eq (.eq (.eq (.eq (.eq (.eq (.eq (.eq (.eq (.eq (.eq (.eq (.eq (.eq (.eq (.eq (.eq (.eq (.eq (.eq (.eq (.nil)))))))))))))))))))))))))))))))))))))))))) ?_ ?_
        · skip
          refine .o1 (ck rfl rfl rfl (fun _ w hn k => ⟨#[], rfl, fun _ => by kernel_rfl, first_c  _⟩) fun _ => rfl) ?_
          refine .o1 (tk rfl rfl fun _ w hn k => ⟨_, v_move rfl (k.eq1 0 86 rfl), rfl⟩) ?_
          refine .o1 (tg rfl rfl rfl (fun _ _ k => k.eq1 1 87 rfl) fun _ w hn k => ⟨_, v_load rfl (k.fx 3 h168) (l_two Tryd.isAgg23 Tryd.sizeOf23 (hb173.new_ hn)), rfl⟩) ?_
          refine .o1 (tg rfl rfl rfl (fun _ _ k => k.eq1 1 87 rfl) fun _ w hn k => ⟨_, v_load rfl (k.fx 4 h169) (l_two Tryd.isAgg23 Tryd.sizeOf23 (hb174.new_ hn)), rfl⟩) ?_
          refine .o1 (cg rfl rfl rfl (fun _ _ k => k.eq1 1 87 rfl) rfl (fun _ w hn k => ⟨#[nv a, nv b], args2 (k.eq1 2 88 rfl) (k.eq1 3 89 rfl), fun _ => by kernel_rfl, less_c a b _⟩) fun _ => congrArg Value.bool ht177) ?_
          refine .o1 (tg rfl rfl rfl (fun _ _ k => k.eq1 1 87 rfl) fun _ w hn k => ⟨_, v_not rfl (k.eq1 4 90 rfl), rfl⟩) ?_
          refine .o1 (tg rfl rfl rfl (fun _ _ k => k.eq1 1 87 rfl) fun _ w hn k => ⟨_, v_move rfl (k.eq1 5 91 rfl), rfl⟩) ?_
          refine .o1 (tg rfl rfl rfl (fun _ _ k => k.eq1 6 92 rfl) fun _ w hn k => ⟨_, v_load rfl (k.fx 4 h169) (l_two Tryd.isAgg23 Tryd.sizeOf23 (hb174.new_ hn)), rfl⟩) ?_
          refine .o1 (tg rfl rfl rfl (fun _ _ k => k.eq1 6 92 rfl) fun _ w hn k => ⟨_, v_load rfl (k.fx 5 h170) (l_two Tryd.isAgg23 Tryd.sizeOf23 (hb175.new_ hn)), rfl⟩) ?_
          refine .o1 (cg rfl rfl rfl (fun _ _ k => k.eq1 6 92 rfl) rfl (fun _ w hn k => ⟨#[nv b, nv c], args2 (k.eq1 7 93 rfl) (k.eq1 8 94 rfl), fun _ => by kernel_rfl, less_c b c _⟩) fun _ => congrArg Value.bool ht178) ?_
          refine .o1 (tg rfl rfl rfl (fun _ _ k => k.eq1 6 92 rfl) fun _ w hn k => ⟨_, v_not rfl (k.eq1 9 95 rfl), rfl⟩) ?_
          refine .o1 (tg rfl rfl rfl (fun _ _ k => k.eq1 1 87 rfl) fun _ w hn k => ⟨_, v_pickF rfl (k.eq1 6 92 rfl) (k.eq1 10 96 rfl), rfl⟩) ?_
          refine .o1 (tg rfl rfl rfl (fun _ _ k => k.eq1 1 87 rfl) fun _ w hn k => ⟨_, v_move rfl (k.eq1 11 97 rfl), rfl⟩) ?_
          refine .o1 (tg rfl rfl rfl (fun _ _ k => k.eq1 12 98 rfl) fun _ w hn k => ⟨_, v_load rfl (k.fx 3 h168) (l_two Tryd.isAgg23 Tryd.sizeOf23 (hb173.new_ hn)), rfl⟩) ?_
          refine .o1 (tg rfl rfl rfl (fun _ _ k => k.eq1 12 98 rfl) fun _ w hn k => ⟨_, v_load rfl (k.fx 5 h170) (l_two Tryd.isAgg23 Tryd.sizeOf23 (hb175.new_ hn)), rfl⟩) ?_
          refine .o1 (cg rfl rfl rfl (fun _ _ k => k.eq1 12 98 rfl) rfl (fun _ w hn k => ⟨#[nv a, nv c], args2 (k.eq1 13 99 rfl) (k.eq1 14 100 rfl), fun _ => by kernel_rfl, less_c a c _⟩) fun _ => congrArg Value.bool ht179) ?_
          refine .o1 (tg rfl rfl rfl (fun _ _ k => k.eq1 1 87 rfl) fun _ w hn k => ⟨_, v_pickF rfl (k.eq1 12 98 rfl) (k.eq1 15 101 rfl), rfl⟩) ?_
          refine .o1 (tk rfl rfl fun _ w hn k => ⟨_, v_pickT rfl (k.eq1 1 87 rfl) (k.eq1 16 102 rfl), rfl⟩) ?_
          refine .o1 (tk rfl rfl fun _ w hn k => ⟨_, v_move rfl (k.eq1 17 103 rfl), rfl⟩) ?_
          refine .o1 (tg rfl rfl rfl (fun _ _ k => k.eq1 18 104 rfl) fun _ w hn k => ⟨_, v_load rfl (k.fx 3 h168) (l_two Tryd.isAgg23 Tryd.sizeOf23 (hb173.new_ hn)), rfl⟩) ?_
          refine .o1 (tg rfl rfl rfl (fun _ _ k => k.eq1 18 104 rfl) fun _ w hn k => ⟨_, v_load rfl (k.fx 4 h169) (l_two Tryd.isAgg23 Tryd.sizeOf23 (hb174.new_ hn)), rfl⟩) ?_
          refine .o1 (cg rfl rfl rfl (fun _ _ k => k.eq1 18 104 rfl) rfl (fun _ w hn k => ⟨#[nv a, nv b], args2 (k.eq1 19 105 rfl) (k.eq1 20 106 rfl), fun _ => by kernel_rfl, less_c a b _⟩) fun _ => congrArg Value.bool ht177) ?_
          refine .o1 (tg rfl rfl rfl (fun _ _ k => k.eq1 18 104 rfl) fun _ w hn k => ⟨_, v_move rfl (k.eq1 21 107 rfl), rfl⟩) ?_
          refine .o1 (tg rfl rfl rfl (fun _ _ k => k.eq1 22 108 rfl) fun _ w hn k => ⟨_, v_load rfl (k.fx 4 h169) (l_two Tryd.isAgg23 Tryd.sizeOf23 (hb174.new_ hn)), rfl⟩) ?_
          refine .o1 (tg rfl rfl rfl (fun _ _ k => k.eq1 22 108 rfl) fun _ w hn k => ⟨_, v_load rfl (k.fx 3 h168) (l_two Tryd.isAgg23 Tryd.sizeOf23 (hb173.new_ hn)), rfl⟩) ?_
          refine .o1 (cg rfl rfl rfl (fun _ _ k => k.eq1 22 108 rfl) rfl (fun _ w hn k => ⟨#[nv b, nv a], args2 (k.eq1 23 109 rfl) (k.eq1 24 110 rfl), fun _ => by kernel_rfl, less_c b a _⟩) fun _ => congrArg Value.bool ht180) ?_
          refine .o1 (tg rfl rfl rfl (fun _ _ k => k.eq1 18 104 rfl) fun _ w hn k => ⟨_, v_pickT rfl (k.eq1 22 108 rfl) (k.eq1 25 111 rfl), rfl⟩) ?_
          refine .o1 (tg rfl rfl rfl (fun _ _ k => k.eq1 18 104 rfl) fun _ w hn k => ⟨_, v_not rfl (k.eq1 26 112 rfl), rfl⟩) ?_
          refine .o1 (tk rfl rfl fun _ w hn k => ⟨_, v_pickT rfl (k.eq1 18 104 rfl) (k.eq1 27 113 rfl), rfl⟩) ?_
          refine .o1 (tk rfl rfl fun _ w hn k => ⟨_, v_move rfl (k.eq1 28 114 rfl), rfl⟩) ?_
          refine .o1 (tg rfl rfl rfl (fun _ _ k => k.eq1 29 115 rfl) fun _ w hn k => ⟨_, v_load rfl (k.fx 3 h168) (l_two Tryd.isAgg23 Tryd.sizeOf23 (hb173.new_ hn)), rfl⟩) ?_
          refine .o1 (tg rfl rfl rfl (fun _ _ k => k.eq1 29 115 rfl) fun _ w hn k => ⟨_, v_load rfl (k.fx 4 h169) (l_two Tryd.isAgg23 Tryd.sizeOf23 (hb174.new_ hn)), rfl⟩) ?_
          refine .o1 (cg rfl rfl rfl (fun _ _ k => k.eq1 29 115 rfl) rfl (fun _ w hn k => ⟨#[nv a, nv b], args2 (k.eq1 30 116 rfl) (k.eq1 31 117 rfl), fun _ => by kernel_rfl, less_c a b _⟩) fun _ => congrArg Value.bool ht177) ?_
          refine .o1 (tg rfl rfl rfl (fun _ _ k => k.eq1 29 115 rfl) fun _ w hn k => ⟨_, v_move rfl (k.eq1 32 118 rfl), rfl⟩) ?_
          refine .o1 (tg rfl rfl rfl (fun _ _ k => k.eq1 33 119 rfl) fun _ w hn k => ⟨_, v_load rfl (k.fx 3 h168) (l_two Tryd.isAgg23 Tryd.sizeOf23 (hb173.new_ hn)), rfl⟩) ?_
          refine .o1 (tg rfl rfl rfl (fun _ _ k => k.eq1 33 119 rfl) fun _ w hn k => ⟨_, v_load rfl (k.fx 4 h169) (l_two Tryd.isAgg23 Tryd.sizeOf23 (hb174.new_ hn)), rfl⟩) ?_
          refine .o1 (cg rfl rfl rfl (fun _ _ k => k.eq1 33 119 rfl) rfl (fun _ w hn k => ⟨#[nv a, nv b], args2 (k.eq1 34 120 rfl) (k.eq1 35 121 rfl), fun _ => by kernel_rfl, equal_c a b _⟩) fun _ => congrArg Value.bool ht181) ?_
          refine .o1 (tg rfl rfl rfl (fun _ _ k => k.eq1 29 115 rfl) fun _ w hn k => ⟨_, v_pickT rfl (k.eq1 33 119 rfl) (k.eq1 36 122 rfl), rfl⟩) ?_
          refine .o1 (tg rfl rfl rfl (fun _ _ k => k.eq1 29 115 rfl) fun _ w hn k => ⟨_, v_not rfl (k.eq1 37 123 rfl), rfl⟩) ?_
          refine .o1 (tk rfl rfl fun _ w hn k => ⟨_, v_pickT rfl (k.eq1 29 115 rfl) (k.eq1 38 124 rfl), rfl⟩) ?_
          refine .o1 (tk rfl rfl fun _ w hn k => ⟨_, v_assign rfl (k.eq1 39 125 rfl), rfl⟩) ?_
          exact .nil
        intro a182 w183 hn184 ha185
        have hs186 := ha185.size.trans hs166
        have hd187 := ha185.defers.trans hd167
        have h188 := ha185.ge 40 6 rfl
        have hN189 := hN176.transNew hn184
        clear hs166 hd167 h168 h169 h170 h171 h172 hb173 hq20 hb174 hq21 hb175 hq22 hN176 ha185 hn184
        refine st_nil ?_
        refine hK _ _ ?_
        clear hK K
        refine wp_ret (ret_k hd187 (v := .bool true) (res_t rfl h188 _) ?_)
        exact ⟨rfl, hN189⟩
      have ht190 : (lessM b a) = false := less_asymm ht177
      have ht191 : (equalM a b) = false := less_ne ht177
      refine wp_g0 [true, true, true, true, true, true, true, true, true, true, true, true, true, true, true, true, true, true, true, true, true, true, true, true, true, true, true, true, true, true, true, true, true, true, true, true, true, true, true, true, true] [] 126
        [ve (.bool true),
         ve (.bool true),
         ve (nv a),
         ve (nv b),
         ve (.bool true),
         ve (.bool false),
         ve (.bool false),
         ve (nv b),
         ve (nv c),
         ve (.bool false),
         ve (.bool true),
         ve (.bool true),
         ve (.bool true),
         ve undef,
         ve undef,
         ve undef,
         ve (.bool true),
         ve (.bool true),
         ve (.bool true),
         ve (nv a),
         ve (nv b),
         ve (.bool true),
         ve (.bool true),
         ve (nv b),
         ve (nv a),
         ve (.bool false),
         ve (.bool false),
         ve (.bool true),
         ve (.bool true),
         ve (.bool true),
         ve (nv a),
         ve (nv b),
         ve (.bool true),
         ve (.bool true),
         ve (nv a),
         ve (nv b),
         ve (.bool false),
         ve (.bool false),
         ve (.bool true),
         ve (.bool true),
         ve (.bool true)] hs166 (.eq (.eq (.eq (.eq (.eq (.eq (.eq (.eq (.eq (.eq (.eq (.eq (.eq (.eq (.eq (.eq (.eq (.eq (.eq (.eq (.eq (.eq (.eq (.eq (.eq (.eq (.eq (.eq (.eq (.eq (.eq (.eq (.eq (.eq (.eq (.eq (.eq (.eq (.eq (.eq (.eq (.nil)))))))))))))))))))))))))))))))))))))))))) ?_ ?_
      · skip
        refine .o1 (ck rfl rfl rfl (fun _ w hn k => ⟨#[], rfl, fun _ => by kernel_rfl, first_c  _⟩) fun _ => rfl) ?_
        refine .o1 (tk rfl rfl fun _ w hn k => ⟨_, v_move rfl (k.eq1 0 86 rfl), rfl⟩) ?_
        refine .o1 (tg rfl rfl rfl (fun _ _ k => k.eq1 1 87 rfl) fun _ w hn k => ⟨_, v_load rfl (k.fx 3 h168) (l_two Tryd.isAgg23 Tryd.sizeOf23 (hb173.new_ hn)), rfl⟩) ?_
        refine .o1 (tg rfl rfl rfl (fun _ _ k => k.eq1 1 87 rfl) fun _ w hn k => ⟨_, v_load rfl (k.fx 4 h169) (l_two Tryd.isAgg23 Tryd.sizeOf23 (hb174.new_ hn)), rfl⟩) ?_
        refine .o1 (cg rfl rfl rfl (fun _ _ k => k.eq1 1 87 rfl) rfl (fun _ w hn k => ⟨#[nv a, nv b], args2 (k.eq1 2 88 rfl) (k.eq1 3 89 rfl), fun _ => by kernel_rfl, less_c a b _⟩) fun _ => congrArg Value.bool ht177) ?_
        refine .o1 (tg rfl rfl rfl (fun _ _ k => k.eq1 1 87 rfl) fun _ w hn k => ⟨_, v_not rfl (k.eq1 4 90 rfl), rfl⟩) ?_
        refine .o1 (tg rfl rfl rfl (fun _ _ k => k.eq1 1 87 rfl) fun _ w hn k => ⟨_, v_move rfl (k.eq1 5 91 rfl), rfl⟩) ?_
        refine .o1 (tg rfl rfl rfl (fun _ _ k => k.eq1 6 92 rfl) fun _ w hn k => ⟨_, v_load rfl (k.fx 4 h169) (l_two Tryd.isAgg23 Tryd.sizeOf23 (hb174.new_ hn)), rfl⟩) ?_
        refine .o1 (tg rfl rfl rfl (fun _ _ k => k.eq1 6 92 rfl) fun _ w hn k => ⟨_, v_load rfl (k.fx 5 h170) (l_two Tryd.isAgg23 Tryd.sizeOf23 (hb175.new_ hn)), rfl⟩) ?_
        refine .o1 (cg rfl rfl rfl (fun _ _ k => k.eq1 6 92 rfl) rfl (fun _ w hn k => ⟨#[nv b, nv c], args2 (k.eq1 7 93 rfl) (k.eq1 8 94 rfl), fun _ => by kernel_rfl, less_c b c _⟩) fun _ => congrArg Value.bool ht178) ?_
        refine .o1 (tg rfl rfl rfl (fun _ _ k => k.eq1 6 92 rfl) fun _ w hn k => ⟨_, v_not rfl (k.eq1 9 95 rfl), rfl⟩) ?_
        refine .o1 (tg rfl rfl rfl (fun _ _ k => k.eq1 1 87 rfl) fun _ w hn k => ⟨_, v_pickF rfl (k.eq1 6 92 rfl) (k.eq1 10 96 rfl), rfl⟩) ?_
        refine .o1 (tg rfl rfl rfl (fun _ _ k => k.eq1 1 87 rfl) fun _ w hn k => ⟨_, v_move rfl (k.eq1 11 97 rfl), rfl⟩) ?_
        refine .o1 (sk rfl rfl rfl (fun _ _ _ k => k.eq1 12 98 rfl) (fun _ => rfl)) ?_
        refine .o1 (sk rfl rfl rfl (fun _ _ _ k => k.eq1 12 98 rfl) (fun _ => rfl)) ?_
        refine .o1 (sk rfl rfl rfl (fun _ _ _ k => k.eq1 12 98 rfl) (fun _ => rfl)) ?_
        refine .o1 (tg rfl rfl rfl (fun _ _ k => k.eq1 1 87 rfl) fun _ w hn k => ⟨_, v_pickT rfl (k.eq1 12 98 rfl) rfl, rfl⟩) ?_
        refine .o1 (tk rfl rfl fun _ w hn k => ⟨_, v_pickT rfl (k.eq1 1 87 rfl) (k.eq1 16 102 rfl), rfl⟩) ?_
        refine .o1 (tk rfl rfl fun _ w hn k => ⟨_, v_move rfl (k.eq1 17 103 rfl), rfl⟩) ?_
        refine .o1 (tg rfl rfl rfl (fun _ _ k => k.eq1 18 104 rfl) fun _ w hn k => ⟨_, v_load rfl (k.fx 3 h168) (l_two Tryd.isAgg23 Tryd.sizeOf23 (hb173.new_ hn)), rfl⟩) ?_
        refine .o1 (tg rfl rfl rfl (fun _ _ k => k.eq1 18 104 rfl) fun _ w hn k => ⟨_, v_load rfl (k.fx 4 h169) (l_two Tryd.isAgg23 Tryd.sizeOf23 (hb174.new_ hn)), rfl⟩) ?_
        refine .o1 (cg rfl rfl rfl (fun _ _ k => k.eq1 18 104 rfl) rfl (fun _ w hn k => ⟨#[nv a, nv b], args2 (k.eq1 19 105 rfl) (k.eq1 20 106 rfl), fun _ => by kernel_rfl, less_c a b _⟩) fun _ => congrArg Value.bool ht177) ?_
        refine .o1 (tg rfl rfl rfl (fun _ _ k => k.eq1 18 104 rfl) fun _ w hn k => ⟨_, v_move rfl (k.eq1 21 107 rfl), rfl⟩) ?_
        refine .o1 (tg rfl rfl rfl (fun _ _ k => k.eq1 22 108 rfl) fun _ w hn k => ⟨_, v_load rfl (k.fx 4 h169) (l_two Tryd.isAgg23 Tryd.sizeOf23 (hb174.new_ hn)), rfl⟩) ?_
        refine .o1 (tg rfl rfl rfl (fun _ _ k => k.eq1 22 108 rfl) fun _ w hn k => ⟨_, v_load rfl (k.fx 3 h168) (l_two Tryd.isAgg23 Tryd.sizeOf23 (hb173.new_ hn)), rfl⟩) ?_
        refine .o1 (cg rfl rfl rfl (fun _ _ k => k.eq1 22 108 rfl) rfl (fun _ w hn k => ⟨#[nv b, nv a], args2 (k.eq1 23 109 rfl) (k.eq1 24 110 rfl), fun _ => by kernel_rfl, less_c b a _⟩) fun _ => congrArg Value.bool ht190) ?_
        refine .o1 (tg rfl rfl rfl (fun _ _ k => k.eq1 18 104 rfl) fun _ w hn k => ⟨_, v_pickT rfl (k.eq1 22 108 rfl) (k.eq1 25 111 rfl), rfl⟩) ?_
        refine .o1 (tg rfl rfl rfl (fun _ _ k => k.eq1 18 104 rfl) fun _ w hn k => ⟨_, v_not rfl (k.eq1 26 112 rfl), rfl⟩) ?_
        refine .o1 (tk rfl rfl fun _ w hn k => ⟨_, v_pickT rfl (k.eq1 18 104 rfl) (k.eq1 27 113 rfl), rfl⟩) ?_
        refine .o1 (tk rfl rfl fun _ w hn k => ⟨_, v_move rfl (k.eq1 28 114 rfl), rfl⟩) ?_
        refine .o1 (tg rfl rfl rfl (fun _ _ k => k.eq1 29 115 rfl) fun _ w hn k => ⟨_, v_load rfl (k.fx 3 h168) (l_two Tryd.isAgg23 Tryd.sizeOf23 (hb173.new_ hn)), rfl⟩) ?_
        refine .o1 (tg rfl rfl rfl (fun _ _ k => k.eq1 29 115 rfl) fun _ w hn k => ⟨_, v_load rfl (k.fx 4 h169) (l_two Tryd.isAgg23 Tryd.sizeOf23 (hb174.new_ hn)), rfl⟩) ?_
        refine .o1 (cg rfl rfl rfl (fun _ _ k => k.eq1 29 115 rfl) rfl (fun _ w hn k => ⟨#[nv a, nv b], args2 (k.eq1 30 116 rfl) (k.eq1 31 117 rfl), fun _ => by kernel_rfl, less_c a b _⟩) fun _ => congrArg Value.bool ht177) ?_
        refine .o1 (tg rfl rfl rfl (fun _ _ k => k.eq1 29 115 rfl) fun _ w hn k => ⟨_, v_move rfl (k.eq1 32 118 rfl), rfl⟩) ?_
        refine .o1 (tg rfl rfl rfl (fun _ _ k => k.eq1 33 119 rfl) fun _ w hn k => ⟨_, v_load rfl (k.fx 3 h168) (l_two Tryd.isAgg23 Tryd.sizeOf23 (hb173.new_ hn)), rfl⟩) ?_
        refine .o1 (tg rfl rfl rfl (fun _ _ k => k.eq1 33 119 rfl) fun _ w hn k => ⟨_, v_load rfl (k.fx 4 h169) (l_two Tryd.isAgg23 Tryd.sizeOf23 (hb174.new_ hn)), rfl⟩) ?_
        refine .o1 (cg rfl rfl rfl (fun _ _ k => k.eq1 33 119 rfl) rfl (fun _ w hn k => ⟨#[nv a, nv b], args2 (k.eq1 34 120 rfl) (k.eq1 35 121 rfl), fun _ => by kernel_rfl, equal_c a b _⟩) fun _ => congrArg Value.bool ht191) ?_
        refine .o1 (tg rfl rfl rfl (fun _ _ k => k.eq1 29 115 rfl) fun _ w hn k => ⟨_, v_pickT rfl (k.eq1 33 119 rfl) (k.eq1 36 122 rfl), rfl⟩) ?_
        refine .o1 (tg rfl rfl rfl (fun _ _ k => k.eq1 29 115 rfl) fun _ w hn k => ⟨_, v_not rfl (k.eq1 37 123 rfl), rfl⟩) ?_
        refine .o1 (tk rfl rfl fun _ w hn k => ⟨_, v_pickT rfl (k.eq1 29 115 rfl) (k.eq1 38 124 rfl), rfl⟩) ?_
        refine .o1 (tk rfl rfl fun _ w hn k => ⟨_, v_assign rfl (k.eq1 39 125 rfl), rfl⟩) ?_
        exact .nil
      intro a192 w193 hn194 ha195
      have hs196 := ha195.size.trans hs166
      have hd197 := ha195.defers.trans hd167
      have h198 := ha195.ge 40 6 rfl
      have hN199 := hN176.transNew hn194
      clear hs166 hd167 h168 h169 h170 h171 h172 hb173 hq20 hb174 hq21 hb175 hq22 hN176 ha195 hn194
      refine st_nil ?_
      refine hK _ _ ?_
      clear hK K
      refine wp_ret (ret_k hd197 (v := .bool true) (res_t rfl h198 _) ?_)
      exact ⟨rfl, hN199⟩
    refine wp_g0 [true, true, true, true, true, true, true, true, true, true, true, true, true, true, true, true, true, true, true, true, true, true, true, true, true, true, true, true, true, true, true, true, true, true, true, true, true, true, true, true, true] [] 126
      [ve (.bool true),
       ve (.bool true),
       ve (nv a),
       ve (nv b),
       ve (.bool false),
       ve (.bool true),
       ve (.bool true),
       ve undef,
       ve undef,
       ve undef,
       ve undef,
       ve (.bool true),
       ve (.bool true),
       ve undef,
       ve undef,
       ve undef,
       ve (.bool true),
       ve (.bool true),
       ve (.bool true),
       ve (nv a),
       ve (nv b),
       ve (.bool false),
       ve (.bool false),
       ve undef,
       ve undef,
       ve undef,
       ve (.bool false),
       ve (.bool true),
       ve (.bool true),
       ve (.bool true),
       ve (nv a),
       ve (nv b),
       ve (.bool false),
       ve (.bool false),
       ve undef,
       ve undef,
       ve undef,
       ve (.bool false),
       ve (.bool true),
       ve (.bool true),
       ve (.bool true)] hs166 (.eq (.eq (.eq (.eq (.eq (.eq (.eq (.eq (.eq (.eq (.eq (.eq (.eq (.eq (.eq (.eq (.eq (.eq (.eq (.eq (.eq (.eq (.eq (.eq (.eq (.eq (.eq (.eq (.eq (.eq (.eq (.eq (.eq (.eq (.eq (.eq (.eq (.eq (.eq (.eq (.eq (.nil)))))))))))))))))))))))))))))))))))))))))) ?_ ?_
    · skip
      refine .o1 (ck rfl rfl rfl (fun _ w hn k => ⟨#[], rfl, fun _ => by kernel_rfl, first_c  _⟩) fun _ => rfl) ?_
      refine .o1 (tk rfl rfl fun _ w hn k => ⟨_, v_move rfl (k.eq1 0 86 rfl), rfl⟩) ?_
      refine .o1 (tg rfl rfl rfl (fun _ _ k => k.eq1 1 87 rfl) fun _ w hn k => ⟨_, v_load rfl (k.fx 3 h168) (l_two Tryd.isAgg23 Tryd.sizeOf23 (hb173.new_ hn)), rfl⟩) ?_
      refine .o1 (tg rfl rfl rfl (fun _ _ k => k.eq1 1 87 rfl) fun _ w hn k => ⟨_, v_load rfl (k.fx 4 h169) (l_two Tryd.isAgg23 Tryd.sizeOf23 (hb174.new_ hn)), rfl⟩) ?_
      refine .o1 (cg rfl rfl rfl (fun _ _ k => k.eq1 1 87 rfl) rfl (fun _ w hn k => ⟨#[nv a, nv b], args2 (k.eq1 2 88 rfl) (k.eq1 3 89 rfl), fun _ => by kernel_rfl, less_c a b _⟩) fun _ => congrArg Value.bool ht177) ?_
      refine .o1 (tg rfl rfl rfl (fun _ _ k => k.eq1 1 87 rfl) fun _ w hn k => ⟨_, v_not rfl (k.eq1 4 90 rfl), rfl⟩) ?_
      refine .o1 (tg rfl rfl rfl (fun _ _ k => k.eq1 1 87 rfl) fun _ w hn k => ⟨_, v_move rfl (k.eq1 5 91 rfl), rfl⟩) ?_
      refine .o1 (sk rfl rfl rfl (fun _ _ _ k => k.eq1 6 92 rfl) (fun _ => rfl)) ?_
      refine .o1 (sk rfl rfl rfl (fun _ _ _ k => k.eq1 6 92 rfl) (fun _ => rfl)) ?_
      refine .o1 (sk rfl rfl rfl (fun _ _ _ k => k.eq1 6 92 rfl) (fun _ => rfl)) ?_
      refine .o1 (sk rfl rfl rfl (fun _ _ _ k => k.eq1 6 92 rfl) (fun _ => rfl)) ?_
      refine .o1 (tg rfl rfl rfl (fun _ _ k => k.eq1 1 87 rfl) fun _ w hn k => ⟨_, v_pickT rfl (k.eq1 6 92 rfl) rfl, rfl⟩) ?_
      refine .o1 (tg rfl rfl rfl (fun _ _ k => k.eq1 1 87 rfl) fun _ w hn k => ⟨_, v_move rfl (k.eq1 11 97 rfl), rfl⟩) ?_
      refine .o1 (sk rfl rfl rfl (fun _ _ _ k => k.eq1 12 98 rfl) (fun _ => rfl)) ?_
      refine .o1 (sk rfl rfl rfl (fun _ _ _ k => k.eq1 12 98 rfl) (fun _ => rfl)) ?_
      refine .o1 (sk rfl rfl rfl (fun _ _ _ k => k.eq1 12 98 rfl) (fun _ => rfl)) ?_
      refine .o1 (tg rfl rfl rfl (fun _ _ k => k.eq1 1 87 rfl) fun _ w hn k => ⟨_, v_pickT rfl (k.eq1 12 98 rfl) rfl, rfl⟩) ?_
      refine .o1 (tk rfl rfl fun _ w hn k => ⟨_, v_pickT rfl (k.eq1 1 87 rfl) (k.eq1 16 102 rfl), rfl⟩) ?_
      refine .o1 (tk rfl rfl fun _ w hn k => ⟨_, v_move rfl (k.eq1 17 103 rfl), rfl⟩) ?_
      refine .o1 (tg rfl rfl rfl (fun _ _ k => k.eq1 18 104 rfl) fun _ w hn k => ⟨_, v_load rfl (k.fx 3 h168) (l_two Tryd.isAgg23 Tryd.sizeOf23 (hb173.new_ hn)), rfl⟩) ?_
      refine .o1 (tg rfl rfl rfl (fun _ _ k => k.eq1 18 104 rfl) fun _ w hn k => ⟨_, v_load rfl (k.fx 4 h169) (l_two Tryd.isAgg23 Tryd.sizeOf23 (hb174.new_ hn)), rfl⟩) ?_
      refine .o1 (cg rfl rfl rfl (fun _ _ k => k.eq1 18 104 rfl) rfl (fun _ w hn k => ⟨#[nv a, nv b], args2 (k.eq1 19 105 rfl) (k.eq1 20 106 rfl), fun _ => by kernel_rfl, less_c a b _⟩) fun _ => congrArg Value.bool ht177) ?_
      refine .o1 (tg rfl rfl rfl (fun _ _ k => k.eq1 18 104 rfl) fun _ w hn k => ⟨_, v_move rfl (k.eq1 21 107 rfl), rfl⟩) ?_
      refine .o1 (sk rfl rfl rfl (fun _ _ _ k => k.eq1 22 108 rfl) (fun _ => rfl)) ?_
      refine .o1 (sk rfl rfl rfl (fun _ _ _ k => k.eq1 22 108 rfl) (fun _ => rfl)) ?_
      refine .o1 (sk rfl rfl rfl (fun _ _ _ k => k.eq1 22 108 rfl) (fun _ => rfl)) ?_
      refine .o1 (tg rfl rfl rfl (fun _ _ k => k.eq1 18 104 rfl) fun _ w hn k => ⟨_, v_pickF rfl (k.eq1 22 108 rfl) rfl, rfl⟩) ?_
      refine .o1 (tg rfl rfl rfl (fun _ _ k => k.eq1 18 104 rfl) fun _ w hn k => ⟨_, v_not rfl (k.eq1 26 112 rfl), rfl⟩) ?_
      refine .o1 (tk rfl rfl fun _ w hn k => ⟨_, v_pickT rfl (k.eq1 18 104 rfl) (k.eq1 27 113 rfl), rfl⟩) ?_
      refine .o1 (tk rfl rfl fun _ w hn k => ⟨_, v_move rfl (k.eq1 28 114 rfl), rfl⟩) ?_
      refine .o1 (tg rfl rfl rfl (fun _ _ k => k.eq1 29 115 rfl) fun _ w hn k => ⟨_, v_load rfl (k.fx 3 h168) (l_two Tryd.isAgg23 Tryd.sizeOf23 (hb173.new_ hn)), rfl⟩) ?_
      refine .o1 (tg rfl rfl rfl (fun _ _ k => k.eq1 29 115 rfl) fun _ w hn k => ⟨_, v_load rfl (k.fx 4 h169) (l_two Tryd.isAgg23 Tryd.sizeOf23 (hb174.new_ hn)), rfl⟩) ?_
      refine .o1 (cg rfl rfl rfl (fun _ _ k => k.eq1 29 115 rfl) rfl (fun _ w hn k => ⟨#[nv a, nv b], args2 (k.eq1 30 116 rfl) (k.eq1 31 117 rfl), fun _ => by kernel_rfl, less_c a b _⟩) fun _ => congrArg Value.bool ht177) ?_
      refine .o1 (tg rfl rfl rfl (fun _ _ k => k.eq1 29 115 rfl) fun _ w hn k => ⟨_, v_move rfl (k.eq1 32 118 rfl), rfl⟩) ?_
      refine .o1 (sk rfl rfl rfl (fun _ _ _ k => k.eq1 33 119 rfl) (fun _ => rfl)) ?_
      refine .o1 (sk rfl rfl rfl (fun _ _ _ k => k.eq1 33 119 rfl) (fun _ => rfl)) ?_
      refine .o1 (sk rfl rfl rfl (fun _ _ _ k => k.eq1 33 119 rfl) (fun _ => rfl)) ?_
      refine .o1 (tg rfl rfl rfl (fun _ _ k => k.eq1 29 115 rfl) fun _ w hn k => ⟨_, v_pickF rfl (k.eq1 33 119 rfl) rfl, rfl⟩) ?_
      refine .o1 (tg rfl rfl rfl (fun _ _ k => k.eq1 29 115 rfl) fun _ w hn k => ⟨_, v_not rfl (k.eq1 37 123 rfl), rfl⟩) ?_
      refine .o1 (tk rfl rfl fun _ w hn k => ⟨_, v_pickT rfl (k.eq1 29 115 rfl) (k.eq1 38 124 rfl), rfl⟩) ?_
      refine .o1 (tk rfl rfl fun _ w hn k => ⟨_, v_assign rfl (k.eq1 39 125 rfl), rfl⟩) ?_
      exact .nil
    intro a200 w201 hn202 ha203
    have hs204 := ha203.size.trans hs166
    have hd205 := ha203.defers.trans hd167
    have h206 := ha203.ge 40 6 rfl
    have hN207 := hN176.transNew hn202
    clear hs166 hd167 h168 h169 h170 h171 h172 hb173 hq20 hb174 hq21 hb175 hq22 hN176 ha203 hn202
    refine st_nil ?_
    refine hK _ _ ?_
    clear hK K
    refine wp_ret (ret_k hd205 (v := .bool true) (res_t rfl h206 _) ?_)
    exact ⟨rfl, hN207⟩
  have hv208 : a87.eval (.tmp 8) = .bool false := h98.trans (congrArg Value.bool ht105)
  clear h98
  refine wp_g0 [true, true, true, true] [] 126
    [ve (.bool false),
     ve (.bool false),
     ve undef,
     ve (.bool false)] hs91 (.eq (.eq (.eq (.eq (.nil))))) ?_ ?_
  · skip
    refine .o1 (tk rfl rfl fun _ w hn k => ⟨_, v_move rfl (k.fx 8 hv208), rfl⟩) ?_
    refine .o1 (tk rfl rfl fun _ w hn k => ⟨_, v_move rfl (k.eq1 0 42 rfl), rfl⟩) ?_
    refine .o1 (sk rfl rfl rfl (fun _ _ _ k => k.eq1 1 43 rfl) (fun _ => rfl)) ?_
    refine .o1 (tk rfl rfl fun _ w hn k => ⟨_, v_pickF rfl (k.eq1 1 43 rfl) rfl, rfl⟩) ?_
    exact .nil
  intro a209 w210 hn211 ha212
  have hs213 := ha212.size.trans hs91
  have hd214 := ha212.defers.trans hd92
  have h215 := ha212.fx 3 h93
  have h216 := ha212.fx 4 h94
  have h217 := ha212.fx 5 h95
  have h218 := ha212.fx 6 h96
  have h219 := ha212.fx 7 h97
  have h220 := ha212.fx 8 hv208
  have h221 := ha212.fx 9 h99
  have h222 := ha212.ge 3 45 rfl
  have hb223 := hb100.new_ hn211
  have hb224 := hb101.new_ hn211
  have hb225 := hb102.new_ hn211
  have hb226 := hb103.new_ hn211
  have hN227 := hN104.transNew hn211
  clear hs91 hd92 h93 h94 h95 h96 h97 hv208 h99 hb100 hb101 hb102 hb103 hN104 ha212 hn211
  refine st_nil ?_
  refine hK _ _ ?_
  clear hK K
  refine wp_cond_false h222 ?_
  refine wp_skip ?_
  refine hK _ _ ?_
  clear hK K
  refine wp_seq_k fun K hK => ?_
  refine wp_g [true, true, true, true, false] [] [(4, false)] 126
    [ve (nv a),
     ve (nv b),
     ve (nv (remM a b)),
     IsNew w210 23 [iv 0, iv 0],
     vt]
    [3] (newsCons (fun v w h => IsNew.old h) newsNil) hs213 (.eq (.eq (.eq (.nw (.tt (.nil)))))) ?_ (fun i h => by cases h) ?_
  · skip
    refine .o1 (tk rfl rfl fun _ w hn k => ⟨_, v_load rfl (k.fx 3 h215) (l_two Tryd.isAgg23 Tryd.sizeOf23 (hb223.new_ hn)), rfl⟩) ?_
    refine .o1 (tk rfl rfl fun _ w hn k => ⟨_, v_load rfl (k.fx 4 h216) (l_two Tryd.isAgg23 Tryd.sizeOf23 (hb224.new_ hn)), rfl⟩) ?_
    refine .o1 (ck rfl rfl rfl (fun _ w hn k => ⟨#[nv a, nv b], args2 (k.eq1 0 60 rfl) (k.eq1 1 61 rfl), fun _ => by kernel_rfl, rem_c a b _⟩) fun _ => rfl) ?_
    refine .o2 (step_allocN (cs := [iv 0, iv 0]) (t := 23) rfl (noG rfl) (fun _ w hn k => rfl) (fun q _ hq hb => ⟨q, rfl, hq, hb⟩)) ?_
    refine .off ?_
    exact .nil
  intro a228 w229 hn230 ha231
  have hs232 := ha231.size.trans hs213
  have hd233 := ha231.defers.trans hd214
  have h234 := ha231.fx 3 h215
  have h235 := ha231.fx 4 h216
  have h236 := ha231.fx 5 h217
  have h237 := ha231.fx 6 h218
  have h238 := ha231.fx 8 h220
  have h239 := ha231.fx 9 h221
  have h240 := ha231.ge 2 62 rfl
  obtain ⟨q242, h241, hq243, hb244⟩ : IsNew _ _ _ _ _ := ha231.got 3 12 rfl (by kernel_rfl)
  have hb245 := hb223.new_ hn230
  have hb246 := hb224.new_ hn230
  have hb247 := hb225.new_ hn230
  have hne248 : q8 ≠ q242 := by have h1 := hb223.lt; have h2 := hq243; omega
  have hne249 : q12 ≠ q242 := by have h1 := hb224.lt; have h2 := hq243; omega
  have hne250 : q16 ≠ q242 := by have h1 := hb225.lt; have h2 := hq243; omega
  have hq251 := Nat.le_trans hN227.size hq243
  have hN252 := hN227.transNew hn230
  clear hs213 hd214 h215 h216 h217 h218 h219 h220 h221 h222 hb223 hb224 hb225 hb226 hq61 hq243 hN227 ha231 hn230
  obtain ⟨w253, -, hst254, hb255, hu256, hf257⟩ := s_two (v0 := iv ((remM a b).k)) (v1 := iv ((remM a b).n)) Tryd.sizeOf23 rfl rfl rfl hb244
  refine st_act rfl rfl fun K258 hL259 => a_store' rfl h241 h240 hst254 (hL259 _ _ trivial ?_)
  have hb260 := hf257 _ _ _ (hne248) hb245
  have hb261 := hf257 _ _ _ (hne249) hb246
  have hb262 := hf257 _ _ _ (hne250) hb247
  have hN263 := hN252.trans hu256 (fun k hk hkb => by subst hkb; omega)
  clear hb244 hst254 K258 hL259 hN252 hb245 hb246 hb247 hu256 hf257
  clear hne248
  clear hne249
  clear hne250
  refine st_nil ?_
  clear h240
  refine hK _ _ ?_
  clear hK K
  refine wp_seq_k fun K hK => ?_
  refine wp_seq_k fun K hK => ?_
  refine wp_g0 [true, true, true, true, true, true, true, true, true, true, true, true, true, true, true, true, true, true, true, true, true, true, true] [] 126
    [ve (.bool false),
     ve (.bool false),
     ve undef,
     ve undef,
     ve undef,
     ve undef,
     ve undef,
     ve undef,
     ve undef,
     ve undef,
     ve undef,
     ve undef,
     ve undef,
     ve undef,
     ve undef,
     ve undef,
     ve undef,
     ve undef,
     ve undef,
     ve undef,
     ve undef,
     ve undef,
     ve (.bool false)] hs232 (.eq (.eq (.eq (.eq (.eq (.eq (.eq (.eq (.eq (.eq (.eq (.eq (.eq (.eq (.eq (.eq (.eq (.eq (.eq (.eq (.eq (.eq (.eq (.nil)))))))))))))))))))))))) ?_ ?_
  · skip
    refine .o1 (tk rfl rfl fun _ w hn k => ⟨_, v_move rfl (k.fx 9 h239), rfl⟩) ?_
    refine .o1 (tk rfl rfl fun _ w hn k => ⟨_, v_move rfl (k.eq1 0 63 rfl), rfl⟩) ?_
    refine .o1 (sk rfl rfl rfl (fun _ _ _ k => k.eq1 1 64 rfl) (fun _ => rfl)) ?_
    refine .o1 (sk rfl rfl rfl (fun _ _ _ k => k.eq1 1 64 rfl) (fun _ => rfl)) ?_
    refine .o1 (sk rfl rfl rfl (fun _ _ _ k => k.eq1 1 64 rfl) (fun _ => rfl)) ?_
    refine .o1 (sk rfl rfl rfl (fun _ _ _ k => k.eq1 1 64 rfl) (fun _ => rfl)) ?_
    refine .o1 (sk rfl rfl rfl (fun _ _ _ k => k.eq1 1 64 rfl) (fun _ => rfl)) ?_
    refine .o1 (sk rfl rfl rfl (fun _ _ _ k => k.eq1 1 64 rfl) (fun _ => rfl)) ?_
    refine .o1 (sk rfl rfl rfl (fun _ _ _ k => k.eq1 1 64 rfl) (fun _ => rfl)) ?_
    refine .o1 (sk rfl rfl rfl (fun _ _ _ k => k.eq1 1 64 rfl) (fun _ => rfl)) ?_
    refine .o1 (sk rfl rfl rfl (fun _ _ _ k => k.eq1 1 64 rfl) (fun _ => rfl)) ?_
    refine .o1 (sk rfl rfl rfl (fun _ _ _ k => k.eq1 1 64 rfl) (fun _ => rfl)) ?_
    refine .o1 (sk rfl rfl rfl (fun _ _ _ k => k.eq1 1 64 rfl) (fun _ => rfl)) ?_
    refine .o1 (sk rfl rfl rfl (fun _ _ _ k => k.eq1 1 64 rfl) (fun _ => rfl)) ?_
    refine .o1 (sk rfl rfl rfl (fun _ _ _ k => k.eq1 1 64 rfl) (fun _ => rfl)) ?_
    refine .o1 (sk rfl rfl rfl (fun _ _ _ k => k.eq1 1 64 rfl) (fun _ => rfl)) ?_
    refine .o1 (su rfl rfl rfl (fun _ _ _ k => k.eq1 15 78 rfl) (fun _ => rfl)) ?_
    refine .o1 (su rfl rfl rfl (fun _ _ _ k => k.eq1 15 78 rfl) (fun _ => rfl)) ?_
    refine .o1 (su rfl rfl rfl (fun _ _ _ k => k.eq1 15 78 rfl) (fun _ => rfl)) ?_
    refine .o1 (su rfl rfl rfl (fun _ _ _ k => k.eq1 15 78 rfl) (fun _ => rfl)) ?_
    refine .o1 (su rfl rfl rfl (fun _ _ _ k => k.eq1 15 78 rfl) (fun _ => rfl)) ?_
    refine .o1 (sk rfl rfl rfl (fun _ _ _ k => k.eq1 1 64 rfl) (fun _ => rfl)) ?_
    refine .o1 (tk rfl rfl fun _ w hn k => ⟨_, v_pickF rfl (k.eq1 1 64 rfl) rfl, rfl⟩) ?_
    exact .nil
  intro a264 w265 hn266 ha267
  have hs268 := ha267.size.trans hs232
  have hd269 := ha267.defers.trans hd233
  have h270 := ha267.fx 3 h234
  have h271 := ha267.fx 4 h235
  have h272 := ha267.fx 5 h236
  have h273 := ha267.fx 6 h237
  have h274 := ha267.ge 22 85 rfl
  have hb275 := hb260.new_ hn266
  have hb276 := hb261.new_ hn266
  have hb277 := hb262.new_ hn266
  have hN278 := hN263.transNew hn266
  clear hs232 hd233 h234 h235 h236 h237 h238 h239 h241 hb260 hb261 hb262 hb255 hq251 hN263 ha267 hn266
  refine st_nil ?_
  refine hK _ _ ?_
  clear hK K
  refine wp_cond_false h274 ?_
  refine wp_skip ?_
  refine hK _ _ ?_
  clear hK K
  refine wp_seq_k fun K hK => ?_
  rcases Bool.eq_false_or_eq_true (lessM a b) with ht279 | ht279
  · skip
    rcases Bool.eq_false_or_eq_true (lessM b c) with ht280 | ht280
    · skip
      have ht281 : (lessM a c) = true := less_trans ht279 ht280
      have ht282 : (lessM b a) = false := less_asymm ht279
      have ht283 : (equalM a b) = false := less_ne ht279
      refine wp_g0 [true, true, true, true, true, true, true, true, true, true, true, true, true, true, true, true, true, true, true, true, true, true, true, true, true, true, true, true, true, true, true, true, true, true, true, true, true, true, true, true, true] [] 126
        [ve (.bool true),
         ve (.bool true),
         ve (nv a),
         ve (nv b),
         ve (.bool true),
         ve (.bool false),
         ve (.bool false),
         ve (nv b),
         ve (nv c),
         ve (.bool true),
         ve (.bool false),
         ve (.bool false),
         ve (.bool false),
         ve (nv a),
         ve (nv c),
         ve (.bool true),
         ve (.bool true),
         ve (.bool true),
         ve (.bool true),
         ve (nv a),
         ve (nv b),
         ve (.bool true),
         ve (.bool true),
         ve (nv b),
         ve (nv a),
         ve (.bool false),
         ve (.bool false),
         ve (.bool true),
         ve (.bool true),
         ve (.bool true),
         ve (nv a),
         ve (nv b),
         ve (.bool true),
         ve (.bool true),
         ve (nv a),
         ve (nv b),
         ve (.bool false),
         ve (.bool false),
         ve (.bool true),
         ve (.bool true),
         ve (.bool true)] hs268 (.eq (.eq (.eq (.eq (.eq (.eq (.eq (.eq (.eq (.eq (.eq (.eq (.eq (.eq (.eq (.eq (.eq (.eq (.eq (.eq (.eq (.eq (.eq (.eq (.eq (.eq (.eq (.eq (.eq (.eq (.eq (.eq (.eq (.eq (.eq (.eq (.eq (.eq (.eq (.eq (.eq (.nil)))))))))))))))))))))))))))))))))))))))))) ?_ ?_
      · skip
        refine .o1 (ck rfl rfl rfl (fun _ w hn k => ⟨#[], rfl, fun _ => by kernel_rfl, first_c  _⟩) fun _ => rfl) ?_
        refine .o1 (tk rfl rfl fun _ w hn k => ⟨_, v_move rfl (k.eq1 0 86 rfl), rfl⟩) ?_
        refine .o1 (tg rfl rfl rfl (fun _ _ k => k.eq1 1 87 rfl) fun _ w hn k => ⟨_, v_load rfl (k.fx 3 h270) (l_two Tryd.isAgg23 Tryd.sizeOf23 (hb275.new_ hn)), rfl⟩) ?_
        refine .o1 (tg rfl rfl rfl (fun _ _ k => k.eq1 1 87 rfl) fun _ w hn k => ⟨_, v_load rfl (k.fx 4 h271) (l_two Tryd.isAgg23 Tryd.sizeOf23 (hb276.new_ hn)), rfl⟩) ?_
        refine .o1 (cg rfl rfl rfl (fun _ _ k => k.eq1 1 87 rfl) rfl (fun _ w hn k => ⟨#[nv a, nv b], args2 (k.eq1 2 88 rfl) (k.eq1 3 89 rfl), fun _ => by kernel_rfl, less_c a b _⟩) fun _ => congrArg Value.bool ht279) ?_
        refine .o1 (tg rfl rfl rfl (fun _ _ k => k.eq1 1 87 rfl) fun _ w hn k => ⟨_, v_not rfl (k.eq1 4 90 rfl), rfl⟩) ?_
        refine .o1 (tg rfl rfl rfl (fun _ _ k => k.eq1 1 87 rfl) fun _ w hn k => ⟨_, v_move rfl (k.eq1 5 91 rfl), rfl⟩) ?_
        refine .o1 (tg rfl rfl rfl (fun _ _ k => k.eq1 6 92 rfl) fun _ w hn k => ⟨_, v_load rfl (k.fx 4 h271) (l_two Tryd.isAgg23 Tryd.sizeOf23 (hb276.new_ hn)), rfl⟩) ?_
        refine .o1 (tg rfl rfl rfl (fun _ _ k => k.eq1 6 92 rfl) fun _ w hn k => ⟨_, v_load rfl (k.fx 5 h272) (l_two Tryd.isAgg23 Tryd.sizeOf23 (hb277.new_ hn)), rfl⟩) ?_
        refine .o1 (cg rfl rfl rfl (fun _ _ k => k.eq1 6 92 rfl) rfl (fun _ w hn k => ⟨#[nv b, nv c], args2 (k.eq1 7 93 rfl) (k.eq1 8 94 rfl), fun _ => by kernel_rfl, less_c b c _⟩) fun _ => congrArg Value.bool ht280) ?_
        refine .o1 (tg rfl rfl rfl (fun _ _ k => k.eq1 6 92 rfl) fun _ w hn k => ⟨_, v_not rfl (k.eq1 9 95 rfl), rfl⟩) ?_
        refine .o1 (tg rfl rfl rfl (fun _ _ k => k.eq1 1 87 rfl) fun _ w hn k => ⟨_, v_pickF rfl (k.eq1 6 92 rfl) (k.eq1 10 96 rfl), rfl⟩) ?_
        refine .o1 (tg rfl rfl rfl (fun _ _ k => k.eq1 1 87 rfl) fun _ w hn k => ⟨_, v_move rfl (k.eq1 11 97 rfl), rfl⟩) ?_
        refine .o1 (tg rfl rfl rfl (fun _ _ k => k.eq1 12 98 rfl) fun _ w hn k => ⟨_, v_load rfl (k.fx 3 h270) (l_two Tryd.isAgg23 Tryd.sizeOf23 (hb275.new_ hn)), rfl⟩) ?_
        refine .o1 (tg rfl rfl rfl (fun _ _ k => k.eq1 12 98 rfl) fun _ w hn k => ⟨_, v_load rfl (k.fx 5 h272) (l_two Tryd.isAgg23 Tryd.sizeOf23 (hb277.new_ hn)), rfl⟩) ?_
        refine .o1 (cg rfl rfl rfl (fun _ _ k => k.eq1 12 98 rfl) rfl (fun _ w hn k => ⟨#[nv a, nv c], args2 (k.eq1 13 99 rfl) (k.eq1 14 100 rfl), fun _ => by kernel_rfl, less_c a c _⟩) fun _ => congrArg Value.bool ht281) ?_
        refine .o1 (tg rfl rfl rfl (fun _ _ k => k.eq1 1 87 rfl) fun _ w hn k => ⟨_, v_pickF rfl (k.eq1 12 98 rfl) (k.eq1 15 101 rfl), rfl⟩) ?_
        refine .o1 (tk rfl rfl fun _ w hn k => ⟨_, v_pickT rfl (k.eq1 1 87 rfl) (k.eq1 16 102 rfl), rfl⟩) ?_
        refine .o1 (tk rfl rfl fun _ w hn k => ⟨_, v_move rfl (k.eq1 17 103 rfl), rfl⟩) ?_
        refine .o1 (tg rfl rfl rfl (fun _ _ k => k.eq1 18 104 rfl) fun _ w hn k => ⟨_, v_load rfl (k.fx 3 h270) (l_two Tryd.isAgg23 Tryd.sizeOf23 (hb275.new_ hn)), rfl⟩) ?_
        refine .o1 (tg rfl rfl rfl (fun _ _ k => k.eq1 18 104 rfl) fun _ w hn k => ⟨_, v_load rfl (k.fx 4 h271) (l_two Tryd.isAgg23 Tryd.sizeOf23 (hb276.new_ hn)), rfl⟩) ?_
        refine .o1 (cg rfl rfl rfl (fun _ _ k => k.eq1 18 104 rfl) rfl (fun _ w hn k => ⟨#[nv a, nv b], args2 (k.eq1 19 105 rfl) (k.eq1 20 106 rfl), fun _ => by kernel_rfl, less_c a b _⟩) fun _ => congrArg Value.bool ht279) ?_
        refine .o1 (tg rfl rfl rfl (fun _ _ k => k.eq1 18 104 rfl) fun _ w hn k => ⟨_, v_move rfl (k.eq1 21 107 rfl), rfl⟩) ?_
        refine .o1 (tg rfl rfl rfl (fun _ _ k => k.eq1 22 108 rfl) fun _ w hn k => ⟨_, v_load rfl (k.fx 4 h271) (l_two Tryd.isAgg23 Tryd.sizeOf23 (hb276.new_ hn)), rfl⟩) ?_
        refine .o1 (tg rfl rfl rfl (fun _ _ k => k.eq1 22 108 rfl) fun _ w hn k => ⟨_, v_load rfl (k.fx 3 h270) (l_two Tryd.isAgg23 Tryd.sizeOf23 (hb275.new_ hn)), rfl⟩) ?_
        refine .o1 (cg rfl rfl rfl (fun _ _ k => k.eq1 22 108 rfl) rfl (fun _ w hn k => ⟨#[nv b, nv a], args2 (k.eq1 23 109 rfl) (k.eq1 24 110 rfl), fun _ => by kernel_rfl, less_c b a _⟩) fun _ => congrArg Value.bool ht282) ?_
        refine .o1 (tg rfl rfl rfl (fun _ _ k => k.eq1 18 104 rfl) fun _ w hn k => ⟨_, v_pickT rfl (k.eq1 22 108 rfl) (k.eq1 25 111 rfl), rfl⟩) ?_
        refine .o1 (tg rfl rfl rfl (fun _ _ k => k.eq1 18 104 rfl) fun _ w hn k => ⟨_, v_not rfl (k.eq1 26 112 rfl), rfl⟩) ?_
        refine .o1 (tk rfl rfl fun _ w hn k => ⟨_, v_pickT rfl (k.eq1 18 104 rfl) (k.eq1 27 113 rfl), rfl⟩) ?_
        refine .o1 (tk rfl rfl fun _ w hn k => ⟨_, v_move rfl (k.eq1 28 114 rfl), rfl⟩) ?_
        refine .o1 (tg rfl rfl rfl (fun _ _ k => k.eq1 29 115 rfl) fun _ w hn k => ⟨_, v_load rfl (k.fx 3 h270) (l_two Tryd.isAgg23 Tryd.sizeOf23 (hb275.new_ hn)), rfl⟩) ?_
        refine .o1 (tg rfl rfl rfl (fun _ _ k => k.eq1 29 115 rfl) fun _ w hn k => ⟨_, v_load rfl (k.fx 4 h271) (l_two Tryd.isAgg23 Tryd.sizeOf23 (hb276.new_ hn)), rfl⟩) ?_
        refine .o1 (cg rfl rfl rfl (fun _ _ k => k.eq1 29 115 rfl) rfl (fun _ w hn k => ⟨#[nv a, nv b], args2 (k.eq1 30 116 rfl) (k.eq1 31 117 rfl), fun _ => by kernel_rfl, less_c a b _⟩) fun _ => congrArg Value.bool ht279) ?_
        refine .o1 (tg rfl rfl rfl (fun _ _ k => k.eq1 29 115 rfl) fun _ w hn k => ⟨_, v_move rfl (k.eq1 32 118 rfl), rfl⟩) ?_
        refine .o1 (tg rfl rfl rfl (fun _ _ k => k.eq1 33 119 rfl) fun _ w hn k => ⟨_, v_load rfl (k.fx 3 h270) (l_two Tryd.isAgg23 Tryd.sizeOf23 (hb275.new_ hn)), rfl⟩) ?_
        refine .o1 (tg rfl rfl rfl (fun _ _ k => k.eq1 33 119 rfl) fun _ w hn k => ⟨_, v_load rfl (k.fx 4 h271) (l_two Tryd.isAgg23 Tryd.sizeOf23 (hb276.new_ hn)), rfl⟩) ?_
        refine .o1 (cg rfl rfl rfl (fun _ _ k => k.eq1 33 119 rfl) rfl (fun _ w hn k => ⟨#[nv a, nv b], args2 (k.eq1 34 120 rfl) (k.eq1 35 121 rfl), fun _ => by kernel_rfl, equal_c a b _⟩) fun _ => congrArg Value.bool ht283) ?_
        refine .o1 (tg rfl rfl rfl (fun _ _ k => k.eq1 29 115 rfl) fun _ w hn k => ⟨_, v_pickT rfl (k.eq1 33 119 rfl) (k.eq1 36 122 rfl), rfl⟩) ?_
        refine .o1 (tg rfl rfl rfl (fun _ _ k => k.eq1 29 115 rfl) fun _ w hn k => ⟨_, v_not rfl (k.eq1 37 123 rfl), rfl⟩) ?_
        refine .o1 (tk rfl rfl fun _ w hn k => ⟨_, v_pickT rfl (k.eq1 29 115 rfl) (k.eq1 38 124 rfl), rfl⟩) ?_
        refine .o1 (tk rfl rfl fun _ w hn k => ⟨_, v_assign rfl (k.eq1 39 125 rfl), rfl⟩) ?_
        exact .nil
      intro a284 w285 hn286 ha287
      have hs288 := ha287.size.trans hs268
      have hd289 := ha287.defers.trans hd269
      have h290 := ha287.ge 40 6 rfl
      have hN291 := hN278.transNew hn286
      clear hs268 hd269 h270 h271 h272 h273 h274 hb275 hq20 hb276 hq21 hb277 hq22 hN278 ha287 hn286
      refine st_nil ?_
      refine hK _ _ ?_
      clear hK K
      refine wp_ret (ret_k hd289 (v := .bool true) (res_t rfl h290 _) ?_)
      exact ⟨rfl, hN291⟩
    have ht292 : (lessM b a) = false := less_asymm ht279
    have ht293 : (equalM a b) = false := less_ne ht279
    refine wp_g0 [true, true, true, true, true, true, true, true, true, true, true, true, true, true, true, true, true, true, true, true, true, true, true, true, true, true, true, true, true, true, true, true, true, true, true, true, true, true, true, true, true] [] 126
      [ve (.bool true),
       ve (.bool true),
       ve (nv a),
       ve (nv b),
       ve (.bool true),
       ve (.bool false),
       ve (.bool false),
       ve (nv b),
       ve (nv c),
       ve (.bool false),
       ve (.bool true),
       ve (.bool true),
       ve (.bool true),
       ve undef,
       ve undef,
       ve undef,
       ve (.bool true),
       ve (.bool true),
       ve (.bool true),
       ve (nv a),
       ve (nv b),
       ve (.bool true),
       ve (.bool true),
       ve (nv b),
       ve (nv a),
       ve (.bool false),
       ve (.bool false),
       ve (.bool true),
       ve (.bool true),
       ve (.bool true),
       ve (nv a),
       ve (nv b),
       ve (.bool true),
       ve (.bool true),
       ve (nv a),
       ve (nv b),
       ve (.bool false),
       ve (.bool false),
       ve (.bool true),
       ve (.bool true),
       ve (.bool true)] hs268 (.eq (.eq (.eq (.eq (.eq (.eq (.eq (.eq (.eq (.eq (.eq (.eq (.eq (.eq (.eq (.eq (.eq (.eq (.eq (.eq (.eq (.eq (.eq (.eq (.eq (.eq (.eq (.eq (.eq (.eq (.eq (.eq (.eq (.eq (.eq (.eq (.eq (.eq (.eq (.eq (.eq (.nil)))))))))))))))))))))))))))))))))))))))))) ?_ ?_
    · skip
      refine .o1 (ck rfl rfl rfl (fun _ w hn k => ⟨#[], rfl, fun _ => by kernel_rfl, first_c  _⟩) fun _ => rfl) ?_
      refine .o1 (tk rfl rfl fun _ w hn k => ⟨_, v_move rfl (k.eq1 0 86 rfl), rfl⟩) ?_
      refine .o1 (tg rfl rfl rfl (fun _ _ k => k.eq1 1 87 rfl) fun _ w hn k => ⟨_, v_load rfl (k.fx 3 h270) (l_two Tryd.isAgg23 Tryd.sizeOf23 (hb275.new_ hn)), rfl⟩) ?_
      refine .o1 (tg rfl rfl rfl (fun _ _ k => k.eq1 1 87 rfl) fun _ w hn k => ⟨_, v_load rfl (k.fx 4 h271) (l_two Tryd.isAgg23 Tryd.sizeOf23 (hb276.new_ hn)), rfl⟩) ?_
      refine .o1 (cg rfl rfl rfl (fun _ _ k => k.eq1 1 87 rfl) rfl (fun _ w hn k => ⟨#[nv a, nv b], args2 (k.eq1 2 88 rfl) (k.eq1 3 89 rfl), fun _ => by kernel_rfl, less_c a b _⟩) fun _ => congrArg Value.bool ht279) ?_
      refine .o1 (tg rfl rfl rfl (fun _ _ k => k.eq1 1 87 rfl) fun _ w hn k => ⟨_, v_not rfl (k.eq1 4 90 rfl), rfl⟩) ?_
      refine .o1 (tg rfl rfl rfl (fun _ _ k => k.eq1 1 87 rfl) fun _ w hn k => ⟨_, v_move rfl (k.eq1 5 91 rfl), rfl⟩) ?_
      refine .o1 (tg rfl rfl rfl (fun _ _ k => k.eq1 6 92 rfl) fun _ w hn k => ⟨_, v_load rfl (k.fx 4 h271) (l_two Tryd.isAgg23 Tryd.sizeOf23 (hb276.new_ hn)), rfl⟩) ?_
      refine .o1 (tg rfl rfl rfl (fun _ _ k => k.eq1 6 92 rfl) fun _ w hn k => ⟨_, v_load rfl (k.fx 5 h272) (l_two Tryd.isAgg23 Tryd.sizeOf23 (hb277.new_ hn)), rfl⟩) ?_
      refine .o1 (cg rfl rfl rfl (fun _ _ k => k.eq1 6 92 rfl) rfl (fun _ w hn k => ⟨#[nv b, nv c], args2 (k.eq1 7 93 rfl) (k.eq1 8 94 rfl), fun _ => by kernel_rfl, less_c b c _⟩) fun _ => congrArg Value.bool ht280) ?_
      refine .o1 (tg rfl rfl rfl (fun _ _ k => k.eq1 6 92 rfl) fun _ w hn k => ⟨_, v_not rfl (k.eq1 9 95 rfl), rfl⟩) ?_
      refine .o1 (tg rfl rfl rfl (fun _ _ k => k.eq1 1 87 rfl) fun _ w hn k => ⟨_, v_pickF rfl (k.eq1 6 92 rfl) (k.eq1 10 96 rfl), rfl⟩) ?_
      refine .o1 (tg rfl rfl rfl (fun _ _ k => k.eq1 1 87 rfl) fun _ w hn k => ⟨_, v_move rfl (k.eq1 11 97 rfl), rfl⟩) ?_
      refine .o1 (sk rfl rfl rfl (fun _ _ _ k => k.eq1 12 98 rfl) (fun _ => rfl)) ?_
      refine .o1 (sk rfl rfl rfl (fun _ _ _ k => k.eq1 12 98 rfl) (fun _ => rfl)) ?_
      refine .o1 (sk rfl rfl rfl (fun _ _ _ k => k.eq1 12 98 rfl) (fun _ => rfl)) ?_
      refine .o1 (tg rfl rfl rfl (fun _ _ k => k.eq1 1 87 rfl) fun _ w hn k => ⟨_, v_pickT rfl (k.eq1 12 98 rfl) rfl, rfl⟩) ?_
      refine .o1 (tk rfl rfl fun _ w hn k => ⟨_, v_pickT rfl (k.eq1 1 87 rfl) (k.eq1 16 102 rfl), rfl⟩) ?_
      refine .o1 (tk rfl rfl fun _ w hn k => ⟨_, v_move rfl (k.eq1 17 103 rfl), rfl⟩) ?_
      refine .o1 (tg rfl rfl rfl (fun _ _ k => k.eq1 18 104 rfl) fun _ w hn k => ⟨_, v_load rfl (k.fx 3 h270) (l_two Tryd.isAgg23 Tryd.sizeOf23 (hb275.new_ hn)), rfl⟩) ?_
      refine .o1 (tg rfl rfl rfl (fun _ _ k => k.eq1 18 104 rfl) fun _ w hn k => ⟨_, v_load rfl (k.fx 4 h271) (l_two Tryd.isAgg23 Tryd.sizeOf23 (hb276.new_ hn)), rfl⟩) ?_
      refine .o1 (cg rfl rfl rfl (fun _ _ k => k.eq1 18 104 rfl) rfl (fun _ w hn k => ⟨#[nv a, nv b], args2 (k.eq1 19 105 rfl) (k.eq1 20 106 rfl), fun _ => by kernel_rfl, less_c a b _⟩) fun _ => congrArg Value.bool ht279) ?_
      refine .o1 (tg rfl rfl rfl (fun _ _ k => k.eq1 18 104 rfl) fun _ w hn k => ⟨_, v_move rfl (k.eq1 21 107 rfl), rfl⟩) ?_
      refine .o1 (tg rfl rfl rfl (fun _ _ k => k.eq1 22 108 rfl) fun _ w hn k => ⟨_, v_load rfl (k.fx 4 h271) (l_two Tryd.isAgg23 Tryd.sizeOf23 (hb276.new_ hn)), rfl⟩) ?_
      refine .o1 (tg rfl rfl rfl (fun _ _ k => k.eq1 22 108 rfl) fun _ w hn k => ⟨_, v_load rfl (k.fx 3 h270) (l_two Tryd.isAgg23 Tryd.sizeOf23 (hb275.new_ hn)), rfl⟩) ?_
      refine .o1 (cg rfl rfl rfl (fun _ _ k => k.eq1 22 108 rfl) rfl (fun _ w hn k => ⟨#[nv b, nv a], args2 (k.eq1 23 109 rfl) (k.eq1 24 110 rfl), fun _ => by kernel_rfl, less_c b a _⟩) fun _ => congrArg Value.bool ht292) ?_
      refine .o1 (tg rfl rfl rfl (fun _ _ k => k.eq1 18 104 rfl) fun _ w hn k => ⟨_, v_pickT rfl (k.eq1 22 108 rfl) (k.eq1 25 111 rfl), rfl⟩) ?_
      refine .o1 (tg rfl rfl rfl (fun _ _ k => k.eq1 18 104 rfl) fun _ w hn k => ⟨_, v_not rfl (k.eq1 26 112 rfl), rfl⟩) ?_
      refine .o1 (tk rfl rfl fun _ w hn k => ⟨_, v_pickT rfl (k.eq1 18 104 rfl) (k.eq1 27 113 rfl), rfl⟩) ?_
      refine .o1 (tk rfl rfl fun _ w hn k => ⟨_, v_move rfl (k.eq1 28 114 rfl), rfl⟩) ?_
      refine .o1 (tg rfl rfl rfl (fun _ _ k => k.eq1 29 115 rfl) fun _ w hn k => ⟨_, v_load rfl (k.fx 3 h270) (l_two Tryd.isAgg23 Tryd.sizeOf23 (hb275.new_ hn)), rfl⟩) ?_
      refine .o1 (tg rfl rfl rfl (fun _ _ k => k.eq1 29 115 rfl) fun _ w hn k => ⟨_, v_load rfl (k.fx 4 h271) (l_two Tryd.isAgg23 Tryd.sizeOf23 (hb276.new_ hn)), rfl⟩) ?_
      refine .o1 (cg rfl rfl rfl (fun _ _ k => k.eq1 29 115 rfl) rfl (fun _ w hn k => ⟨#[nv a, nv b], args2 (k.eq1 30 116 rfl) (k.eq1 31 117 rfl), fun _ => by kernel_rfl, less_c a b _⟩) fun _ => congrArg Value.bool ht279) ?_
      refine .o1 (tg rfl rfl rfl (fun _ _ k => k.eq1 29 115 rfl) fun _ w hn k => ⟨_, v_move rfl (k.eq1 32 118 rfl), rfl⟩) ?_
      refine .o1 (tg rfl rfl rfl (fun _ _ k => k.eq1 33 119 rfl) fun _ w hn k => ⟨_, v_load rfl (k.fx 3 h270) (l_two Tryd.isAgg23 Tryd.sizeOf23 (hb275.new_ hn)), rfl⟩) ?_
      refine .o1 (tg rfl rfl rfl (fun _ _ k => k.eq1 33 119 rfl) fun _ w hn k => ⟨_, v_load rfl (k.fx 4 h271) (l_two Tryd.isAgg23 Tryd.sizeOf23 (hb276.new_ hn)), rfl⟩) ?_
      refine .o1 (cg rfl rfl rfl (fun _ _ k => k.eq1 33 119 rfl) rfl (fun _ w hn k => ⟨#[nv a, nv b], args2 (k.eq1 34 120 rfl) (k.eq1 35 121 rfl), fun _ => by kernel_rfl, equal_c a b _⟩) fun _ => congrArg Value.bool ht293) ?_
      refine .o1 (tg rfl rfl rfl (fun _ _ k => k.eq1 29 115 rfl) fun _ w hn k => ⟨_, v_pickT rfl (k.eq1 33 119 rfl) (k.eq1 36 122 rfl), rfl⟩) ?_
      refine .o1 (tg rfl rfl rfl (fun _ _ k => k.eq1 29 115 rfl) fun _ w hn k => ⟨_, v_not rfl (k.eq1 37 123 rfl), rfl⟩) ?_
      refine .o1 (tk rfl rfl fun _ w hn k => ⟨_, v_pickT rfl (k.eq1 29 115 rfl) (k.eq1 38 124 rfl), rfl⟩) ?_
      refine .o1 (tk rfl rfl fun _ w hn k => ⟨_, v_assign rfl (k.eq1 39 125 rfl), rfl⟩) ?_
      exact .nil
    intro a294 w295 hn296 ha297
    have hs298 := ha297.size.trans hs268
    have hd299 := ha297.defers.trans hd269
    have h300 := ha297.ge 40 6 rfl
    have hN301 := hN278.transNew hn296
    clear hs268 hd269 h270 h271 h272 h273 h274 hb275 hq20 hb276 hq21 hb277 hq22 hN278 ha297 hn296
    refine st_nil ?_
    refine hK _ _ ?_
    clear hK K
    refine wp_ret (ret_k hd299 (v := .bool true) (res_t rfl h300 _) ?_)
    exact ⟨rfl, hN301⟩
  refine wp_g0 [true, true, true, true, true, true, true, true, true, true, true, true, true, true, true, true, true, true, true, true, true, true, true, true, true, true, true, true, true, true, true, true, true, true, true, true, true, true, true, true, true] [] 126
    [ve (.bool true),
     ve (.bool true),
     ve (nv a),
     ve (nv b),
     ve (.bool false),
     ve (.bool true),
     ve (.bool true),
     ve undef,
     ve undef,
     ve undef,
     ve undef,
     ve (.bool true),
     ve (.bool true),
     ve undef,
     ve undef,
     ve undef,
     ve (.bool true),
     ve (.bool true),
     ve (.bool true),
     ve (nv a),
     ve (nv b),
     ve (.bool false),
     ve (.bool false),
     ve undef,
     ve undef,
     ve undef,
     ve (.bool false),
     ve (.bool true),
     ve (.bool true),
     ve (.bool true),
     ve (nv a),
     ve (nv b),
     ve (.bool false),
     ve (.bool false),
     ve undef,
     ve undef,
     ve undef,
     ve (.bool false),
     ve (.bool true),
     ve (.bool true),
     ve (.bool true)] hs268 (.eq (.eq (.eq (.eq (.eq (.eq (.eq (.eq (.eq (.eq (.eq (.eq (.eq (.eq (.eq (.eq (.eq (.eq (.eq (.eq (.eq (.eq (.eq (.eq (.eq (.eq (.eq (.eq (.eq (.eq (.eq (.eq (.eq (.eq (.eq (.eq (.eq (.eq (.eq (.eq (.eq (.nil)))))))))))))))))))))))))))))))))))))))))) ?_ ?_
  · skip
    refine .o1 (ck rfl rfl rfl (fun _ w hn k => ⟨#[], rfl, fun _ => by kernel_rfl, first_c  _⟩) fun _ => rfl) ?_
    refine .o1 (tk rfl rfl fun _ w hn k => ⟨_, v_move rfl (k.eq1 0 86 rfl), rfl⟩) ?_
    refine .o1 (tg rfl rfl rfl (fun _ _ k => k.eq1 1 87 rfl) fun _ w hn k => ⟨_, v_load rfl (k.fx 3 h270) (l_two Tryd.isAgg23 Tryd.sizeOf23 (hb275.new_ hn)), rfl⟩) ?_
    refine .o1 (tg rfl rfl rfl (fun _ _ k => k.eq1 1 87 rfl) fun _ w hn k => ⟨_, v_load rfl (k.fx 4 h271) (l_two Tryd.isAgg23 Tryd.sizeOf23 (hb276.new_ hn)), rfl⟩) ?_
    refine .o1 (cg rfl rfl rfl (fun _ _ k => k.eq1 1 87 rfl) rfl (fun _ w hn k => ⟨#[nv a, nv b], args2 (k.eq1 2 88 rfl) (k.eq1 3 89 rfl), fun _ => by kernel_rfl, less_c a b _⟩) fun _ => congrArg Value.bool ht279) ?_
    refine .o1 (tg rfl rfl rfl (fun _ _ k => k.eq1 1 87 rfl) fun _ w hn k => ⟨_, v_not rfl (k.eq1 4 90 rfl), rfl⟩) ?_
    refine .o1 (tg rfl rfl rfl (fun _ _ k => k.eq1 1 87 rfl) fun _ w hn k => ⟨_, v_move rfl (k.eq1 5 91 rfl), rfl⟩) ?_
    refine .o1 (sk rfl rfl rfl (fun _ _ _ k => k.eq1 6 92 rfl) (fun _ => rfl)) ?_
    refine .o1 (sk rfl rfl rfl (fun _ _ _ k => k.eq1 6 92 rfl) (fun _ => rfl)) ?_
    refine .o1 (sk rfl rfl rfl (fun _ _ _ k => k.eq1 6 92 rfl) (fun _ => rfl)) ?_
    refine .o1 (sk rfl rfl rfl (fun _ _ _ k => k.eq1 6 92 rfl) (fun _ => rfl)) ?_
    refine .o1 (tg rfl rfl rfl (fun _ _ k => k.eq1 1 87 rfl) fun _ w hn k => ⟨_, v_pickT rfl (k.eq1 6 92 rfl) rfl, rfl⟩) ?_
    refine .o1 (tg rfl rfl rfl (fun _ _ k => k.eq1 1 87 rfl) fun _ w hn k => ⟨_, v_move rfl (k.eq1 11 97 rfl), rfl⟩) ?_
    refine .o1 (sk rfl rfl rfl (fun _ _ _ k => k.eq1 12 98 rfl) (fun _ => rfl)) ?_
    refine .o1 (sk rfl rfl rfl (fun _ _ _ k => k.eq1 12 98 rfl) (fun _ => rfl)) ?_
    refine .o1 (sk rfl rfl rfl (fun _ _ _ k => k.eq1 12 98 rfl) (fun _ => rfl)) ?_
    refine .o1 (tg rfl rfl rfl (fun _ _ k => k.eq1 1 87 rfl) fun _ w hn k => ⟨_, v_pickT rfl (k.eq1 12 98 rfl) rfl, rfl⟩) ?_
    refine .o1 (tk rfl rfl fun _ w hn k => ⟨_, v_pickT rfl (k.eq1 1 87 rfl) (k.eq1 16 102 rfl), rfl⟩) ?_
    refine .o1 (tk rfl rfl fun _ w hn k => ⟨_, v_move rfl (k.eq1 17 103 rfl), rfl⟩) ?_
    refine .o1 (tg rfl rfl rfl (fun _ _ k => k.eq1 18 104 rfl) fun _ w hn k => ⟨_, v_load rfl (k.fx 3 h270) (l_two Tryd.isAgg23 Tryd.sizeOf23 (hb275.new_ hn)), rfl⟩) ?_
    refine .o1 (tg rfl rfl rfl (fun _ _ k => k.eq1 18 104 rfl) fun _ w hn k => ⟨_, v_load rfl (k.fx 4 h271) (l_two Tryd.isAgg23 Tryd.sizeOf23 (hb276.new_ hn)), rfl⟩) ?_
    refine .o1 (cg rfl rfl rfl (fun _ _ k => k.eq1 18 104 rfl) rfl (fun _ w hn k => ⟨#[nv a, nv b], args2 (k.eq1 19 105 rfl) (k.eq1 20 106 rfl), fun _ => by kernel_rfl, less_c a b _⟩) fun _ => congrArg Value.bool ht279) ?_
    refine .o1 (tg rfl rfl rfl (fun _ _ k => k.eq1 18 104 rfl) fun _ w hn k => ⟨_, v_move rfl (k.eq1 21 107 rfl), rfl⟩) ?_
    refine .o1 (sk rfl rfl rfl (fun _ _ _ k => k.eq1 22 108 rfl) (fun _ => rfl)) ?_
    refine .o1 (sk rfl rfl rfl (fun _ _ _ k => k.eq1 22 108 rfl) (fun _ => rfl)) ?_
    refine .o1 (sk rfl rfl rfl (fun _ _ _ k => k.eq1 22 108 rfl) (fun _ => rfl)) ?_
    refine .o1 (tg rfl rfl rfl (fun _ _ k => k.eq1 18 104 rfl) fun _ w hn k => ⟨_, v_pickF rfl (k.eq1 22 108 rfl) rfl, rfl⟩) ?_
    refine .o1 (tg rfl rfl rfl (fun _ _ k => k.eq1 18 104 rfl) fun _ w hn k => ⟨_, v_not rfl (k.eq1 26 112 rfl), rfl⟩) ?_
    refine .o1 (tk rfl rfl fun _ w hn k => ⟨_, v_pickT rfl (k.eq1 18 104 rfl) (k.eq1 27 113 rfl), rfl⟩) ?_
    refine .o1 (tk rfl rfl fun _ w hn k => ⟨_, v_move rfl (k.eq1 28 114 rfl), rfl⟩) ?_
    refine .o1 (tg rfl rfl rfl (fun _ _ k => k.eq1 29 115 rfl) fun _ w hn k => ⟨_, v_load rfl (k.fx 3 h270) (l_two Tryd.isAgg23 Tryd.sizeOf23 (hb275.new_ hn)), rfl⟩) ?_
    refine .o1 (tg rfl rfl rfl (fun _ _ k => k.eq1 29 115 rfl) fun _ w hn k => ⟨_, v_load rfl (k.fx 4 h271) (l_two Tryd.isAgg23 Tryd.sizeOf23 (hb276.new_ hn)), rfl⟩) ?_
    refine .o1 (cg rfl rfl rfl (fun _ _ k => k.eq1 29 115 rfl) rfl (fun _ w hn k => ⟨#[nv a, nv b], args2 (k.eq1 30 116 rfl) (k.eq1 31 117 rfl), fun _ => by kernel_rfl, less_c a b _⟩) fun _ => congrArg Value.bool ht279) ?_
    refine .o1 (tg rfl rfl rfl (fun _ _ k => k.eq1 29 115 rfl) fun _ w hn k => ⟨_, v_move rfl (k.eq1 32 118 rfl), rfl⟩) ?_
    refine .o1 (sk rfl rfl rfl (fun _ _ _ k => k.eq1 33 119 rfl) (fun _ => rfl)) ?_
    refine .o1 (sk rfl rfl rfl (fun _ _ _ k => k.eq1 33 119 rfl) (fun _ => rfl)) ?_
    refine .o1 (sk rfl rfl rfl (fun _ _ _ k => k.eq1 33 119 rfl) (fun _ => rfl)) ?_
    refine .o1 (tg rfl rfl rfl (fun _ _ k => k.eq1 29 115 rfl) fun _ w hn k => ⟨_, v_pickF rfl (k.eq1 33 119 rfl) rfl, rfl⟩) ?_
    refine .o1 (tg rfl rfl rfl (fun _ _ k => k.eq1 29 115 rfl) fun _ w hn k => ⟨_, v_not rfl (k.eq1 37 123 rfl), rfl⟩) ?_
    refine .o1 (tk rfl rfl fun _ w hn k => ⟨_, v_pickT rfl (k.eq1 29 115 rfl) (k.eq1 38 124 rfl), rfl⟩) ?_
    refine .o1 (tk rfl rfl fun _ w hn k => ⟨_, v_assign rfl (k.eq1 39 125 rfl), rfl⟩) ?_
    exact .nil
  intro a302 w303 hn304 ha305
  have hs306 := ha305.size.trans hs268
  have hd307 := ha305.defers.trans hd269
  have h308 := ha305.ge 40 6 rfl
  have hN309 := hN278.transNew hn304
  clear hs268 hd269 h270 h271 h272 h273 h274 hb275 hq20 hb276 hq21 hb277 hq22 hN278 ha305 hn304
  refine st_nil ?_
  refine hK _ _ ?_
  clear hK K
  refine wp_ret (ret_k hd307 (v := .bool true) (res_t rfl h308 _) ?_)
  exact ⟨rfl, hN309⟩
set_option maxHeartbeats 8000000 in
set_option maxRecDepth 100000 in
theorem rests_walk1 (a : Nm) (b : Nm) (c : Nm) (w : World) (hy0 : mayB a = true) (hy1 : mayB b = false) : Calls Tryd.prog 9 #[nv a, nv b, nv c] w (IsRet (.bool true) w) := by
  refine enter_abs Tryd.func9 rfl fun a0 hs0 hd0 hp => ?_
  have hs0 : a0.tmps.size = 126 := hs0
  have hN0 : New w w := Upd.refl _ _
  have hp0 : a0.eval (.tmp 0) = nv a := hp 0 _ rfl
  have hp1 : a0.eval (.tmp 1) = nv b := hp 1 _ rfl
  have hp2 : a0.eval (.tmp 2) = nv c := hp 2 _ rfl
  clear hp
  refine wp_seq_k fun K hK => ?_
  refine wp_g [true, true, true, true] [] [] 126
    [IsNew w 23 [iv a.k, iv a.n],
     IsNew w 23 [iv b.k, iv b.n],
     IsNew w 23 [iv c.k, iv c.n],
     ve (.bool false)]
    [0, 1, 2] (newsCons (fun v w h => IsNew.old h) (newsCons (fun v w h => IsNew.old h) (newsCons (fun v w h => IsNew.old h) newsNil))) hs0 (.nw (.nw (.nw (.eq (.nil))))) ?_ (fun i h => by cases h) ?_
  · skip
    refine .o2 (step_allocN (cs := [iv a.k, iv a.n]) (t := 23) rfl (noG rfl) (fun _ w hn k => v_box rfl (k.fx 0 hp0) (fun w => rfl)) (fun q _ hq hb => ⟨q, rfl, hq, hb⟩)) ?_
    refine .o2 (step_allocN (cs := [iv b.k, iv b.n]) (t := 23) rfl (noG rfl) (fun _ w hn k => v_box rfl (k.fx 1 hp1) (fun w => rfl)) (fun q _ hq hb => ⟨q, rfl, hq, hb⟩)) ?_
    refine .o2 (step_allocN (cs := [iv c.k, iv c.n]) (t := 23) rfl (noG rfl) (fun _ w hn k => v_box rfl (k.fx 2 hp2) (fun w => rfl)) (fun q _ hq hb => ⟨q, rfl, hq, hb⟩)) ?_
    refine .o1 (tk rfl rfl fun _ w hn k => ⟨_, v_assign rfl rfl, rfl⟩) ?_
    exact .nil
  intro a1 w2 hn3 ha4
  have hs5 := ha4.size.trans hs0
  have hd6 := ha4.defers.trans hd0
  obtain ⟨q8, h7, hq9, hb10⟩ : IsNew _ _ _ _ _ := ha4.got 0 3 rfl (by kernel_rfl)
  obtain ⟨q12, h11, hq13, hb14⟩ : IsNew _ _ _ _ _ := ha4.got 1 4 rfl (by kernel_rfl)
  obtain ⟨q16, h15, hq17, hb18⟩ : IsNew _ _ _ _ _ := ha4.got 2 5 rfl (by kernel_rfl)
  have h19 := ha4.ge 3 6 rfl
  have hq20 := Nat.le_trans hN0.size hq9
  have hq21 := Nat.le_trans hN0.size hq13
  have hq22 := Nat.le_trans hN0.size hq17
  have hN23 := hN0.transNew hn3
  clear hs0 hd0 hp0 hp1 hp2 hq9 hq13 hq17 hN0 ha4 hn3
  refine st_nil ?_
  refine hK _ _ ?_
  clear hK K
  refine wp_seq_k fun K hK => ?_
  refine wp_seq_k fun K hK => ?_
  refine wp_g0 [true, true] [] 126
    [ve (.bool true),
     ve (.bool false)] hs5 (.eq (.eq (.nil))) ?_ ?_
  · skip
    refine .o1 (ck rfl rfl rfl (fun _ w hn k => ⟨#[], rfl, fun _ => by kernel_rfl, first_c  _⟩) fun _ => rfl) ?_
    refine .o1 (tk rfl rfl fun _ w hn k => ⟨_, v_not rfl (k.eq1 0 13 rfl), rfl⟩) ?_
    exact .nil
  intro a24 w25 hn26 ha27
  have hs28 := ha27.size.trans hs5
  have hd29 := ha27.defers.trans hd6
  have h30 := ha27.fx 3 h7
  have h31 := ha27.fx 4 h11
  have h32 := ha27.fx 5 h15
  have h33 := ha27.fx 6 h19
  have h34 := ha27.ge 1 14 rfl
  have hb35 := hb10.new_ hn26
  have hb36 := hb14.new_ hn26
  have hb37 := hb18.new_ hn26
  have hN38 := hN23.transNew hn26
  clear hs5 hd6 h7 h11 h15 h19 hb10 hb14 hb18 hN23 ha27 hn26
  refine st_nil ?_
  refine hK _ _ ?_
  clear hK K
  refine wp_cond_false h34 ?_
  refine wp_skip ?_
  refine hK _ _ ?_
  clear hK K
  refine wp_seq_k fun K hK => ?_
  refine wp_g [true, true, true, true, true, true, true, false, false] [5] [(7, false), (8, true)] 126
    [ve (nv a),
     ve (nv b),
     ve (.tuple #[nv ((divM a b).1), .bool ((divM a b).2)]),
     ve (.tuple #[nv ((divM a b).1), .bool ((divM a b).2)]),
     ve (nv ((divM a b).1)),
     ve (.bool ((divM a b).2)),
     IsNew w25 23 [iv 0, iv 0],
     vt,
     vt]
    [6] (newsCons (fun v w h => IsNew.old h) newsNil) hs28 (.eq (.eq (.eq (.eq (.eq (.eq (.nw (.tt (.tt (.nil)))))))))) ?_ ?_ ?_
  · skip
    refine .o1 (tk rfl rfl fun _ w hn k => ⟨_, v_load rfl (k.fx 3 h30) (l_two Tryd.isAgg23 Tryd.sizeOf23 (hb35.new_ hn)), rfl⟩) ?_
    refine .o1 (tk rfl rfl fun _ w hn k => ⟨_, v_load rfl (k.fx 4 h31) (l_two Tryd.isAgg23 Tryd.sizeOf23 (hb36.new_ hn)), rfl⟩) ?_
    refine .o1 (ck rfl rfl rfl (fun _ w hn k => ⟨#[nv a, nv b], args2 (k.eq1 0 16 rfl) (k.eq1 1 17 rfl), fun _ => by kernel_rfl, div_c a b _⟩) fun _ => rfl) ?_
    refine .o1 (tk rfl rfl fun _ w hn k => ⟨_, v_move rfl (k.eq1 2 18 rfl), rfl⟩) ?_
    refine .o1 (tk rfl rfl fun _ w hn k => ⟨_, v_extract rfl (k.eq1 3 15 rfl) rfl, rfl⟩) ?_
    refine .o3 ?_
    refine .o2 (step_allocN (cs := [iv 0, iv 0]) (t := 23) rfl (noG rfl) (fun _ w hn k => rfl) (fun q _ hq hb => ⟨q, rfl, hq, hb⟩)) ?_
    refine .off ?_
    refine .off ?_
    exact .nil
  · skip
    intro i h
    simp only [List.contains_eq_mem, List.mem_cons, List.not_mem_nil, or_false, decide_eq_true_eq] at h
    subst h
    · exact eager_take rfl rfl fun _ w hn k => ⟨.bool ((divM a b).2), fun w => v_extract rfl (k.eq1 3 15 rfl) rfl, rfl⟩
  intro a39 w40 hn41 ha42
  have hs43 := ha42.size.trans hs28
  have hd44 := ha42.defers.trans hd29
  have h45 := ha42.fx 3 h30
  have h46 := ha42.fx 4 h31
  have h47 := ha42.fx 5 h32
  have h48 := ha42.fx 6 h33
  have h49 := ha42.ge 4 19 rfl
  have h50 := ha42.ge 5 20 rfl
  obtain ⟨q52, h51, hq53, hb54⟩ : IsNew _ _ _ _ _ := ha42.got 6 7 rfl (by kernel_rfl)
  have hb55 := hb35.new_ hn41
  have hb56 := hb36.new_ hn41
  have hb57 := hb37.new_ hn41
  have hne58 : q8 ≠ q52 := by have h1 := hb35.lt; have h2 := hq53; omega
  have hne59 : q12 ≠ q52 := by have h1 := hb36.lt; have h2 := hq53; omega
  have hne60 : q16 ≠ q52 := by have h1 := hb37.lt; have h2 := hq53; omega
  have hq61 := Nat.le_trans hN38.size hq53
  have hN62 := hN38.transNew hn41
  clear hs28 hd29 h30 h31 h32 h33 h34 hb35 hb36 hb37 hq53 hN38 ha42 hn41
  obtain ⟨w63, -, hst64, hb65, hu66, hf67⟩ := s_two (v0 := iv ((divM a b).1.k)) (v1 := iv ((divM a b).1.n)) Tryd.sizeOf23 rfl rfl rfl hb54
  refine st_act rfl rfl fun K68 hL69 => a_store' rfl h51 h49 hst64 (hL69 _ _ trivial ?_)
  have hb70 := hf67 _ _ _ (hne58) hb55
  have hb71 := hf67 _ _ _ (hne59) hb56
  have hb72 := hf67 _ _ _ (hne60) hb57
  have hN73 := hN62.trans hu66 (fun k hk hkb => by subst hkb; omega)
  clear hb54 hst64 K68 hL69 hN62 hb55 hb56 hb57 hu66 hf67
  refine st_take rfl rfl (y_assign (v := .bool ((divM a b).2)) rfl h50) rfl ?_
  obtain ⟨a74, ha75⟩ : ∃ a', a' = a39.put (some 8) (.bool ((divM a b).2)) := ⟨_, rfl⟩
  have hs76 : a74.tmps.size = 126 := by rw [ha75, put_size]; exact hs43
  have hd77 : a74.defers = [] := by rw [ha75, put_defers]; exact hd44
  have h78 : a74.eval (.tmp 3) = pv q8 := by rw [ha75, put_ne _ _ _ _ (by decide)]; exact h45
  have h79 : a74.eval (.tmp 4) = pv q12 := by rw [ha75, put_ne _ _ _ _ (by decide)]; exact h46
  have h80 : a74.eval (.tmp 5) = pv q16 := by rw [ha75, put_ne _ _ _ _ (by decide)]; exact h47
  have h81 : a74.eval (.tmp 6) = .bool false := by rw [ha75, put_ne _ _ _ _ (by decide)]; exact h48
  have h82 : a74.eval (.tmp 19) = nv ((divM a b).1) := by rw [ha75, put_ne _ _ _ _ (by decide)]; exact h49
  have h83 : a74.eval (.tmp 20) = .bool ((divM a b).2) := by rw [ha75, put_ne _ _ _ _ (by decide)]; exact h50
  have h84 : a74.eval (.tmp 7) = pv q52 := by rw [ha75, put_ne _ _ _ _ (by decide)]; exact h51
  have h85 : a74.eval (.tmp 8) = .bool ((divM a b).2) := by rw [ha75]; exact put_same _ _ _ (by rw [hs43]; decide)
  show stepsTo _ _ _ _ _ (a39.put (some 8) (.bool ((divM a b).2))) _
  rw [← ha75]
  clear ha75 hs43 hd44 h45 h46 h47 h48 h49 h50 h51
  clear hne58
  clear hne59
  clear hne60
  refine st_nil ?_
  clear h82 h83
  refine hK _ _ ?_
  clear hK K
  refine wp_seq_k fun K hK => ?_
  have ht86 : (mayB a) = true := hy0
  have ht87 : (mayB b) = false := hy1
  refine wp_g0 [true, true, true, true, true, true, true, true, true, true, true, true, true, true, true, true, true, true, true, true, true, true] [] 126
    [ve (nv a),
     ve (.bool true),
     ve (.bool true),
     ve (nv b),
     ve (.bool false),
     ve (.bool false),
     ve (.bool false),
     ve undef,
     ve undef,
     ve undef,
     ve (.bool false),
     ve (.bool false),
     ve undef,
     ve undef,
     ve undef,
     ve (.bool false),
     ve (.bool false),
     ve undef,
     ve undef,
     ve undef,
     ve (.bool false),
     ve (.bool false)] hs76 (.eq (.eq (.eq (.eq (.eq (.eq (.eq (.eq (.eq (.eq (.eq (.eq (.eq (.eq (.eq (.eq (.eq (.eq (.eq (.eq (.eq (.eq (.nil))))))))))))))))))))))) ?_ ?_
  · skip
    refine .o1 (tk rfl rfl fun _ w hn k => ⟨_, v_load rfl (k.fx 3 h78) (l_two Tryd.isAgg23 Tryd.sizeOf23 (hb70.new_ hn)), rfl⟩) ?_
    refine .o1 (ck rfl rfl rfl (fun _ w hn k => ⟨#[nv a], args1 (k.eq1 0 21 rfl), fun _ => by kernel_rfl, may_c a _⟩) fun _ => congrArg Value.bool ht86) ?_
    refine .o1 (tk rfl rfl fun _ w hn k => ⟨_, v_move rfl (k.eq1 1 22 rfl), rfl⟩) ?_
    refine .o1 (tg rfl rfl rfl (fun _ _ k => k.eq1 2 23 rfl) fun _ w hn k => ⟨_, v_load rfl (k.fx 4 h79) (l_two Tryd.isAgg23 Tryd.sizeOf23 (hb71.new_ hn)), rfl⟩) ?_
    refine .o1 (cg rfl rfl rfl (fun _ _ k => k.eq1 2 23 rfl) rfl (fun _ w hn k => ⟨#[nv b], args1 (k.eq1 3 24 rfl), fun _ => by kernel_rfl, may_c b _⟩) fun _ => congrArg Value.bool ht87) ?_
    refine .o1 (tk rfl rfl fun _ w hn k => ⟨_, v_pickT rfl (k.eq1 2 23 rfl) (k.eq1 4 25 rfl), rfl⟩) ?_
    refine .o1 (tk rfl rfl fun _ w hn k => ⟨_, v_move rfl (k.eq1 5 26 rfl), rfl⟩) ?_
    refine .o1 (sk rfl rfl rfl (fun _ _ _ k => k.eq1 6 27 rfl) (fun _ => rfl)) ?_
    refine .o1 (sk rfl rfl rfl (fun _ _ _ k => k.eq1 6 27 rfl) (fun _ => rfl)) ?_
    refine .o1 (sk rfl rfl rfl (fun _ _ _ k => k.eq1 6 27 rfl) (fun _ => rfl)) ?_
    refine .o1 (tk rfl rfl fun _ w hn k => ⟨_, v_pickF rfl (k.eq1 6 27 rfl) rfl, rfl⟩) ?_
    refine .o1 (tk rfl rfl fun _ w hn k => ⟨_, v_move rfl (k.eq1 10 31 rfl), rfl⟩) ?_
    refine .o1 (sk rfl rfl rfl (fun _ _ _ k => k.eq1 11 32 rfl) (fun _ => rfl)) ?_
    refine .o1 (sk rfl rfl rfl (fun _ _ _ k => k.eq1 11 32 rfl) (fun _ => rfl)) ?_
    refine .o1 (sk rfl rfl rfl (fun _ _ _ k => k.eq1 11 32 rfl) (fun _ => rfl)) ?_
    refine .o1 (tk rfl rfl fun _ w hn k => ⟨_, v_pickF rfl (k.eq1 11 32 rfl) rfl, rfl⟩) ?_
    refine .o1 (tk rfl rfl fun _ w hn k => ⟨_, v_move rfl (k.eq1 15 36 rfl), rfl⟩) ?_
    refine .o1 (sk rfl rfl rfl (fun _ _ _ k => k.eq1 16 37 rfl) (fun _ => rfl)) ?_
    refine .o1 (sk rfl rfl rfl (fun _ _ _ k => k.eq1 16 37 rfl) (fun _ => rfl)) ?_
    refine .o1 (sk rfl rfl rfl (fun _ _ _ k => k.eq1 16 37 rfl) (fun _ => rfl)) ?_
    refine .o1 (tk rfl rfl fun _ w hn k => ⟨_, v_pickF rfl (k.eq1 16 37 rfl) rfl, rfl⟩) ?_
    refine .o1 (tk rfl rfl fun _ w hn k => ⟨_, v_assign rfl (k.eq1 20 41 rfl), rfl⟩) ?_
    exact .nil
  intro a88 w89 hn90 ha91
  have hs92 := ha91.size.trans hs76
  have hd93 := ha91.defers.trans hd77
  have h94 := ha91.fx 3 h78
  have h95 := ha91.fx 4 h79
  have h96 := ha91.fx 5 h80
  have h97 := ha91.fx 6 h81
  have h98 := ha91.fx 7 h84
  have h99 := ha91.fx 8 h85
  have h100 := ha91.ge 21 9 rfl
  have hb101 := hb70.new_ hn90
  have hb102 := hb71.new_ hn90
  have hb103 := hb72.new_ hn90
  have hb104 := hb65.new_ hn90
  have hN105 := hN73.transNew hn90
  clear hs76 hd77 h78 h79 h80 h81 h84 h85 hb70 hb71 hb72 hb65 hN73 ha91 hn90
  refine st_nil ?_
  refine hK _ _ ?_
  clear hK K
  refine wp_seq_k fun K hK => ?_
  refine wp_seq_k fun K hK => ?_
  rcases Bool.eq_false_or_eq_true ((divM a b).2) with ht106 | ht106
  · skip
    have hv107 : a88.eval (.tmp 8) = .bool true := h99.trans (congrArg Value.bool ht106)
    clear h99
    refine wp_g0 [true, true, true, true] [] 126
      [ve (.bool true),
       ve (.bool true),
       ve (.bool false),
       ve (.bool false)] hs92 (.eq (.eq (.eq (.eq (.nil))))) ?_ ?_
    · skip
      refine .o1 (tk rfl rfl fun _ w hn k => ⟨_, v_move rfl (k.fx 8 hv107), rfl⟩) ?_
      refine .o1 (tk rfl rfl fun _ w hn k => ⟨_, v_move rfl (k.eq1 0 42 rfl), rfl⟩) ?_
      refine .o1 (tg rfl rfl rfl (fun _ _ k => k.eq1 1 43 rfl) fun _ w hn k => ⟨_, v_move rfl (k.fx 9 h100), rfl⟩) ?_
      refine .o1 (tk rfl rfl fun _ w hn k => ⟨_, v_pickT rfl (k.eq1 1 43 rfl) (k.eq1 2 44 rfl), rfl⟩) ?_
      exact .nil
    intro a108 w109 hn110 ha111
    have hs112 := ha111.size.trans hs92
    have hd113 := ha111.defers.trans hd93
    have h114 := ha111.fx 3 h94
    have h115 := ha111.fx 4 h95
    have h116 := ha111.fx 5 h96
    have h117 := ha111.fx 6 h97
    have h118 := ha111.fx 7 h98
    have h119 := ha111.fx 8 hv107
    have h120 := ha111.fx 9 h100
    have h121 := ha111.ge 3 45 rfl
    have hb122 := hb101.new_ hn110
    have hb123 := hb102.new_ hn110
    have hb124 := hb103.new_ hn110
    have hb125 := hb104.new_ hn110
    have hN126 := hN105.transNew hn110
    clear hs92 hd93 h94 h95 h96 h97 h98 hv107 h100 hb101 hb102 hb103 hb104 hN105 ha111 hn110
    refine st_nil ?_
    refine hK _ _ ?_
    clear hK K
    refine wp_cond_false h121 ?_
    refine wp_skip ?_
    refine hK _ _ ?_
    clear hK K
    refine wp_seq_k fun K hK => ?_
    refine wp_g [true, true, true, true, false] [] [(4, false)] 126
      [ve (nv a),
       ve (nv b),
       ve (nv (remM a b)),
       IsNew w109 23 [iv 0, iv 0],
       vt]
      [3] (newsCons (fun v w h => IsNew.old h) newsNil) hs112 (.eq (.eq (.eq (.nw (.tt (.nil)))))) ?_ (fun i h => by cases h) ?_
    · skip
      refine .o1 (tk rfl rfl fun _ w hn k => ⟨_, v_load rfl (k.fx 3 h114) (l_two Tryd.isAgg23 Tryd.sizeOf23 (hb122.new_ hn)), rfl⟩) ?_
      refine .o1 (tk rfl rfl fun _ w hn k => ⟨_, v_load rfl (k.fx 4 h115) (l_two Tryd.isAgg23 Tryd.sizeOf23 (hb123.new_ hn)), rfl⟩) ?_
      refine .o1 (ck rfl rfl rfl (fun _ w hn k => ⟨#[nv a, nv b], args2 (k.eq1 0 60 rfl) (k.eq1 1 61 rfl), fun _ => by kernel_rfl, rem_c a b _⟩) fun _ => rfl) ?_
      refine .o2 (step_allocN (cs := [iv 0, iv 0]) (t := 23) rfl (noG rfl) (fun _ w hn k => rfl) (fun q _ hq hb => ⟨q, rfl, hq, hb⟩)) ?_
      refine .off ?_
      exact .nil
    intro a127 w128 hn129 ha130
    have hs131 := ha130.size.trans hs112
    have hd132 := ha130.defers.trans hd113
    have h133 := ha130.fx 3 h114
    have h134 := ha130.fx 4 h115
    have h135 := ha130.fx 5 h116
    have h136 := ha130.fx 6 h117
    have h137 := ha130.fx 8 h119
    have h138 := ha130.fx 9 h120
    have h139 := ha130.ge 2 62 rfl
    obtain ⟨q141, h140, hq142, hb143⟩ : IsNew _ _ _ _ _ := ha130.got 3 12 rfl (by kernel_rfl)
    have hb144 := hb122.new_ hn129
    have hb145 := hb123.new_ hn129
    have hb146 := hb124.new_ hn129
    have hne147 : q8 ≠ q141 := by have h1 := hb122.lt; have h2 := hq142; omega
    have hne148 : q12 ≠ q141 := by have h1 := hb123.lt; have h2 := hq142; omega
    have hne149 : q16 ≠ q141 := by have h1 := hb124.lt; have h2 := hq142; omega
    have hq150 := Nat.le_trans hN126.size hq142
    have hN151 := hN126.transNew hn129
    clear hs112 hd113 h114 h115 h116 h117 h118 h119 h120 h121 hb122 hb123 hb124 hb125 hq61 hq142 hN126 ha130 hn129
    obtain ⟨w152, -, hst153, hb154, hu155, hf156⟩ := s_two (v0 := iv ((remM a b).k)) (v1 := iv ((remM a b).n)) Tryd.sizeOf23 rfl rfl rfl hb143
    refine st_act rfl rfl fun K157 hL158 => a_store' rfl h140 h139 hst153 (hL158 _ _ trivial ?_)
    have hb159 := hf156 _ _ _ (hne147) hb144
    have hb160 := hf156 _ _ _ (hne148) hb145
    have hb161 := hf156 _ _ _ (hne149) hb146
    have hN162 := hN151.trans hu155 (fun k hk hkb => by subst hkb; omega)
    clear hb143 hst153 K157 hL158 hN151 hb144 hb145 hb146 hu155 hf156
    clear hne147
    clear hne148
    clear hne149
    refine st_nil ?_
    clear h139
    refine hK _ _ ?_
    clear hK K
    refine wp_seq_k fun K hK => ?_
    refine wp_seq_k fun K hK => ?_
    refine wp_g0 [true, true, true, true, true, true, true, true, true, true, true, true, true, true, true, true, true, true, true, true, true, true, true] [] 126
      [ve (.bool false),
       ve (.bool false),
       ve undef,
       ve undef,
       ve undef,
       ve undef,
       ve undef,
       ve undef,
       ve undef,
       ve undef,
       ve undef,
       ve undef,
       ve undef,
       ve undef,
       ve undef,
       ve undef,
       ve undef,
       ve undef,
       ve undef,
       ve undef,
       ve undef,
       ve undef,
       ve (.bool false)] hs131 (.eq (.eq (.eq (.eq (.eq (.eq (.eq (.eq (.eq (.eq (.eq (.eq (.eq (.eq (.eq (.eq (.eq (.eq (.eq (.eq (.eq (.eq (.eq (.nil)))))))))))))))))))))))) ?_ ?_
    · skip
      refine .o1 (tk rfl rfl fun _ w hn k => ⟨_, v_move rfl (k.fx 9 h138), rfl⟩) ?_
      refine .o1 (tk rfl rfl fun _ w hn k => ⟨_, v_move rfl (k.eq1 0 63 rfl), rfl⟩) ?_
      refine .o1 (sk rfl rfl rfl (fun _ _ _ k => k.eq1 1 64 rfl) (fun _ => rfl)) ?_
      refine .o1 (sk rfl rfl rfl (fun _ _ _ k => k.eq1 1 64 rfl) (fun _ => rfl)) ?_
      refine .o1 (sk rfl rfl rfl (fun _ _ _ k => k.eq1 1 64 rfl) (fun _ => rfl)) ?_
      refine .o1 (sk rfl rfl rfl (fun _ _ _ k => k.eq1 1 64 rfl) (fun _ => rfl)) ?_
      refine .o1 (sk rfl rfl rfl (fun _ _ _ k => k.eq1 1 64 rfl) (fun _ => rfl)) ?_
      refine .o1 (sk rfl rfl rfl (fun _ _ _ k => k.eq1 1 64 rfl) (fun _ => rfl)) ?_
      refine .o1 (sk rfl rfl rfl (fun _ _ _ k => k.eq1 1 64 rfl) (fun _ => rfl)) ?_
      refine .o1 (sk rfl rfl rfl (fun _ _ _ k => k.eq1 1 64 rfl) (fun _ => rfl)) ?_
      refine .o1 (sk rfl rfl rfl (fun _ _ _ k => k.eq1 1 64 rfl) (fun _ => rfl)) ?_
      refine .o1 (sk rfl rfl rfl (fun _ _ _ k => k.eq1 1 64 rfl) (fun _ => rfl)) ?_
      refine .o1 (sk rfl rfl rfl (fun _ _ _ k => k.eq1 1 64 rfl) (fun _ => rfl)) ?_
      refine .o1 (sk rfl rfl rfl (fun _ _ _ k => k.eq1 1 64 rfl) (fun _ => rfl)) ?_
      refine .o1 (sk rfl rfl rfl (fun _ _ _ k => k.eq1 1 64 rfl) (fun _ => rfl)) ?_
      refine .o1 (sk rfl rfl rfl (fun _ _ _ k => k.eq1 1 64 rfl) (fun _ => rfl)) ?_
      refine .o1 (su rfl rfl rfl (fun _ _ _ k => k.eq1 15 78 rfl) (fun _ => rfl)) ?_
      refine .o1 (su rfl rfl rfl (fun _ _ _ k => k.eq1 15 78 rfl) (fun _ => rfl)) ?_
      refine .o1 (su rfl rfl rfl (fun _ _ _ k => k.eq1 15 78 rfl) (fun _ => rfl)) ?_
      refine .o1 (su rfl rfl rfl (fun _ _ _ k => k.eq1 15 78 rfl) (fun _ => rfl)) ?_
      refine .o1 (su rfl rfl rfl (fun _ _ _ k => k.eq1 15 78 rfl) (fun _ => rfl)) ?_
      refine .o1 (sk rfl rfl rfl (fun _ _ _ k => k.eq1 1 64 rfl) (fun _ => rfl)) ?_
      refine .o1 (tk rfl rfl fun _ w hn k => ⟨_, v_pickF rfl (k.eq1 1 64 rfl) rfl, rfl⟩) ?_
      exact .nil
    intro a163 w164 hn165 ha166
    have hs167 := ha166.size.trans hs131
    have hd168 := ha166.defers.trans hd132
    have h169 := ha166.fx 3 h133
    have h170 := ha166.fx 4 h134
    have h171 := ha166.fx 5 h135
    have h172 := ha166.fx 6 h136
    have h173 := ha166.ge 22 85 rfl
    have hb174 := hb159.new_ hn165
    have hb175 := hb160.new_ hn165
    have hb176 := hb161.new_ hn165
    have hN177 := hN162.transNew hn165
    clear hs131 hd132 h133 h134 h135 h136 h137 h138 h140 hb159 hb160 hb161 hb154 hq150 hN162 ha166 hn165
    refine st_nil ?_
    refine hK _ _ ?_
    clear hK K
    refine wp_cond_false h173 ?_
    refine wp_skip ?_
    refine hK _ _ ?_
    clear hK K
    refine wp_seq_k fun K hK => ?_
    rcases Bool.eq_false_or_eq_true (lessM a b) with ht178 | ht178
    · skip
      rcases Bool.eq_false_or_eq_true (lessM b c) with ht179 | ht179
      · skip
        have ht180 : (lessM a c) = true := less_trans ht178 ht179
        have ht181 : (lessM b a) = false := less_asymm ht178
        have ht182 : (equalM a b) = false := less_ne ht178
        refine wp_g0 [true, true, true, true, true, true, true, true, true, true, true, true, true, true, true, true, true, true, true, true, true, true, true, true, true, true, true, true, true, true, true, true, true, true, true, true, true, true, true, true, true] [] 126
          [ve (.bool true),
           ve (.bool true),
           ve (nv a),
           ve (nv b),
           ve (.bool true),
           ve (.bool false),
           ve (.bool false),
           ve (nv b),
           ve (nv c),
           ve (.bool true),
           ve (.bool false),
           ve (.bool false),
           ve (.bool false),
           ve (nv a),
           ve (nv c),
           ve (.bool true),
           ve (.bool true),
           ve (.bool true),
           ve (.bool true),
           ve (nv a),
           ve (nv b),
           ve (.bool true),
           ve (.bool true),
           ve (nv b),
           ve (nv a),
           ve (.bool false),
           ve (.bool false),
           ve (.bool true),
           ve (.bool true),
           ve (.bool true),
           ve (nv a),
           ve (nv b),
           ve (.bool true),
           ve (.bool true),
           ve (nv a),
           ve (nv b),
           ve (.bool false),
           ve (.bool false),
           ve (.bool true),
           ve (.bool true),
           ve (.bool true)] hs167 (.eq (.eq (.eq (.eq (.eq (.eq (.eq (.eq (.eq (.eq (.eq (.eq (.eq (.eq (.eq (.eq (.eq (.eq (.eq (.eq (.eq (.eq (.eq (.eq (.eq (.eq (.eq (.eq (.eq (.eq (.eq (.eq (.eq (.eq (.eq (.eq (.eq (.eq (.eq (.eq (.eq (.nil)))))))))))))))))))))))))))))))))))))))))) ?_ ?_
        · skip
          refine .o1 (ck rfl rfl rfl (fun _ w hn k => ⟨#[], rfl, fun _ => by kernel_rfl, first_c  _⟩) fun _ => rfl) ?_
          refine .o1 (tk rfl rfl fun _ w hn k => ⟨_, v_move rfl (k.eq1 0 86 rfl), rfl⟩) ?_
          refine .o1 (tg rfl rfl rfl (fun _ _ k => k.eq1 1 87 rfl) fun _ w hn k => ⟨_, v_load rfl (k.fx 3 h169) (l_two Tryd.isAgg23 Tryd.sizeOf23 (hb174.new_ hn)), rfl⟩) ?_
          refine .o1 (tg rfl rfl rfl (fun _ _ k => k.eq1 1 87 rfl) fun _ w hn k => ⟨_, v_load rfl (k.fx 4 h170) (l_two Tryd.isAgg23 Tryd.sizeOf23 (hb175.new_ hn)), rfl⟩) ?_
          refine .o1 (cg rfl rfl rfl (fun _ _ k => k.eq1 1 87 rfl) rfl (fun _ w hn k => ⟨#[nv a, nv b], args2 (k.eq1 2 88 rfl) (k.eq1 3 89 rfl), fun _ => by kernel_rfl, less_c a b _⟩) fun _ => congrArg Value.bool ht178) ?_
          refine .o1 (tg rfl rfl rfl (fun _ _ k => k.eq1 1 87 rfl) fun _ w hn k => ⟨_, v_not rfl (k.eq1 4 90 rfl), rfl⟩) ?_
          refine .o1 (tg rfl rfl rfl (fun _ _ k => k.eq1 1 87 rfl) fun _ w hn k => ⟨_, v_move rfl (k.eq1 5 91 rfl), rfl⟩) ?_
          refine .o1 (tg rfl rfl rfl (fun _ _ k => k.eq1 6 92 rfl) fun _ w hn k => ⟨_, v_load rfl (k.fx 4 h170) (l_two Tryd.isAgg23 Tryd.sizeOf23 (hb175.new_ hn)), rfl⟩) ?_
          refine .o1 (tg rfl rfl rfl (fun _ _ k => k.eq1 6 92 rfl) fun _ w hn k => ⟨_, v_load rfl (k.fx 5 h171) (l_two Tryd.isAgg23 Tryd.sizeOf23 (hb176.new_ hn)), rfl⟩) ?_
          refine .o1 (cg rfl rfl rfl (fun _ _ k => k.eq1 6 92 rfl) rfl (fun _ w hn k => ⟨#[nv b, nv c], args2 (k.eq1 7 93 rfl) (k.eq1 8 94 rfl), fun _ => by kernel_rfl, less_c b c _⟩) fun _ => congrArg Value.bool ht179) ?_
          refine .o1 (tg rfl rfl rfl (fun _ _ k => k.eq1 6 92 rfl) fun _ w hn k => ⟨_, v_not rfl (k.eq1 9 95 rfl), rfl⟩) ?_
          refine .o1 (tg rfl rfl rfl (fun _ _ k => k.eq1 1 87 rfl) fun _ w hn k => ⟨_, v_pickF rfl (k.eq1 6 92 rfl) (k.eq1 10 96 rfl), rfl⟩) ?_
          refine .o1 (tg rfl rfl rfl (fun _ _ k => k.eq1 1 87 rfl) fun _ w hn k => ⟨_, v_move rfl (k.eq1 11 97 rfl), rfl⟩) ?_
          refine .o1 (tg rfl rfl rfl (fun _ _ k => k.eq1 12 98 rfl) fun _ w hn k => ⟨_, v_load rfl (k.fx 3 h169) (l_two Tryd.isAgg23 Tryd.sizeOf23 (hb174.new_ hn)), rfl⟩) ?_
          refine .o1 (tg rfl rfl rfl (fun _ _ k => k.eq1 12 98 rfl) fun _ w hn k => ⟨_, v_load rfl (k.fx 5 h171) (l_two Tryd.isAgg23 Tryd.sizeOf23 (hb176.new_ hn)), rfl⟩) ?_
          refine .o1 (cg rfl rfl rfl (fun _ _ k => k.eq1 12 98 rfl) rfl (fun _ w hn k => ⟨#[nv a, nv c], args2 (k.eq1 13 99 rfl) (k.eq1 14 100 rfl), fun _ => by kernel_rfl, less_c a c _⟩) fun _ => congrArg Value.bool ht180) ?_
          refine .o1 (tg rfl rfl rfl (fun _ _ k => k.eq1 1 87 rfl) fun _ w hn k => ⟨_, v_pickF rfl (k.eq1 12 98 rfl) (k.eq1 15 101 rfl), rfl⟩) ?_
          refine .o1 (tk rfl rfl fun _ w hn k => ⟨_, v_pickT rfl (k.eq1 1 87 rfl) (k.eq1 16 102 rfl), rfl⟩) ?_
          refine .o1 (tk rfl rfl fun _ w hn k => ⟨_, v_move rfl (k.eq1 17 103 rfl), rfl⟩) ?_
          refine .o1 (tg rfl rfl rfl (fun _ _ k => k.eq1 18 104 rfl) fun _ w hn k => ⟨_, v_load rfl (k.fx 3 h169) (l_two Tryd.isAgg23 Tryd.sizeOf23 (hb174.new_ hn)), rfl⟩) ?_
          refine .o1 (tg rfl rfl rfl (fun _ _ k => k.eq1 18 104 rfl) fun _ w hn k => ⟨_, v_load rfl (k.fx 4 h170) (l_two Tryd.isAgg23 Tryd.sizeOf23 (hb175.new_ hn)), rfl⟩) ?_
          refine .o1 (cg rfl rfl rfl (fun _ _ k => k.eq1 18 104 rfl) rfl (fun _ w hn k => ⟨#[nv a, nv b], args2 (k.eq1 19 105 rfl) (k.eq1 20 106 rfl), fun _ => by kernel_rfl, less_c a b _⟩) fun _ => congrArg Value.bool ht178) ?_
          refine .o1 (tg rfl rfl rfl (fun _ _ k => k.eq1 18 104 rfl) fun _ w hn k => ⟨_, v_move rfl (k.eq1 21 107 rfl), rfl⟩) ?_
          refine .o1 (tg rfl rfl rfl (fun _ _ k => k.eq1 22 108 rfl) fun _ w hn k => ⟨_, v_load rfl (k.fx 4 h170) (l_two Tryd.isAgg23 Tryd.sizeOf23 (hb175.new_ hn)), rfl⟩) ?_
          refine .o1 (tg rfl rfl rfl (fun _ _ k => k.eq1 22 108 rfl) fun _ w hn k => ⟨_, v_load rfl (k.fx 3 h169) (l_two Tryd.isAgg23 Tryd.sizeOf23 (hb174.new_ hn)), rfl⟩) ?_
          refine .o1 (cg rfl rfl rfl (fun _ _ k => k.eq1 22 108 rfl) rfl (fun _ w hn k => ⟨#[nv b, nv a], args2 (k.eq1 23 109 rfl) (k.eq1 24 110 rfl), fun _ => by kernel_rfl, less_c b a _⟩) fun _ => congrArg Value.bool ht181) ?_
          refine .o1 (tg rfl rfl rfl (fun _ _ k => k.eq1 18 104 rfl) fun _ w hn k => ⟨_, v_pickT rfl (k.eq1 22 108 rfl) (k.eq1 25 111 rfl), rfl⟩) ?_
          refine .o1 (tg rfl rfl rfl (fun _ _ k => k.eq1 18 104 rfl) fun _ w hn k => ⟨_, v_not rfl (k.eq1 26 112 rfl), rfl⟩) ?_
          refine .o1 (tk rfl rfl fun _ w hn k => ⟨_, v_pickT rfl (k.eq1 18 104 rfl) (k.eq1 27 113 rfl), rfl⟩) ?_
          refine .o1 (tk rfl rfl fun _ w hn k => ⟨_, v_move rfl (k.eq1 28 114 rfl), rfl⟩) ?_
          refine .o1 (tg rfl rfl rfl (fun _ _ k => k.eq1 29 115 rfl) fun _ w hn k => ⟨_, v_load rfl (k.fx 3 h169) (l_two Tryd.isAgg23 Tryd.sizeOf23 (hb174.new_ hn)), rfl⟩) ?_
          refine .o1 (tg rfl rfl rfl (fun _ _ k => k.eq1 29 115 rfl) fun _ w hn k => ⟨_, v_load rfl (k.fx 4 h170) (l_two Tryd.isAgg23 Tryd.sizeOf23 (hb175.new_ hn)), rfl⟩) ?_
          refine .o1 (cg rfl rfl rfl (fun _ _ k => k.eq1 29 115 rfl) rfl (fun _ w hn k => ⟨#[nv a, nv b], args2 (k.eq1 30 116 rfl) (k.eq1 31 117 rfl), fun _ => by kernel_rfl, less_c a b _⟩) fun _ => congrArg Value.bool ht178) ?_
          refine .o1 (tg rfl rfl rfl (fun _ _ k => k.eq1 29 115 rfl) fun _ w hn k => ⟨_, v_move rfl (k.eq1 32 118 rfl), rfl⟩) ?_
          refine .o1 (tg rfl rfl rfl (fun _ _ k => k.eq1 33 119 rfl) fun _ w hn k => ⟨_, v_load rfl (k.fx 3 h169) (l_two Tryd.isAgg23 Tryd.sizeOf23 (hb174.new_ hn)), rfl⟩) ?_
          refine .o1 (tg rfl rfl rfl (fun _ _ k => k.eq1 33 119 rfl) fun _ w hn k => ⟨_, v_load rfl (k.fx 4 h170) (l_two Tryd.isAgg23 Tryd.sizeOf23 (hb175.new_ hn)), rfl⟩) ?_
          refine .o1 (cg rfl rfl rfl (fun _ _ k => k.eq1 33 119 rfl) rfl (fun _ w hn k => ⟨#[nv a, nv b], args2 (k.eq1 34 120 rfl) (k.eq1 35 121 rfl), fun _ => by kernel_rfl, equal_c a b _⟩) fun _ => congrArg Value.bool ht182) ?_
          refine .o1 (tg rfl rfl rfl (fun _ _ k => k.eq1 29 115 rfl) fun _ w hn k => ⟨_, v_pickT rfl (k.eq1 33 119 rfl) (k.eq1 36 122 rfl), rfl⟩) ?_
          refine .o1 (tg rfl rfl rfl (fun _ _ k => k.eq1 29 115 rfl) fun _ w hn k => ⟨_, v_not rfl (k.eq1 37 123 rfl), rfl⟩) ?_
          refine .o1 (tk rfl rfl fun _ w hn k => ⟨_, v_pickT rfl (k.eq1 29 115 rfl) (k.eq1 38 124 rfl), rfl⟩) ?_
          refine .o1 (tk rfl rfl fun _ w hn k => ⟨_, v_assign rfl (k.eq1 39 125 rfl), rfl⟩) ?_
          exact .nil
        intro a183 w184 hn185 ha186
        have hs187 := ha186.size.trans hs167
        have hd188 := ha186.defers.trans hd168
        have h189 := ha186.ge 40 6 rfl
        have hN190 := hN177.transNew hn185
        clear hs167 hd168 h169 h170 h171 h172 h173 hb174 hq20 hb175 hq21 hb176 hq22 hN177 ha186 hn185
        refine st_nil ?_
        refine hK _ _ ?_
        clear hK K
        refine wp_ret (ret_k hd188 (v := .bool true) (res_t rfl h189 _) ?_)
        exact ⟨rfl, hN190⟩
      have ht191 : (lessM b a) = false := less_asymm ht178
      have ht192 : (equalM a b) = false := less_ne ht178
      refine wp_g0 [true, true, true, true, true, true, true, true, true, true, true, true, true, true, true, true, true, true, true, true, true, true, true, true, true, true, true, true, true, true, true, true, true, true, true, true, true, true, true, true, true] [] 126
        [ve (.bool true),
         ve (.bool true),
         ve (nv a),
         ve (nv b),
         ve (.bool true),
         ve (.bool false),
         ve (.bool false),
         ve (nv b),
         ve (nv c),
         ve (.bool false),
         ve (.bool true),
         ve (.bool true),
         ve (.bool true),
         ve undef,
         ve undef,
         ve undef,
         ve (.bool true),
         ve (.bool true),
         ve (.bool true),
         ve (nv a),
         ve (nv b),
         ve (.bool true),
         ve (.bool true),
         ve (nv b),
         ve (nv a),
         ve (.bool false),
         ve (.bool false),
         ve (.bool true),
         ve (.bool true),
         ve (.bool true),
         ve (nv a),
         ve (nv b),
         ve (.bool true),
         ve (.bool true),
         ve (nv a),
         ve (nv b),
         ve (.bool false),
         ve (.bool false),
         ve (.bool true),
         ve (.bool true),
         ve (.bool true)] hs167 (.eq (.eq (.eq (.eq (.eq (.eq (.eq (.eq (.eq (.eq (.eq (.eq (.eq (.eq (.eq (.eq (.eq (.eq (.eq (.eq (.eq (.eq (.eq (.eq (.eq (.eq (.eq (.eq (.eq (.eq (.eq (.eq (.eq (.eq (.eq (.eq (.eq (.eq (.eq (.eq (.eq (.nil)))))))))))))))))))))))))))))))))))))))))) ?_ ?_
      · skip
        refine .o1 (ck rfl rfl rfl (fun _ w hn k => ⟨#[], rfl, fun _ => by kernel_rfl, first_c  _⟩) fun _ => rfl) ?_
        refine .o1 (tk rfl rfl fun _ w hn k => ⟨_, v_move rfl (k.eq1 0 86 rfl), rfl⟩) ?_
        refine .o1 (tg rfl rfl rfl (fun _ _ k => k.eq1 1 87 rfl) fun _ w hn k => ⟨_, v_load rfl (k.fx 3 h169) (l_two Tryd.isAgg23 Tryd.sizeOf23 (hb174.new_ hn)), rfl⟩) ?_
        refine .o1 (tg rfl rfl rfl (fun _ _ k => k.eq1 1 87 rfl) fun _ w hn k => ⟨_, v_load rfl (k.fx 4 h170) (l_two Tryd.isAgg23 Tryd.sizeOf23 (hb175.new_ hn)), rfl⟩) ?_
        refine .o1 (cg rfl rfl rfl (fun _ _ k => k.eq1 1 87 rfl) rfl (fun _ w hn k => ⟨#[nv a, nv b], args2 (k.eq1 2 88 rfl) (k.eq1 3 89 rfl), fun _ => by kernel_rfl, less_c a b _⟩) fun _ => congrArg Value.bool ht178) ?_
        refine .o1 (tg rfl rfl rfl (fun _ _ k => k.eq1 1 87 rfl) fun _ w hn k => ⟨_, v_not rfl (k.eq1 4 90 rfl), rfl⟩) ?_
        refine .o1 (tg rfl rfl rfl (fun _ _ k => k.eq1 1 87 rfl) fun _ w hn k => ⟨_, v_move rfl (k.eq1 5 91 rfl), rfl⟩) ?_
        refine .o1 (tg rfl rfl rfl (fun _ _ k => k.eq1 6 92 rfl) fun _ w hn k => ⟨_, v_load rfl (k.fx 4 h170) (l_two Tryd.isAgg23 Tryd.sizeOf23 (hb175.new_ hn)), rfl⟩) ?_
        refine .o1 (tg rfl rfl rfl (fun _ _ k => k.eq1 6 92 rfl) fun _ w hn k => ⟨_, v_load rfl (k.fx 5 h171) (l_two Tryd.isAgg23 Tryd.sizeOf23 (hb176.new_ hn)), rfl⟩) ?_
        refine .o1 (cg rfl rfl rfl (fun _ _ k => k.eq1 6 92 rfl) rfl (fun _ w hn k => ⟨#[nv b, nv c], args2 (k.eq1 7 93 rfl) (k.eq1 8 94 rfl), fun _ => by kernel_rfl, less_c b c _⟩) fun _ => congrArg Value.bool ht179) ?_
        refine .o1 (tg rfl rfl rfl (fun _ _ k => k.eq1 6 92 rfl) fun _ w hn k => ⟨_, v_not rfl (k.eq1 9 95 rfl), rfl⟩) ?_
        refine .o1 (tg rfl rfl rfl (fun _ _ k => k.eq1 1 87 rfl) fun _ w hn k => ⟨_, v_pickF rfl (k.eq1 6 92 rfl) (k.eq1 10 96 rfl), rfl⟩) ?_
        refine .o1 (tg rfl rfl rfl (fun _ _ k => k.eq1 1 87 rfl) fun _ w hn k => ⟨_, v_move rfl (k.eq1 11 97 rfl), rfl⟩) ?_
        refine .o1 (sk rfl rfl rfl (fun _ _ _ k => k.eq1 12 98 rfl) (fun _ => rfl)) ?_
        refine .o1 (sk rfl rfl rfl (fun _ _ _ k => k.eq1 12 98 rfl) (fun _ => rfl)) ?_
        refine .o1 (sk rfl rfl rfl (fun _ _ _ k => k.eq1 12 98 rfl) (fun _ => rfl)) ?_
        refine .o1 (tg rfl rfl rfl (fun _ _ k => k.eq1 1 87 rfl) fun _ w hn k => ⟨_, v_pickT rfl (k.eq1 12 98 rfl) rfl, rfl⟩) ?_
        refine .o1 (tk rfl rfl fun _ w hn k => ⟨_, v_pickT rfl (k.eq1 1 87 rfl) (k.eq1 16 102 rfl), rfl⟩) ?_
        refine .o1 (tk rfl rfl fun _ w hn k => ⟨_, v_move rfl (k.eq1 17 103 rfl), rfl⟩) ?_
        refine .o1 (tg rfl rfl rfl (fun _ _ k => k.eq1 18 104 rfl) fun _ w hn k => ⟨_, v_load rfl (k.fx 3 h169) (l_two Tryd.isAgg23 Tryd.sizeOf23 (hb174.new_ hn)), rfl⟩) ?_
        refine .o1 (tg rfl rfl rfl (fun _ _ k => k.eq1 18 104 rfl) fun _ w hn k => ⟨_, v_load rfl (k.fx 4 h170) (l_two Tryd.isAgg23 Tryd.sizeOf23 (hb175.new_ hn)), rfl⟩) ?_
        refine .o1 (cg rfl rfl rfl (fun _ _ k => k.eq1 18 104 rfl) rfl (fun _ w hn k => ⟨#[nv a, nv b], args2 (k.eq1 19 105 rfl) (k.eq1 20 106 rfl), fun _ => by kernel_rfl, less_c a b _⟩) fun _ => congrArg Value.bool ht178) ?_
        refine .o1 (tg rfl rfl rfl (fun _ _ k => k.eq1 18 104 rfl) fun _ w hn k => ⟨_, v_move rfl (k.eq1 21 107 rfl), rfl⟩) ?_
        refine .o1 (tg rfl rfl rfl (fun _ _ k => k.eq1 22 108 rfl) fun _ w hn k => ⟨_, v_load rfl (k.fx 4 h170) (l_two Tryd.isAgg23 Tryd.sizeOf23 (hb175.new_ hn)), rfl⟩) ?_
        refine .o1 (tg rfl rfl rfl (fun _ _ k => k.eq1 22 108 rfl) fun _ w hn k => ⟨_, v_load rfl (k.fx 3 h169) (l_two Tryd.isAgg23 Tryd.sizeOf23 (hb174.new_ hn)), rfl⟩) ?_
        refine .o1 (cg rfl rfl rfl (fun _ _ k => k.eq1 22 108 rfl) rfl (fun _ w hn k => ⟨#[nv b, nv a], args2 (k.eq1 23 109 rfl) (k.eq1 24 110 rfl), fun _ => by kernel_rfl, less_c b a _⟩) fun _ => congrArg Value.bool ht191) ?_
        refine .o1 (tg rfl rfl rfl (fun _ _ k => k.eq1 18 104 rfl) fun _ w hn k => ⟨_, v_pickT rfl (k.eq1 22 108 rfl) (k.eq1 25 111 rfl), rfl⟩) ?_
        refine .o1 (tg rfl rfl rfl (fun _ _ k => k.eq1 18 104 rfl) fun _ w hn k => ⟨_, v_not rfl (k.eq1 26 112 rfl), rfl⟩) ?_
        refine .o1 (tk rfl rfl fun _ w hn k => ⟨_, v_pickT rfl (k.eq1 18 104 rfl) (k.eq1 27 113 rfl), rfl⟩) ?_
        refine .o1 (tk rfl rfl fun _ w hn k => ⟨_, v_move rfl (k.eq1 28 114 rfl), rfl⟩) ?_
        refine .o1 (tg rfl rfl rfl (fun _ _ k => k.eq1 29 115 rfl) fun _ w hn k => ⟨_, v_load rfl (k.fx 3 h169) (l_two Tryd.isAgg23 Tryd.sizeOf23 (hb174.new_ hn)), rfl⟩) ?_
        refine .o1 (tg rfl rfl rfl (fun _ _ k => k.eq1 29 115 rfl) fun _ w hn k => ⟨_, v_load rfl (k.fx 4 h170) (l_two Tryd.isAgg23 Tryd.sizeOf23 (hb175.new_ hn)), rfl⟩) ?_
        refine .o1 (cg rfl rfl rfl (fun _ _ k => k.eq1 29 115 rfl) rfl (fun _ w hn k => ⟨#[nv a, nv b], args2 (k.eq1 30 116 rfl) (k.eq1 31 117 rfl), fun _ => by kernel_rfl, less_c a b _⟩) fun _ => congrArg Value.bool ht178) ?_
        refine .o1 (tg rfl rfl rfl (fun _ _ k => k.eq1 29 115 rfl) fun _ w hn k => ⟨_, v_move rfl (k.eq1 32 118 rfl), rfl⟩) ?_
        refine .o1 (tg rfl rfl rfl (fun _ _ k => k.eq1 33 119 rfl) fun _ w hn k => ⟨_, v_load rfl (k.fx 3 h169) (l_two Tryd.isAgg23 Tryd.sizeOf23 (hb174.new_ hn)), rfl⟩) ?_
        refine .o1 (tg rfl rfl rfl (fun _ _ k => k.eq1 33 119 rfl) fun _ w hn k => ⟨_, v_load rfl (k.fx 4 h170) (l_two Tryd.isAgg23 Tryd.sizeOf23 (hb175.new_ hn)), rfl⟩) ?_
        refine .o1 (cg rfl rfl rfl (fun _ _ k => k.eq1 33 119 rfl) rfl (fun _ w hn k => ⟨#[nv a, nv b], args2 (k.eq1 34 120 rfl) (k.eq1 35 121 rfl), fun _ => by kernel_rfl, equal_c a b _⟩) fun _ => congrArg Value.bool ht192) ?_
        refine .o1 (tg rfl rfl rfl (fun _ _ k => k.eq1 29 115 rfl) fun _ w hn k => ⟨_, v_pickT rfl (k.eq1 33 119 rfl) (k.eq1 36 122 rfl), rfl⟩) ?_
        refine .o1 (tg rfl rfl rfl (fun _ _ k => k.eq1 29 115 rfl) fun _ w hn k => ⟨_, v_not rfl (k.eq1 37 123 rfl), rfl⟩) ?_
        refine .o1 (tk rfl rfl fun _ w hn k => ⟨_, v_pickT rfl (k.eq1 29 115 rfl) (k.eq1 38 124 rfl), rfl⟩) ?_
        refine .o1 (tk rfl rfl fun _ w hn k => ⟨_, v_assign rfl (k.eq1 39 125 rfl), rfl⟩) ?_
        exact .nil
      intro a193 w194 hn195 ha196
      have hs197 := ha196.size.trans hs167
      have hd198 := ha196.defers.trans hd168
      have h199 := ha196.ge 40 6 rfl
      have hN200 := hN177.transNew hn195
      clear hs167 hd168 h169 h170 h171 h172 h173 hb174 hq20 hb175 hq21 hb176 hq22 hN177 ha196 hn195
      refine st_nil ?_
      refine hK _ _ ?_
      clear hK K
      refine wp_ret (ret_k hd198 (v := .bool true) (res_t rfl h199 _) ?_)
      exact ⟨rfl, hN200⟩
    refine wp_g0 [true, true, true, true, true, true, true, true, true, true, true, true, true, true, true, true, true, true, true, true, true, true, true, true, true, true, true, true, true, true, true, true, true, true, true, true, true, true, true, true, true] [] 126
      [ve (.bool true),
       ve (.bool true),
       ve (nv a),
       ve (nv b),
       ve (.bool false),
       ve (.bool true),
       ve (.bool true),
       ve undef,
       ve undef,
       ve undef,
       ve undef,
       ve (.bool true),
       ve (.bool true),
       ve undef,
       ve undef,
       ve undef,
       ve (.bool true),
       ve (.bool true),
       ve (.bool true),
       ve (nv a),
       ve (nv b),
       ve (.bool false),
       ve (.bool false),
       ve undef,
       ve undef,
       ve undef,
       ve (.bool false),
       ve (.bool true),
       ve (.bool true),
       ve (.bool true),
       ve (nv a),
       ve (nv b),
       ve (.bool false),
       ve (.bool false),
       ve undef,
       ve undef,
       ve undef,
       ve (.bool false),
       ve (.bool true),
       ve (.bool true),
       ve (.bool true)] hs167 (.eq (.eq (.eq (.eq (.eq (.eq (.eq (.eq (.eq (.eq (.eq (.eq (.eq (.eq (.eq (.eq (.eq (.eq (.eq (.eq (.eq (.eq (.eq (.eq (.eq (.eq (.eq (.eq (.eq (.eq (.eq (.eq (.eq (.eq (.eq (.eq (.eq (.eq (.eq (.eq (.eq (.nil)))))))))))))))))))))))))))))))))))))))))) ?_ ?_
    · skip
      refine .o1 (ck rfl rfl rfl (fun _ w hn k => ⟨#[], rfl, fun _ => by kernel_rfl, first_c  _⟩) fun _ => rfl) ?_
      refine .o1 (tk rfl rfl fun _ w hn k => ⟨_, v_move rfl (k.eq1 0 86 rfl), rfl⟩) ?_
      refine .o1 (tg rfl rfl rfl (fun _ _ k => k.eq1 1 87 rfl) fun _ w hn k => ⟨_, v_load rfl (k.fx 3 h169) (l_two Tryd.isAgg23 Tryd.sizeOf23 (hb174.new_ hn)), rfl⟩) ?_
      refine .o1 (tg rfl rfl rfl (fun _ _ k => k.eq1 1 87 rfl) fun _ w hn k => ⟨_, v_load rfl (k.fx 4 h170) (l_two Tryd.isAgg23 Tryd.sizeOf23 (hb175.new_ hn)), rfl⟩) ?_
      refine .o1 (cg rfl rfl rfl (fun _ _ k => k.eq1 1 87 rfl) rfl (fun _ w hn k => ⟨#[nv a, nv b], args2 (k.eq1 2 88 rfl) (k.eq1 3 89 rfl), fun _ => by kernel_rfl, less_c a b _⟩) fun _ => congrArg Value.bool ht178) ?_
      refine .o1 (tg rfl rfl rfl (fun _ _ k => k.eq1 1 87 rfl) fun _ w hn k => ⟨_, v_not rfl (k.eq1 4 90 rfl), rfl⟩) ?_
      refine .o1 (tg rfl rfl rfl (fun _ _ k => k.eq1 1 87 rfl) fun _ w hn k => ⟨_, v_move rfl (k.eq1 5 91 rfl), rfl⟩) ?_
      refine .o1 (sk rfl rfl rfl (fun _ _ _ k => k.eq1 6 92 rfl) (fun _ => rfl)) ?_
      refine .o1 (sk rfl rfl rfl (fun _ _ _ k => k.eq1 6 92 rfl) (fun _ => rfl)) ?_
      refine .o1 (sk rfl rfl rfl (fun _ _ _ k => k.eq1 6 92 rfl) (fun _ => rfl)) ?_
      refine .o1 (sk rfl rfl rfl (fun _ _ _ k => k.eq1 6 92 rfl) (fun _ => rfl)) ?_
      refine .o1 (tg rfl rfl rfl (fun _ _ k => k.eq1 1 87 rfl) fun _ w hn k => ⟨_, v_pickT rfl (k.eq1 6 92 rfl) rfl, rfl⟩) ?_
      refine .o1 (tg rfl rfl rfl (fun _ _ k => k.eq1 1 87 rfl) fun _ w hn k => ⟨_, v_move rfl (k.eq1 11 97 rfl), rfl⟩) ?_
      refine .o1 (sk rfl rfl rfl (fun _ _ _ k => k.eq1 12 98 rfl) (fun _ => rfl)) ?_
      refine .o1 (sk rfl rfl rfl (fun _ _ _ k => k.eq1 12 98 rfl) (fun _ => rfl)) ?_
      refine .o1 (sk rfl rfl rfl (fun _ _ _ k => k.eq1 12 98 rfl) (fun _ => rfl)) ?_
      refine .o1 (tg rfl rfl rfl (fun _ _ k => k.eq1 1 87 rfl) fun _ w hn k => ⟨_, v_pickT rfl (k.eq1 12 98 rfl) rfl, rfl⟩) ?_
      refine .o1 (tk rfl rfl fun _ w hn k => ⟨_, v_pickT rfl (k.eq1 1 87 rfl) (k.eq1 16 102 rfl), rfl⟩) ?_
      refine .o1 (tk rfl rfl fun _ w hn k => ⟨_, v_move rfl (k.eq1 17 103 rfl), rfl⟩) ?_
      refine .o1 (tg rfl rfl rfl (fun _ _ k => k.eq1 18 104 rfl) fun _ w hn k => ⟨_, v_load rfl (k.fx 3 h169) (l_two Tryd.isAgg23 Tryd.sizeOf23 (hb174.new_ hn)), rfl⟩) ?_
      refine .o1 (tg rfl rfl rfl (fun _ _ k => k.eq1 18 104 rfl) fun _ w hn k => ⟨_, v_load rfl (k.fx 4 h170) (l_two Tryd.isAgg23 Tryd.sizeOf23 (hb175.new_ hn)), rfl⟩) ?_
      refine .o1 (cg rfl rfl rfl (fun _ _ k => k.eq1 18 104 rfl) rfl (fun _ w hn k => ⟨#[nv a, nv b], args2 (k.eq1 19 105 rfl) (k.eq1 20 106 rfl), fun _ => by kernel_rfl, less_c a b _⟩) fun _ => congrArg Value.bool ht178) ?_
      refine .o1 (tg rfl rfl rfl (fun _ _ k => k.eq1 18 104 rfl) fun _ w hn k => ⟨_, v_move rfl (k.eq1 21 107 rfl), rfl⟩) ?_
      refine .o1 (sk rfl rfl rfl (fun _ _ _ k => k.eq1 22 108 rfl) (fun _ => rfl)) ?_
      refine .o1 (sk rfl rfl rfl (fun _ _ _ k => k.eq1 22 108 rfl) (fun _ => rfl)) ?_
      refine .o1 (sk rfl rfl rfl (fun _ _ _ k => k.eq1 22 108 rfl) (fun _ => rfl)) ?_
      refine .o1 (tg rfl rfl rfl (fun _ _ k => k.eq1 18 104 rfl) fun _ w hn k => ⟨_, v_pickF rfl (k.eq1 22 108 rfl) rfl, rfl⟩) ?_
      refine .o1 (tg rfl rfl rfl (fun _ _ k => k.eq1 18 104 rfl) fun _ w hn k => ⟨_, v_not rfl (k.eq1 26 112 rfl), rfl⟩) ?_
      refine .o1 (tk rfl rfl fun _ w hn k => ⟨_, v_pickT rfl (k.eq1 18 104 rfl) (k.eq1 27 113 rfl), rfl⟩) ?_
      refine .o1 (tk rfl rfl fun _ w hn k => ⟨_, v_move rfl (k.eq1 28 114 rfl), rfl⟩) ?_
      refine .o1 (tg rfl rfl rfl (fun _ _ k => k.eq1 29 115 rfl) fun _ w hn k => ⟨_, v_load rfl (k.fx 3 h169) (l_two Tryd.isAgg23 Tryd.sizeOf23 (hb174.new_ hn)), rfl⟩) ?_
      refine .o1 (tg rfl rfl rfl (fun _ _ k => k.eq1 29 115 rfl) fun _ w hn k => ⟨_, v_load rfl (k.fx 4 h170) (l_two Tryd.isAgg23 Tryd.sizeOf23 (hb175.new_ hn)), rfl⟩) ?_
      refine .o1 (cg rfl rfl rfl (fun _ _ k => k.eq1 29 115 rfl) rfl (fun _ w hn k => ⟨#[nv a, nv b], args2 (k.eq1 30 116 rfl) (k.eq1 31 117 rfl), fun _ => by kernel_rfl, less_c a b _⟩) fun _ => congrArg Value.bool ht178) ?_
      refine .o1 (tg rfl rfl rfl (fun _ _ k => k.eq1 29 115 rfl) fun _ w hn k => ⟨_, v_move rfl (k.eq1 32 118 rfl), rfl⟩) ?_
      refine .o1 (sk rfl rfl rfl (fun _ _ _ k => k.eq1 33 119 rfl) (fun _ => rfl)) ?_
      refine .o1 (sk rfl rfl rfl (fun _ _ _ k => k.eq1 33 119 rfl) (fun _ => rfl)) ?_
      refine .o1 (sk rfl rfl rfl (fun _ _ _ k => k.eq1 33 119 rfl) (fun _ => rfl)) ?_
      refine .o1 (tg rfl rfl rfl (fun _ _ k => k.eq1 29 115 rfl) fun _ w hn k => ⟨_, v_pickF rfl (k.eq1 33 119 rfl) rfl, rfl⟩) ?_
      refine .o1 (tg rfl rfl rfl (fun _ _ k => k.eq1 29 115 rfl) fun _ w hn k => ⟨_, v_not rfl (k.eq1 37 123 rfl), rfl⟩) ?_
      refine .o1 (tk rfl rfl fun _ w hn k => ⟨_, v_pickT rfl (k.eq1 29 115 rfl) (k.eq1 38 124 rfl), rfl⟩) ?_
      refine .o1 (tk rfl rfl fun _ w hn k => ⟨_, v_assign rfl (k.eq1 39 125 rfl), rfl⟩) ?_
      exact .nil
    intro a201 w202 hn203 ha204
    have hs205 := ha204.size.trans hs167
    have hd206 := ha204.defers.trans hd168
    have h207 := ha204.ge 40 6 rfl
    have hN208 := hN177.transNew hn203
    clear hs167 hd168 h169 h170 h171 h172 h173 hb174 hq20 hb175 hq21 hb176 hq22 hN177 ha204 hn203
    refine st_nil ?_
    refine hK _ _ ?_
    clear hK K
    refine wp_ret (ret_k hd206 (v := .bool true) (res_t rfl h207 _) ?_)
    exact ⟨rfl, hN208⟩
  have hv209 : a88.eval (.tmp 8) = .bool false := h99.trans (congrArg Value.bool ht106)
  clear h99
  refine wp_g0 [true, true, true, true] [] 126
    [ve (.bool false),
     ve (.bool false),
     ve undef,
     ve (.bool false)] hs92 (.eq (.eq (.eq (.eq (.nil))))) ?_ ?_
  · skip
    refine .o1 (tk rfl rfl fun _ w hn k => ⟨_, v_move rfl (k.fx 8 hv209), rfl⟩) ?_
    refine .o1 (tk rfl rfl fun _ w hn k => ⟨_, v_move rfl (k.eq1 0 42 rfl), rfl⟩) ?_
    refine .o1 (sk rfl rfl rfl (fun _ _ _ k => k.eq1 1 43 rfl) (fun _ => rfl)) ?_
    refine .o1 (tk rfl rfl fun _ w hn k => ⟨_, v_pickF rfl (k.eq1 1 43 rfl) rfl, rfl⟩) ?_
    exact .nil
  intro a210 w211 hn212 ha213
  have hs214 := ha213.size.trans hs92
  have hd215 := ha213.defers.trans hd93
  have h216 := ha213.fx 3 h94
  have h217 := ha213.fx 4 h95
  have h218 := ha213.fx 5 h96
  have h219 := ha213.fx 6 h97
  have h220 := ha213.fx 7 h98
  have h221 := ha213.fx 8 hv209
  have h222 := ha213.fx 9 h100
  have h223 := ha213.ge 3 45 rfl
  have hb224 := hb101.new_ hn212
  have hb225 := hb102.new_ hn212
  have hb226 := hb103.new_ hn212
  have hb227 := hb104.new_ hn212
  have hN228 := hN105.transNew hn212
  clear hs92 hd93 h94 h95 h96 h97 h98 hv209 h100 hb101 hb102 hb103 hb104 hN105 ha213 hn212
  refine st_nil ?_
  refine hK _ _ ?_
  clear hK K
  refine wp_cond_false h223 ?_
  refine wp_skip ?_
  refine hK _ _ ?_
  clear hK K
  refine wp_seq_k fun K hK => ?_
  refine wp_g [true, true, true, true, false] [] [(4, false)] 126
    [ve (nv a),
     ve (nv b),
     ve (nv (remM a b)),
     IsNew w211 23 [iv 0, iv 0],
     vt]
    [3] (newsCons (fun v w h => IsNew.old h) newsNil) hs214 (.eq (.eq (.eq (.nw (.tt (.nil)))))) ?_ (fun i h => by cases h) ?_
  · skip
    refine .o1 (tk rfl rfl fun _ w hn k => ⟨_, v_load rfl (k.fx 3 h216) (l_two Tryd.isAgg23 Tryd.sizeOf23 (hb224.new_ hn)), rfl⟩) ?_
    refine .o1 (tk rfl rfl fun _ w hn k => ⟨_, v_load rfl (k.fx 4 h217) (l_two Tryd.isAgg23 Tryd.sizeOf23 (hb225.new_ hn)), rfl⟩) ?_
    refine .o1 (ck rfl rfl rfl (fun _ w hn k => ⟨#[nv a, nv b], args2 (k.eq1 0 60 rfl) (k.eq1 1 61 rfl), fun _ => by kernel_rfl, rem_c a b _⟩) fun _ => rfl) ?_
    refine .o2 (step_allocN (cs := [iv 0, iv 0]) (t := 23) rfl (noG rfl) (fun _ w hn k => rfl) (fun q _ hq hb => ⟨q, rfl, hq, hb⟩)) ?_
    refine .off ?_
    exact .nil
  intro a229 w230 hn231 ha232
  have hs233 := ha232.size.trans hs214
  have hd234 := ha232.defers.trans hd215
  have h235 := ha232.fx 3 h216
  have h236 := ha232.fx 4 h217
  have h237 := ha232.fx 5 h218
  have h238 := ha232.fx 6 h219
  have h239 := ha232.fx 8 h221
  have h240 := ha232.fx 9 h222
  have h241 := ha232.ge 2 62 rfl
  obtain ⟨q243, h242, hq244, hb245⟩ : IsNew _ _ _ _ _ := ha232.got 3 12 rfl (by kernel_rfl)
  have hb246 := hb224.new_ hn231
  have hb247 := hb225.new_ hn231
  have hb248 := hb226.new_ hn231
  have hne249 : q8 ≠ q243 := by have h1 := hb224.lt; have h2 := hq244; omega
  have hne250 : q12 ≠ q243 := by have h1 := hb225.lt; have h2 := hq244; omega
  have hne251 : q16 ≠ q243 := by have h1 := hb226.lt; have h2 := hq244; omega
  have hq252 := Nat.le_trans hN228.size hq244
  have hN253 := hN228.transNew hn231
  clear hs214 hd215 h216 h217 h218 h219 h220 h221 h222 h223 hb224 hb225 hb226 hb227 hq61 hq244 hN228 ha232 hn231
  obtain ⟨w254, -, hst255, hb256, hu257, hf258⟩ := s_two (v0 := iv ((remM a b).k)) (v1 := iv ((remM a b).n)) Tryd.sizeOf23 rfl rfl rfl hb245
  refine st_act rfl rfl fun K259 hL260 => a_store' rfl h242 h241 hst255 (hL260 _ _ trivial ?_)
  have hb261 := hf258 _ _ _ (hne249) hb246
  have hb262 := hf258 _ _ _ (hne250) hb247
  have hb263 := hf258 _ _ _ (hne251) hb248
  have hN264 := hN253.trans hu257 (fun k hk hkb => by subst hkb; omega)
  clear hb245 hst255 K259 hL260 hN253 hb246 hb247 hb248 hu257 hf258
  clear hne249
  clear hne250
  clear hne251
  refine st_nil ?_
  clear h241
  refine hK _ _ ?_
  clear hK K
  refine wp_seq_k fun K hK => ?_
  refine wp_seq_k fun K hK => ?_
  refine wp_g0 [true, true, true, true, true, true, true, true, true, true, true, true, true, true, true, true, true, true, true, true, true, true, true] [] 126
    [ve (.bool false),
     ve (.bool false),
     ve undef,
     ve undef,
     ve undef,
     ve undef,
     ve undef,
     ve undef,
     ve undef,
     ve undef,
     ve undef,
     ve undef,
     ve undef,
     ve undef,
     ve undef,
     ve undef,
     ve undef,
     ve undef,
     ve undef,
     ve undef,
     ve undef,
     ve undef,
     ve (.bool false)] hs233 (.eq (.eq (.eq (.eq (.eq (.eq (.eq (.eq (.eq (.eq (.eq (.eq (.eq (.eq (.eq (.eq (.eq (.eq (.eq (.eq (.eq (.eq (.eq (.nil)))))))))))))))))))))))) ?_ ?_
  · skip
    refine .o1 (tk rfl rfl fun _ w hn k => ⟨_, v_move rfl (k.fx 9 h240), rfl⟩) ?_
    refine .o1 (tk rfl rfl fun _ w hn k => ⟨_, v_move rfl (k.eq1 0 63 rfl), rfl⟩) ?_
    refine .o1 (sk rfl rfl rfl (fun _ _ _ k => k.eq1 1 64 rfl) (fun _ => rfl)) ?_
    refine .o1 (sk rfl rfl rfl (fun _ _ _ k => k.eq1 1 64 rfl) (fun _ => rfl)) ?_
    refine .o1 (sk rfl rfl rfl (fun _ _ _ k => k.eq1 1 64 rfl) (fun _ => rfl)) ?_
    refine .o1 (sk rfl rfl rfl (fun _ _ _ k => k.eq1 1 64 rfl) (fun _ => rfl)) ?_
    refine .o1 (sk rfl rfl rfl (fun _ _ _ k => k.eq1 1 64 rfl) (fun _ => rfl)) ?_
    refine .o1 (sk rfl rfl rfl (fun _ _ _ k => k.eq1 1 64 rfl) (fun _ => rfl)) ?_
    refine .o1 (sk rfl rfl rfl (fun _ _ _ k => k.eq1 1 64 rfl) (fun _ => rfl)) ?_
    refine .o1 (sk rfl rfl rfl (fun _ _ _ k => k.eq1 1 64 rfl) (fun _ => rfl)) ?_
    refine .o1 (sk rfl rfl rfl (fun _ _ _ k => k.eq1 1 64 rfl) (fun _ => rfl)) ?_
    refine .o1 (sk rfl rfl rfl (fun _ _ _ k => k.eq1 1 64 rfl) (fun _ => rfl)) ?_
    refine .o1 (sk rfl rfl rfl (fun _ _ _ k => k.eq1 1 64 rfl) (fun _ => rfl)) ?_
    refine .o1 (sk rfl rfl rfl (fun _ _ _ k => k.eq1 1 64 rfl) (fun _ => rfl)) ?_
    refine .o1 (sk rfl rfl rfl (fun _ _ _ k => k.eq1 1 64 rfl) (fun _ => rfl)) ?_
    refine .o1 (sk rfl rfl rfl (fun _ _ _ k => k.eq1 1 64 rfl) (fun _ => rfl)) ?_
    refine .o1 (su rfl rfl rfl (fun _ _ _ k => k.eq1 15 78 rfl) (fun _ => rfl)) ?_
    refine .o1 (su rfl rfl rfl (fun _ _ _ k => k.eq1 15 78 rfl) (fun _ => rfl)) ?_
    refine .o1 (su rfl rfl rfl (fun _ _ _ k => k.eq1 15 78 rfl) (fun _ => rfl)) ?_
    refine .o1 (su rfl rfl rfl (fun _ _ _ k => k.eq1 15 78 rfl) (fun _ => rfl)) ?_
    refine .o1 (su rfl rfl rfl (fun _ _ _ k => k.eq1 15 78 rfl) (fun _ => rfl)) ?_
    refine .o1 (sk rfl rfl rfl (fun _ _ _ k => k.eq1 1 64 rfl) (fun _ => rfl)) ?_
    refine .o1 (tk rfl rfl fun _ w hn k => ⟨_, v_pickF rfl (k.eq1 1 64 rfl) rfl, rfl⟩) ?_
    exact .nil
  intro a265 w266 hn267 ha268
  have hs269 := ha268.size.trans hs233
  have hd270 := ha268.defers.trans hd234
  have h271 := ha268.fx 3 h235
  have h272 := ha268.fx 4 h236
  have h273 := ha268.fx 5 h237
  have h274 := ha268.fx 6 h238
  have h275 := ha268.ge 22 85 rfl
  have hb276 := hb261.new_ hn267
  have hb277 := hb262.new_ hn267
  have hb278 := hb263.new_ hn267
  have hN279 := hN264.transNew hn267
  clear hs233 hd234 h235 h236 h237 h238 h239 h240 h242 hb261 hb262 hb263 hb256 hq252 hN264 ha268 hn267
  refine st_nil ?_
  refine hK _ _ ?_
  clear hK K
  refine wp_cond_false h275 ?_
  refine wp_skip ?_
  refine hK _ _ ?_
  clear hK K
  refine wp_seq_k fun K hK => ?_
  rcases Bool.eq_false_or_eq_true (lessM a b) with ht280 | ht280
  · skip
    rcases Bool.eq_false_or_eq_true (lessM b c) with ht281 | ht281
    · skip
      have ht282 : (lessM a c) = true := less_trans ht280 ht281
      have ht283 : (lessM b a) = false := less_asymm ht280
      have ht284 : (equalM a b) = false := less_ne ht280
      refine wp_g0 [true, true, true, true, true, true, true, true, true, true, true, true, true, true, true, true, true, true, true, true, true, true, true, true, true, true, true, true, true, true, true, true, true, true, true, true, true, true, true, true, true] [] 126
        [ve (.bool true),
         ve (.bool true),
         ve (nv a),
         ve (nv b),
         ve (.bool true),
         ve (.bool false),
         ve (.bool false),
         ve (nv b),
         ve (nv c),
         ve (.bool true),
         ve (.bool false),
         ve (.bool false),
         ve (.bool false),
         ve (nv a),
         ve (nv c),
         ve (.bool true),
         ve (.bool true),
         ve (.bool true),
         ve (.bool true),
         ve (nv a),
         ve (nv b),
         ve (.bool true),
         ve (.bool true),
         ve (nv b),
         ve (nv a),
         ve (.bool false),
         ve (.bool false),
         ve (.bool true),
         ve (.bool true),
         ve (.bool true),
         ve (nv a),
         ve (nv b),
         ve (.bool true),
         ve (.bool true),
         ve (nv a),
         ve (nv b),
         ve (.bool false),
         ve (.bool false),
         ve (.bool true),
         ve (.bool true),
         ve (.bool true)] hs269 (.eq (.eq (.eq (.eq (.eq (.eq (.eq (.eq (.eq (.eq (.eq (.eq (.eq (.eq (.eq (.eq (.eq (.eq (.eq (.eq (.eq (.eq (.eq (.eq (.eq (.eq (.eq (.eq (.eq (.eq (.eq (.eq (.eq (.eq (.eq (.eq (.eq (.eq (.eq (.eq (.eq (.nil)))))))))))))))))))))))))))))))))))))))))) ?_ ?_
      · skip
        refine .o1 (ck rfl rfl rfl (fun _ w hn k => ⟨#[], rfl, fun _ => by kernel_rfl, first_c  _⟩) fun _ => rfl) ?_
        refine .o1 (tk rfl rfl fun _ w hn k => ⟨_, v_move rfl (k.eq1 0 86 rfl), rfl⟩) ?_
        refine .o1 (tg rfl rfl rfl (fun _ _ k => k.eq1 1 87 rfl) fun _ w hn k => ⟨_, v_load rfl (k.fx 3 h271) (l_two Tryd.isAgg23 Tryd.sizeOf23 (hb276.new_ hn)), rfl⟩) ?_
        refine .o1 (tg rfl rfl rfl (fun _ _ k => k.eq1 1 87 rfl) fun _ w hn k => ⟨_, v_load rfl (k.fx 4 h272) (l_two Tryd.isAgg23 Tryd.sizeOf23 (hb277.new_ hn)), rfl⟩) ?_
        refine .o1 (cg rfl rfl rfl (fun _ _ k => k.eq1 1 87 rfl) rfl (fun _ w hn k => ⟨#[nv a, nv b], args2 (k.eq1 2 88 rfl) (k.eq1 3 89 rfl), fun _ => by kernel_rfl, less_c a b _⟩) fun _ => congrArg Value.bool ht280) ?_
        refine .o1 (tg rfl rfl rfl (fun _ _ k => k.eq1 1 87 rfl) fun _ w hn k => ⟨_, v_not rfl (k.eq1 4 90 rfl), rfl⟩) ?_
        refine .o1 (tg rfl rfl rfl (fun _ _ k => k.eq1 1 87 rfl) fun _ w hn k => ⟨_, v_move rfl (k.eq1 5 91 rfl), rfl⟩) ?_
        refine .o1 (tg rfl rfl rfl (fun _ _ k => k.eq1 6 92 rfl) fun _ w hn k => ⟨_, v_load rfl (k.fx 4 h272) (l_two Tryd.isAgg23 Tryd.sizeOf23 (hb277.new_ hn)), rfl⟩) ?_
        refine .o1 (tg rfl rfl rfl (fun _ _ k => k.eq1 6 92 rfl) fun _ w hn k => ⟨_, v_load rfl (k.fx 5 h273) (l_two Tryd.isAgg23 Tryd.sizeOf23 (hb278.new_ hn)), rfl⟩) ?_
        refine .o1 (cg rfl rfl rfl (fun _ _ k => k.eq1 6 92 rfl) rfl (fun _ w hn k => ⟨#[nv b, nv c], args2 (k.eq1 7 93 rfl) (k.eq1 8 94 rfl), fun _ => by kernel_rfl, less_c b c _⟩) fun _ => congrArg Value.bool ht281) ?_
        refine .o1 (tg rfl rfl rfl (fun _ _ k => k.eq1 6 92 rfl) fun _ w hn k => ⟨_, v_not rfl (k.eq1 9 95 rfl), rfl⟩) ?_
        refine .o1 (tg rfl rfl rfl (fun _ _ k => k.eq1 1 87 rfl) fun _ w hn k => ⟨_, v_pickF rfl (k.eq1 6 92 rfl) (k.eq1 10 96 rfl), rfl⟩) ?_
        refine .o1 (tg rfl rfl rfl (fun _ _ k => k.eq1 1 87 rfl) fun _ w hn k => ⟨_, v_move rfl (k.eq1 11 97 rfl), rfl⟩) ?_
        refine .o1 (tg rfl rfl rfl (fun _ _ k => k.eq1 12 98 rfl) fun _ w hn k => ⟨_, v_load rfl (k.fx 3 h271) (l_two Tryd.isAgg23 Tryd.sizeOf23 (hb276.new_ hn)), rfl⟩) ?_
        refine .o1 (tg rfl rfl rfl (fun _ _ k => k.eq1 12 98 rfl) fun _ w hn k => ⟨_, v_load rfl (k.fx 5 h273) (l_two Tryd.isAgg23 Tryd.sizeOf23 (hb278.new_ hn)), rfl⟩) ?_
        refine .o1 (cg rfl rfl rfl (fun _ _ k => k.eq1 12 98 rfl) rfl (fun _ w hn k => ⟨#[nv a, nv c], args2 (k.eq1 13 99 rfl) (k.eq1 14 100 rfl), fun _ => by kernel_rfl, less_c a c _⟩) fun _ => congrArg Value.bool ht282) ?_
        refine .o1 (tg rfl rfl rfl (fun _ _ k => k.eq1 1 87 rfl) fun _ w hn k => ⟨_, v_pickF rfl (k.eq1 12 98 rfl) (k.eq1 15 101 rfl), rfl⟩) ?_
        refine .o1 (tk rfl rfl fun _ w hn k => ⟨_, v_pickT rfl (k.eq1 1 87 rfl) (k.eq1 16 102 rfl), rfl⟩) ?_
        refine .o1 (tk rfl rfl fun _ w hn k => ⟨_, v_move rfl (k.eq1 17 103 rfl), rfl⟩) ?_
        refine .o1 (tg rfl rfl rfl (fun _ _ k => k.eq1 18 104 rfl) fun _ w hn k => ⟨_, v_load rfl (k.fx 3 h271) (l_two Tryd.isAgg23 Tryd.sizeOf23 (hb276.new_ hn)), rfl⟩) ?_
        refine .o1 (tg rfl rfl rfl (fun _ _ k => k.eq1 18 104 rfl) fun _ w hn k => ⟨_, v_load rfl (k.fx 4 h272) (l_two Tryd.isAgg23 Tryd.sizeOf23 (hb277.new_ hn)), rfl⟩) ?_
        refine .o1 (cg rfl rfl rfl (fun _ _ k => k.eq1 18 104 rfl) rfl (fun _ w hn k => ⟨#[nv a, nv b], args2 (k.eq1 19 105 rfl) (k.eq1 20 106 rfl), fun _ => by kernel_rfl, less_c a b _⟩) fun _ => congrArg Value.bool ht280) ?_
        refine .o1 (tg rfl rfl rfl (fun _ _ k => k.eq1 18 104 rfl) fun _ w hn k => ⟨_, v_move rfl (k.eq1 21 107 rfl), rfl⟩) ?_
        refine .o1 (tg rfl rfl rfl (fun _ _ k => k.eq1 22 108 rfl) fun _ w hn k => ⟨_, v_load rfl (k.fx 4 h272) (l_two Tryd.isAgg23 Tryd.sizeOf23 (hb277.new_ hn)), rfl⟩) ?_
        refine .o1 (tg rfl rfl rfl (fun _ _ k => k.eq1 22 108 rfl) fun _ w hn k => ⟨_, v_load rfl (k.fx 3 h271) (l_two Tryd.isAgg23 Tryd.sizeOf23 (hb276.new_ hn)), rfl⟩) ?_
        refine .o1 (cg rfl rfl rfl (fun _ _ k => k.eq1 22 108 rfl) rfl (fun _ w hn k => ⟨#[nv b, nv a], args2 (k.eq1 23 109 rfl) (k.eq1 24 110 rfl), fun _ => by kernel_rfl, less_c b a _⟩) fun _ => congrArg Value.bool ht283) ?_
        refine .o1 (tg rfl rfl rfl (fun _ _ k => k.eq1 18 104 rfl) fun _ w hn k => ⟨_, v_pickT rfl (k.eq1 22 108 rfl) (k.eq1 25 111 rfl), rfl⟩) ?_
        refine .o1 (tg rfl rfl rfl (fun _ _ k => k.eq1 18 104 rfl) fun _ w hn k => ⟨_, v_not rfl (k.eq1 26 112 rfl), rfl⟩) ?_
        refine .o1 (tk rfl rfl fun _ w hn k => ⟨_, v_pickT rfl (k.eq1 18 104 rfl) (k.eq1 27 113 rfl), rfl⟩) ?_
        refine .o1 (tk rfl rfl fun _ w hn k => ⟨_, v_move rfl (k.eq1 28 114 rfl), rfl⟩) ?_
        refine .o1 (tg rfl rfl rfl (fun _ _ k => k.eq1 29 115 rfl) fun _ w hn k => ⟨_, v_load rfl (k.fx 3 h271) (l_two Tryd.isAgg23 Tryd.sizeOf23 (hb276.new_ hn)), rfl⟩) ?_
        refine .o1 (tg rfl rfl rfl (fun _ _ k => k.eq1 29 115 rfl) fun _ w hn k => ⟨_, v_load rfl (k.fx 4 h272) (l_two Tryd.isAgg23 Tryd.sizeOf23 (hb277.new_ hn)), rfl⟩) ?_
        refine .o1 (cg rfl rfl rfl (fun _ _ k => k.eq1 29 115 rfl) rfl (fun _ w hn k => ⟨#[nv a, nv b], args2 (k.eq1 30 116 rfl) (k.eq1 31 117 rfl), fun _ => by kernel_rfl, less_c a b _⟩) fun _ => congrArg Value.bool ht280) ?_
        refine .o1 (tg rfl rfl rfl (fun _ _ k => k.eq1 29 115 rfl) fun _ w hn k => ⟨_, v_move rfl (k.eq1 32 118 rfl), rfl⟩) ?_
        refine .o1 (tg rfl rfl rfl (fun _ _ k => k.eq1 33 119 rfl) fun _ w hn k => ⟨_, v_load rfl (k.fx 3 h271) (l_two Tryd.isAgg23 Tryd.sizeOf23 (hb276.new_ hn)), rfl⟩) ?_
        refine .o1 (tg rfl rfl rfl (fun _ _ k => k.eq1 33 119 rfl) fun _ w hn k => ⟨_, v_load rfl (k.fx 4 h272) (l_two Tryd.isAgg23 Tryd.sizeOf23 (hb277.new_ hn)), rfl⟩) ?_
        refine .o1 (cg rfl rfl rfl (fun _ _ k => k.eq1 33 119 rfl) rfl (fun _ w hn k => ⟨#[nv a, nv b], args2 (k.eq1 34 120 rfl) (k.eq1 35 121 rfl), fun _ => by kernel_rfl, equal_c a b _⟩) fun _ => congrArg Value.bool ht284) ?_
        refine .o1 (tg rfl rfl rfl (fun _ _ k => k.eq1 29 115 rfl) fun _ w hn k => ⟨_, v_pickT rfl (k.eq1 33 119 rfl) (k.eq1 36 122 rfl), rfl⟩) ?_
        refine .o1 (tg rfl rfl rfl (fun _ _ k => k.eq1 29 115 rfl) fun _ w hn k => ⟨_, v_not rfl (k.eq1 37 123 rfl), rfl⟩) ?_
        refine .o1 (tk rfl rfl fun _ w hn k => ⟨_, v_pickT rfl (k.eq1 29 115 rfl) (k.eq1 38 124 rfl), rfl⟩) ?_
        refine .o1 (tk rfl rfl fun _ w hn k => ⟨_, v_assign rfl (k.eq1 39 125 rfl), rfl⟩) ?_
        exact .nil
      intro a285 w286 hn287 ha288
      have hs289 := ha288.size.trans hs269
      have hd290 := ha288.defers.trans hd270
      have h291 := ha288.ge 40 6 rfl
      have hN292 := hN279.transNew hn287
      clear hs269 hd270 h271 h272 h273 h274 h275 hb276 hq20 hb277 hq21 hb278 hq22 hN279 ha288 hn287
      refine st_nil ?_
      refine hK _ _ ?_
      clear hK K
      refine wp_ret (ret_k hd290 (v := .bool true) (res_t rfl h291 _) ?_)
      exact ⟨rfl, hN292⟩
    have ht293 : (lessM b a) = false := less_asymm ht280
    have ht294 : (equalM a b) = false := less_ne ht280
    refine wp_g0 [true, true, true, true, true, true, true, true, true, true, true, true, true, true, true, true, true, true, true, true, true, true, true, true, true, true, true, true, true, true, true, true, true, true, true, true, true, true, true, true, true] [] 126
      [ve (.bool true),
       ve (.bool true),
       ve (nv a),
       ve (nv b),
       ve (.bool true),
       ve (.bool false),
       ve (.bool false),
       ve (nv b),
       ve (nv c),
       ve (.bool false),
       ve (.bool true),
       ve (.bool true),
       ve (.bool true),
       ve undef,
       ve undef,
       ve undef,
       ve (.bool true),
       ve (.bool true),
       ve (.bool true),
       ve (nv a),
       ve (nv b),
       ve (.bool true),
       ve (.bool true),
       ve (nv b),
       ve (nv a),
       ve (.bool false),
       ve (.bool false),
       ve (.bool true),
       ve (.bool true),
       ve (.bool true),
       ve (nv a),
       ve (nv b),
       ve (.bool true),
       ve (.bool true),
       ve (nv a),
       ve (nv b),
       ve (.bool false),
       ve (.bool false),
       ve (.bool true),
       ve (.bool true),
       ve (.bool true)] hs269 (.eq (.eq (.eq (.eq (.eq (.eq (.eq (.eq (.eq (.eq (.eq (.eq (.eq (.eq (.eq (.eq (.eq (.eq (.eq (.eq (.eq (.eq (.eq (.eq (.eq (.eq (.eq (.eq (.eq (.eq (.eq (.eq (.eq (.eq (.eq (.eq (.eq (.eq (.eq (.eq (.eq (.nil)))))))))))))))))))))))))))))))))))))))))) ?_ ?_
    · skip
      refine .o1 (ck rfl rfl rfl (fun _ w hn k => ⟨#[], rfl, fun _ => by kernel_rfl, first_c  _⟩) fun _ => rfl) ?_
      refine .o1 (tk rfl rfl fun _ w hn k => ⟨_, v_move rfl (k.eq1 0 86 rfl), rfl⟩) ?_
      refine .o1 (tg rfl rfl rfl (fun _ _ k => k.eq1 1 87 rfl) fun _ w hn k => ⟨_, v_load rfl (k.fx 3 h271) (l_two Tryd.isAgg23 Tryd.sizeOf23 (hb276.new_ hn)), rfl⟩) ?_
      refine .o1 (tg rfl rfl rfl (fun _ _ k => k.eq1 1 87 rfl) fun _ w hn k => ⟨_, v_load rfl (k.fx 4 h272) (l_two Tryd.isAgg23 Tryd.sizeOf23 (hb277.new_ hn)), rfl⟩) ?_
      refine .o1 (cg rfl rfl rfl (fun _ _ k => k.eq1 1 87 rfl) rfl (fun _ w hn k => ⟨#[nv a, nv b], args2 (k.eq1 2 88 rfl) (k.eq1 3 89 rfl), fun _ => by kernel_rfl, less_c a b _⟩) fun _ => congrArg Value.bool ht280) ?_
      refine .o1 (tg rfl rfl rfl (fun _ _ k => k.eq1 1 87 rfl) fun _ w hn k => ⟨_, v_not rfl (k.eq1 4 90 rfl), rfl⟩) ?_
      refine .o1 (tg rfl rfl rfl (fun _ _ k => k.eq1 1 87 rfl) fun _ w hn k => ⟨_, v_move rfl (k.eq1 5 91 rfl), rfl⟩) ?_
      refine .o1 (tg rfl rfl rfl (fun _ _ k => k.eq1 6 92 rfl) fun _ w hn k => ⟨_, v_load rfl (k.fx 4 h272) (l_two Tryd.isAgg23 Tryd.sizeOf23 (hb277.new_ hn)), rfl⟩) ?_
      refine .o1 (tg rfl rfl rfl (fun _ _ k => k.eq1 6 92 rfl) fun _ w hn k => ⟨_, v_load rfl (k.fx 5 h273) (l_two Tryd.isAgg23 Tryd.sizeOf23 (hb278.new_ hn)), rfl⟩) ?_
      refine .o1 (cg rfl rfl rfl (fun _ _ k => k.eq1 6 92 rfl) rfl (fun _ w hn k => ⟨#[nv b, nv c], args2 (k.eq1 7 93 rfl) (k.eq1 8 94 rfl), fun _ => by kernel_rfl, less_c b c _⟩) fun _ => congrArg Value.bool ht281) ?_
      refine .o1 (tg rfl rfl rfl (fun _ _ k => k.eq1 6 92 rfl) fun _ w hn k => ⟨_, v_not rfl (k.eq1 9 95 rfl), rfl⟩) ?_
      refine .o1 (tg rfl rfl rfl (fun _ _ k => k.eq1 1 87 rfl) fun _ w hn k => ⟨_, v_pickF rfl (k.eq1 6 92 rfl) (k.eq1 10 96 rfl), rfl⟩) ?_
      refine .o1 (tg rfl rfl rfl (fun _ _ k => k.eq1 1 87 rfl) fun _ w hn k => ⟨_, v_move rfl (k.eq1 11 97 rfl), rfl⟩) ?_
      refine .o1 (sk rfl rfl rfl (fun _ _ _ k => k.eq1 12 98 rfl) (fun _ => rfl)) ?_
      refine .o1 (sk rfl rfl rfl (fun _ _ _ k => k.eq1 12 98 rfl) (fun _ => rfl)) ?_
      refine .o1 (sk rfl rfl rfl (fun _ _ _ k => k.eq1 12 98 rfl) (fun _ => rfl)) ?_
      refine .o1 (tg rfl rfl rfl (fun _ _ k => k.eq1 1 87 rfl) fun _ w hn k => ⟨_, v_pickT rfl (k.eq1 12 98 rfl) rfl, rfl⟩) ?_
      refine .o1 (tk rfl rfl fun _ w hn k => ⟨_, v_pickT rfl (k.eq1 1 87 rfl) (k.eq1 16 102 rfl), rfl⟩) ?_
      refine .o1 (tk rfl rfl fun _ w hn k => ⟨_, v_move rfl (k.eq1 17 103 rfl), rfl⟩) ?_
      refine .o1 (tg rfl rfl rfl (fun _ _ k => k.eq1 18 104 rfl) fun _ w hn k => ⟨_, v_load rfl (k.fx 3 h271) (l_two Tryd.isAgg23 Tryd.sizeOf23 (hb276.new_ hn)), rfl⟩) ?_
      refine .o1 (tg rfl rfl rfl (fun _ _ k => k.eq1 18 104 rfl) fun _ w hn k => ⟨_, v_load rfl (k.fx 4 h272) (l_two Tryd.isAgg23 Tryd.sizeOf23 (hb277.new_ hn)), rfl⟩) ?_
      refine .o1 (cg rfl rfl rfl (fun _ _ k => k.eq1 18 104 rfl) rfl (fun _ w hn k => ⟨#[nv a, nv b], args2 (k.eq1 19 105 rfl) (k.eq1 20 106 rfl), fun _ => by kernel_rfl, less_c a b _⟩) fun _ => congrArg Value.bool ht280) ?_
      refine .o1 (tg rfl rfl rfl (fun _ _ k => k.eq1 18 104 rfl) fun _ w hn k => ⟨_, v_move rfl (k.eq1 21 107 rfl), rfl⟩) ?_
      refine .o1 (tg rfl rfl rfl (fun _ _ k => k.eq1 22 108 rfl) fun _ w hn k => ⟨_, v_load rfl (k.fx 4 h272) (l_two Tryd.isAgg23 Tryd.sizeOf23 (hb277.new_ hn)), rfl⟩) ?_
      refine .o1 (tg rfl rfl rfl (fun _ _ k => k.eq1 22 108 rfl) fun _ w hn k => ⟨_, v_load rfl (k.fx 3 h271) (l_two Tryd.isAgg23 Tryd.sizeOf23 (hb276.new_ hn)), rfl⟩) ?_
      refine .o1 (cg rfl rfl rfl (fun _ _ k => k.eq1 22 108 rfl) rfl (fun _ w hn k => ⟨#[nv b, nv a], args2 (k.eq1 23 109 rfl) (k.eq1 24 110 rfl), fun _ => by kernel_rfl, less_c b a _⟩) fun _ => congrArg Value.bool ht293) ?_
      refine .o1 (tg rfl rfl rfl (fun _ _ k => k.eq1 18 104 rfl) fun _ w hn k => ⟨_, v_pickT rfl (k.eq1 22 108 rfl) (k.eq1 25 111 rfl), rfl⟩) ?_
      refine .o1 (tg rfl rfl rfl (fun _ _ k => k.eq1 18 104 rfl) fun _ w hn k => ⟨_, v_not rfl (k.eq1 26 112 rfl), rfl⟩) ?_
      refine .o1 (tk rfl rfl fun _ w hn k => ⟨_, v_pickT rfl (k.eq1 18 104 rfl) (k.eq1 27 113 rfl), rfl⟩) ?_
      refine .o1 (tk rfl rfl fun _ w hn k => ⟨_, v_move rfl (k.eq1 28 114 rfl), rfl⟩) ?_
      refine .o1 (tg rfl rfl rfl (fun _ _ k => k.eq1 29 115 rfl) fun _ w hn k => ⟨_, v_load rfl (k.fx 3 h271) (l_two Tryd.isAgg23 Tryd.sizeOf23 (hb276.new_ hn)), rfl⟩) ?_
      refine .o1 (tg rfl rfl rfl (fun _ _ k => k.eq1 29 115 rfl) fun _ w hn k => ⟨_, v_load rfl (k.fx 4 h272) (l_two Tryd.isAgg23 Tryd.sizeOf23 (hb277.new_ hn)), rfl⟩) ?_
      refine .o1 (cg rfl rfl rfl (fun _ _ k => k.eq1 29 115 rfl) rfl (fun _ w hn k => ⟨#[nv a, nv b], args2 (k.eq1 30 116 rfl) (k.eq1 31 117 rfl), fun _ => by kernel_rfl, less_c a b _⟩) fun _ => congrArg Value.bool ht280) ?_
      refine .o1 (tg rfl rfl rfl (fun _ _ k => k.eq1 29 115 rfl) fun _ w hn k => ⟨_, v_move rfl (k.eq1 32 118 rfl), rfl⟩) ?_
      refine .o1 (tg rfl rfl rfl (fun _ _ k => k.eq1 33 119 rfl) fun _ w hn k => ⟨_, v_load rfl (k.fx 3 h271) (l_two Tryd.isAgg23 Tryd.sizeOf23 (hb276.new_ hn)), rfl⟩) ?_
      refine .o1 (tg rfl rfl rfl (fun _ _ k => k.eq1 33 119 rfl) fun _ w hn k => ⟨_, v_load rfl (k.fx 4 h272) (l_two Tryd.isAgg23 Tryd.sizeOf23 (hb277.new_ hn)), rfl⟩) ?_
      refine .o1 (cg rfl rfl rfl (fun _ _ k => k.eq1 33 119 rfl) rfl (fun _ w hn k => ⟨#[nv a, nv b], args2 (k.eq1 34 120 rfl) (k.eq1 35 121 rfl), fun _ => by kernel_rfl, equal_c a b _⟩) fun _ => congrArg Value.bool ht294) ?_
      refine .o1 (tg rfl rfl rfl (fun _ _ k => k.eq1 29 115 rfl) fun _ w hn k => ⟨_, v_pickT rfl (k.eq1 33 119 rfl) (k.eq1 36 122 rfl), rfl⟩) ?_
      refine .o1 (tg rfl rfl rfl (fun _ _ k => k.eq1 29 115 rfl) fun _ w hn k => ⟨_, v_not rfl (k.eq1 37 123 rfl), rfl⟩) ?_
      refine .o1 (tk rfl rfl fun _ w hn k => ⟨_, v_pickT rfl (k.eq1 29 115 rfl) (k.eq1 38 124 rfl), rfl⟩) ?_
      refine .o1 (tk rfl rfl fun _ w hn k => ⟨_, v_assign rfl (k.eq1 39 125 rfl), rfl⟩) ?_
      exact .nil
    intro a295 w296 hn297 ha298
    have hs299 := ha298.size.trans hs269
    have hd300 := ha298.defers.trans hd270
    have h301 := ha298.ge 40 6 rfl
    have hN302 := hN279.transNew hn297
    clear hs269 hd270 h271 h272 h273 h274 h275 hb276 hq20 hb277 hq21 hb278 hq22 hN279 ha298 hn297
    refine st_nil ?_
    refine hK _ _ ?_
    clear hK K
    refine wp_ret (ret_k hd300 (v := .bool true) (res_t rfl h301 _) ?_)
    exact ⟨rfl, hN302⟩
  refine wp_g0 [true, true, true, true, true, true, true, true, true, true, true, true, true, true, true, true, true, true, true, true, true, true, true, true, true, true, true, true, true, true, true, true, true, true, true, true, true, true, true, true, true] [] 126
    [ve (.bool true),
     ve (.bool true),
     ve (nv a),
     ve (nv b),
     ve (.bool false),
     ve (.bool true),
     ve (.bool true),
     ve undef,
     ve undef,
     ve undef,
     ve undef,
     ve (.bool true),
     ve (.bool true),
     ve undef,
     ve undef,
     ve undef,
     ve (.bool true),
     ve (.bool true),
     ve (.bool true),
     ve (nv a),
     ve (nv b),
     ve (.bool false),
     ve (.bool false),
     ve undef,
     ve undef,
     ve undef,
     ve (.bool false),
     ve (.bool true),
     ve (.bool true),
     ve (.bool true),
     ve (nv a),
     ve (nv b),
     ve (.bool false),
     ve (.bool false),
     ve undef,
     ve undef,
     ve undef,
     ve (.bool false),
     ve (.bool true),
     ve (.bool true),
     ve (.bool true)] hs269 (.eq (.eq (.eq (.eq (.eq (.eq (.eq (.eq (.eq (.eq (.eq (.eq (.eq (.eq (.eq (.eq (.eq (.eq (.eq (.eq (.eq (.eq (.eq (.eq (.eq (.eq (.eq (.eq (.eq (.eq (.eq (.eq (.eq (.eq (.eq (.eq (.eq (.eq (.eq (.eq (.eq (.nil)))))))))))))))))))))))))))))))))))))))))) ?_ ?_
  · skip
    refine .o1 (ck rfl rfl rfl (fun _ w hn k => ⟨#[], rfl, fun _ => by kernel_rfl, first_c  _⟩) fun _ => rfl) ?_
    refine .o1 (tk rfl rfl fun _ w hn k => ⟨_, v_move rfl (k.eq1 0 86 rfl), rfl⟩) ?_
    refine .o1 (tg rfl rfl rfl (fun _ _ k => k.eq1 1 87 rfl) fun _ w hn k => ⟨_, v_load rfl (k.fx 3 h271) (l_two Tryd.isAgg23 Tryd.sizeOf23 (hb276.new_ hn)), rfl⟩) ?_
    refine .o1 (tg rfl rfl rfl (fun _ _ k => k.eq1 1 87 rfl) fun _ w hn k => ⟨_, v_load rfl (k.fx 4 h272) (l_two Tryd.isAgg23 Tryd.sizeOf23 (hb277.new_ hn)), rfl⟩) ?_
    refine .o1 (cg rfl rfl rfl (fun _ _ k => k.eq1 1 87 rfl) rfl (fun _ w hn k => ⟨#[nv a, nv b], args2 (k.eq1 2 88 rfl) (k.eq1 3 89 rfl), fun _ => by kernel_rfl, less_c a b _⟩) fun _ => congrArg Value.bool ht280) ?_
    refine .o1 (tg rfl rfl rfl (fun _ _ k => k.eq1 1 87 rfl) fun _ w hn k => ⟨_, v_not rfl (k.eq1 4 90 rfl), rfl⟩) ?_
    refine .o1 (tg rfl rfl rfl (fun _ _ k => k.eq1 1 87 rfl) fun _ w hn k => ⟨_, v_move rfl (k.eq1 5 91 rfl), rfl⟩) ?_
    refine .o1 (sk rfl rfl rfl (fun _ _ _ k => k.eq1 6 92 rfl) (fun _ => rfl)) ?_
    refine .o1 (sk rfl rfl rfl (fun _ _ _ k => k.eq1 6 92 rfl) (fun _ => rfl)) ?_
    refine .o1 (sk rfl rfl rfl (fun _ _ _ k => k.eq1 6 92 rfl) (fun _ => rfl)) ?_
    refine .o1 (sk rfl rfl rfl (fun _ _ _ k => k.eq1 6 92 rfl) (fun _ => rfl)) ?_
    refine .o1 (tg rfl rfl rfl (fun _ _ k => k.eq1 1 87 rfl) fun _ w hn k => ⟨_, v_pickT rfl (k.eq1 6 92 rfl) rfl, rfl⟩) ?_
    refine .o1 (tg rfl rfl rfl (fun _ _ k => k.eq1 1 87 rfl) fun _ w hn k => ⟨_, v_move rfl (k.eq1 11 97 rfl), rfl⟩) ?_
    refine .o1 (sk rfl rfl rfl (fun _ _ _ k => k.eq1 12 98 rfl) (fun _ => rfl)) ?_
    refine .o1 (sk rfl rfl rfl (fun _ _ _ k => k.eq1 12 98 rfl) (fun _ => rfl)) ?_
    refine .o1 (sk rfl rfl rfl (fun _ _ _ k => k.eq1 12 98 rfl) (fun _ => rfl)) ?_
    refine .o1 (tg rfl rfl rfl (fun _ _ k => k.eq1 1 87 rfl) fun _ w hn k => ⟨_, v_pickT rfl (k.eq1 12 98 rfl) rfl, rfl⟩) ?_
    refine .o1 (tk rfl rfl fun _ w hn k => ⟨_, v_pickT rfl (k.eq1 1 87 rfl) (k.eq1 16 102 rfl), rfl⟩) ?_
    refine .o1 (tk rfl rfl fun _ w hn k => ⟨_, v_move rfl (k.eq1 17 103 rfl), rfl⟩) ?_
    refine .o1 (tg rfl rfl rfl (fun _ _ k => k.eq1 18 104 rfl) fun _ w hn k => ⟨_, v_load rfl (k.fx 3 h271) (l_two Tryd.isAgg23 Tryd.sizeOf23 (hb276.new_ hn)), rfl⟩) ?_
    refine .o1 (tg rfl rfl rfl (fun _ _ k => k.eq1 18 104 rfl) fun _ w hn k => ⟨_, v_load rfl (k.fx 4 h272) (l_two Tryd.isAgg23 Tryd.sizeOf23 (hb277.new_ hn)), rfl⟩) ?_
    refine .o1 (cg rfl rfl rfl (fun _ _ k => k.eq1 18 104 rfl) rfl (fun _ w hn k => ⟨#[nv a, nv b], args2 (k.eq1 19 105 rfl) (k.eq1 20 106 rfl), fun _ => by kernel_rfl, less_c a b _⟩) fun _ => congrArg Value.bool ht280) ?_
    refine .o1 (tg rfl rfl rfl (fun _ _ k => k.eq1 18 104 rfl) fun _ w hn k => ⟨_, v_move rfl (k.eq1 21 107 rfl), rfl⟩) ?_
    refine .o1 (sk rfl rfl rfl (fun _ _ _ k => k.eq1 22 108 rfl) (fun _ => rfl)) ?_
    refine .o1 (sk rfl rfl rfl (fun _ _ _ k => k.eq1 22 108 rfl) (fun _ => rfl)) ?_
    refine .o1 (sk rfl rfl rfl (fun _ _ _ k => k.eq1 22 108 rfl) (fun _ => rfl)) ?_
    refine .o1 (tg rfl rfl rfl (fun _ _ k => k.eq1 18 104 rfl) fun _ w hn k => ⟨_, v_pickF rfl (k.eq1 22 108 rfl) rfl, rfl⟩) ?_
    refine .o1 (tg rfl rfl rfl (fun _ _ k => k.eq1 18 104 rfl) fun _ w hn k => ⟨_, v_not rfl (k.eq1 26 112 rfl), rfl⟩) ?_
    refine .o1 (tk rfl rfl fun _ w hn k => ⟨_, v_pickT rfl (k.eq1 18 104 rfl) (k.eq1 27 113 rfl), rfl⟩) ?_
    refine .o1 (tk rfl rfl fun _ w hn k => ⟨_, v_move rfl (k.eq1 28 114 rfl), rfl⟩) ?_
    refine .o1 (tg rfl rfl rfl (fun _ _ k => k.eq1 29 115 rfl) fun _ w hn k => ⟨_, v_load rfl (k.fx 3 h271) (l_two Tryd.isAgg23 Tryd.sizeOf23 (hb276.new_ hn)), rfl⟩) ?_
    refine .o1 (tg rfl rfl rfl (fun _ _ k => k.eq1 29 115 rfl) fun _ w hn k => ⟨_, v_load rfl (k.fx 4 h272) (l_two Tryd.isAgg23 Tryd.sizeOf23 (hb277.new_ hn)), rfl⟩) ?_
    refine .o1 (cg rfl rfl rfl (fun _ _ k => k.eq1 29 115 rfl) rfl (fun _ w hn k => ⟨#[nv a, nv b], args2 (k.eq1 30 116 rfl) (k.eq1 31 117 rfl), fun _ => by kernel_rfl, less_c a b _⟩) fun _ => congrArg Value.bool ht280) ?_
    refine .o1 (tg rfl rfl rfl (fun _ _ k => k.eq1 29 115 rfl) fun _ w hn k => ⟨_, v_move rfl (k.eq1 32 118 rfl), rfl⟩) ?_
    refine .o1 (sk rfl rfl rfl (fun _ _ _ k => k.eq1 33 119 rfl) (fun _ => rfl)) ?_
    refine .o1 (sk rfl rfl rfl (fun _ _ _ k => k.eq1 33 119 rfl) (fun _ => rfl)) ?_
    refine .o1 (sk rfl rfl rfl (fun _ _ _ k => k.eq1 33 119 rfl) (fun _ => rfl)) ?_
    refine .o1 (tg rfl rfl rfl (fun _ _ k => k.eq1 29 115 rfl) fun _ w hn k => ⟨_, v_pickF rfl (k.eq1 33 119 rfl) rfl, rfl⟩) ?_
    refine .o1 (tg rfl rfl rfl (fun _ _ k => k.eq1 29 115 rfl) fun _ w hn k => ⟨_, v_not rfl (k.eq1 37 123 rfl), rfl⟩) ?_
    refine .o1 (tk rfl rfl fun _ w hn k => ⟨_, v_pickT rfl (k.eq1 29 115 rfl) (k.eq1 38 124 rfl), rfl⟩) ?_
    refine .o1 (tk rfl rfl fun _ w hn k => ⟨_, v_assign rfl (k.eq1 39 125 rfl), rfl⟩) ?_
    exact .nil
  intro a303 w304 hn305 ha306
  have hs307 := ha306.size.trans hs269
  have hd308 := ha306.defers.trans hd270
  have h309 := ha306.ge 40 6 rfl
  have hN310 := hN279.transNew hn305
  clear hs269 hd270 h271 h272 h273 h274 h275 hb276 hq20 hb277 hq21 hb278 hq22 hN279 ha306 hn305
  refine st_nil ?_
  refine hK _ _ ?_
  clear hK K
  refine wp_ret (ret_k hd308 (v := .bool true) (res_t rfl h309 _) ?_)
  exact ⟨rfl, hN310⟩
set_option maxHeartbeats 8000000 in
set_option maxRecDepth 100000 in
theorem rests_walk2 (a : Nm) (b : Nm) (c : Nm) (w : World) (hy0 : mayB a = true) (hy1 : mayB b = true) (hy2 : decide ((a.k) = 0) = false) : Calls Tryd.prog 9 #[nv a, nv b, nv c] w (IsRet (.bool true) w) := by
  refine enter_abs Tryd.func9 rfl fun a0 hs0 hd0 hp => ?_
  have hs0 : a0.tmps.size = 126 := hs0
  have hN0 : New w w := Upd.refl _ _
  have hp0 : a0.eval (.tmp 0) = nv a := hp 0 _ rfl
  have hp1 : a0.eval (.tmp 1) = nv b := hp 1 _ rfl
  have hp2 : a0.eval (.tmp 2) = nv c := hp 2 _ rfl
  clear hp
  refine wp_seq_k fun K hK => ?_
  refine wp_g [true, true, true, true] [] [] 126
    [IsNew w 23 [iv a.k, iv a.n],
     IsNew w 23 [iv b.k, iv b.n],
     IsNew w 23 [iv c.k, iv c.n],
     ve (.bool false)]
    [0, 1, 2] (newsCons (fun v w h => IsNew.old h) (newsCons (fun v w h => IsNew.old h) (newsCons (fun v w h => IsNew.old h) newsNil))) hs0 (.nw (.nw (.nw (.eq (.nil))))) ?_ (fun i h => by cases h) ?_
  · skip
    refine .o2 (step_allocN (cs := [iv a.k, iv a.n]) (t := 23) rfl (noG rfl) (fun _ w hn k => v_box rfl (k.fx 0 hp0) (fun w => rfl)) (fun q _ hq hb => ⟨q, rfl, hq, hb⟩)) ?_
    refine .o2 (step_allocN (cs := [iv b.k, iv b.n]) (t := 23) rfl (noG rfl) (fun _ w hn k => v_box rfl (k.fx 1 hp1) (fun w => rfl)) (fun q _ hq hb => ⟨q, rfl, hq, hb⟩)) ?_
    refine .o2 (step_allocN (cs := [iv c.k, iv c.n]) (t := 23) rfl (noG rfl) (fun _ w hn k => v_box rfl (k.fx 2 hp2) (fun w => rfl)) (fun q _ hq hb => ⟨q, rfl, hq, hb⟩)) ?_
    refine .o1 (tk rfl rfl fun _ w hn k => ⟨_, v_assign rfl rfl, rfl⟩) ?_
    exact .nil
  intro a1 w2 hn3 ha4
  have hs5 := ha4.size.trans hs0
  have hd6 := ha4.defers.trans hd0
  obtain ⟨q8, h7, hq9, hb10⟩ : IsNew _ _ _ _ _ := ha4.got 0 3 rfl (by kernel_rfl)
  obtain ⟨q12, h11, hq13, hb14⟩ : IsNew _ _ _ _ _ := ha4.got 1 4 rfl (by kernel_rfl)
  obtain ⟨q16, h15, hq17, hb18⟩ : IsNew _ _ _ _ _ := ha4.got 2 5 rfl (by kernel_rfl)
  have h19 := ha4.ge 3 6 rfl
  have hq20 := Nat.le_trans hN0.size hq9
  have hq21 := Nat.le_trans hN0.size hq13
  have hq22 := Nat.le_trans hN0.size hq17
  have hN23 := hN0.transNew hn3
  clear hs0 hd0 hp0 hp1 hp2 hq9 hq13 hq17 hN0 ha4 hn3
  refine st_nil ?_
  refine hK _ _ ?_
  clear hK K
  refine wp_seq_k fun K hK => ?_
  refine wp_seq_k fun K hK => ?_
  refine wp_g0 [true, true] [] 126
    [ve (.bool true),
     ve (.bool false)] hs5 (.eq (.eq (.nil))) ?_ ?_
  · skip
    refine .o1 (ck rfl rfl rfl (fun _ w hn k => ⟨#[], rfl, fun _ => by kernel_rfl, first_c  _⟩) fun _ => rfl) ?_
    refine .o1 (tk rfl rfl fun _ w hn k => ⟨_, v_not rfl (k.eq1 0 13 rfl), rfl⟩) ?_
    exact .nil
  intro a24 w25 hn26 ha27
  have hs28 := ha27.size.trans hs5
  have hd29 := ha27.defers.trans hd6
  have h30 := ha27.fx 3 h7
  have h31 := ha27.fx 4 h11
  have h32 := ha27.fx 5 h15
  have h33 := ha27.fx 6 h19
  have h34 := ha27.ge 1 14 rfl
  have hb35 := hb10.new_ hn26
  have hb36 := hb14.new_ hn26
  have hb37 := hb18.new_ hn26
  have hN38 := hN23.transNew hn26
  clear hs5 hd6 h7 h11 h15 h19 hb10 hb14 hb18 hN23 ha27 hn26
  refine st_nil ?_
  refine hK _ _ ?_
  clear hK K
  refine wp_cond_false h34 ?_
  refine wp_skip ?_
  refine hK _ _ ?_
  clear hK K
  refine wp_seq_k fun K hK => ?_
  refine wp_g [true, true, true, true, true, true, true, false, false] [5] [(7, false), (8, true)] 126
    [ve (nv a),
     ve (nv b),
     ve (.tuple #[nv ((divM a b).1), .bool ((divM a b).2)]),
     ve (.tuple #[nv ((divM a b).1), .bool ((divM a b).2)]),
     ve (nv ((divM a b).1)),
     ve (.bool ((divM a b).2)),
     IsNew w25 23 [iv 0, iv 0],
     vt,
     vt]
    [6] (newsCons (fun v w h => IsNew.old h) newsNil) hs28 (.eq (.eq (.eq (.eq (.eq (.eq (.nw (.tt (.tt (.nil)))))))))) ?_ ?_ ?_
  · skip
    refine .o1 (tk rfl rfl fun _ w hn k => ⟨_, v_load rfl (k.fx 3 h30) (l_two Tryd.isAgg23 Tryd.sizeOf23 (hb35.new_ hn)), rfl⟩) ?_
    refine .o1 (tk rfl rfl fun _ w hn k => ⟨_, v_load rfl (k.fx 4 h31) (l_two Tryd.isAgg23 Tryd.sizeOf23 (hb36.new_ hn)), rfl⟩) ?_
    refine .o1 (ck rfl rfl rfl (fun _ w hn k => ⟨#[nv a, nv b], args2 (k.eq1 0 16 rfl) (k.eq1 1 17 rfl), fun _ => by kernel_rfl, div_c a b _⟩) fun _ => rfl) ?_
    refine .o1 (tk rfl rfl fun _ w hn k => ⟨_, v_move rfl (k.eq1 2 18 rfl), rfl⟩) ?_
    refine .o1 (tk rfl rfl fun _ w hn k => ⟨_, v_extract rfl (k.eq1 3 15 rfl) rfl, rfl⟩) ?_
    refine .o3 ?_
    refine .o2 (step_allocN (cs := [iv 0, iv 0]) (t := 23) rfl (noG rfl) (fun _ w hn k => rfl) (fun q _ hq hb => ⟨q, rfl, hq, hb⟩)) ?_
    refine .off ?_
    refine .off ?_
    exact .nil
  · skip
    intro i h
    simp only [List.contains_eq_mem, List.mem_cons, List.not_mem_nil, or_false, decide_eq_true_eq] at h
    subst h
    · exact eager_take rfl rfl fun _ w hn k => ⟨.bool ((divM a b).2), fun w => v_extract rfl (k.eq1 3 15 rfl) rfl, rfl⟩
  intro a39 w40 hn41 ha42
  have hs43 := ha42.size.trans hs28
  have hd44 := ha42.defers.trans hd29
  have h45 := ha42.fx 3 h30
  have h46 := ha42.fx 4 h31
  have h47 := ha42.fx 5 h32
  have h48 := ha42.fx 6 h33
  have h49 := ha42.ge 4 19 rfl
  have h50 := ha42.ge 5 20 rfl
  obtain ⟨q52, h51, hq53, hb54⟩ : IsNew _ _ _ _ _ := ha42.got 6 7 rfl (by kernel_rfl)
  have hb55 := hb35.new_ hn41
  have hb56 := hb36.new_ hn41
  have hb57 := hb37.new_ hn41
  have hne58 : q8 ≠ q52 := by have h1 := hb35.lt; have h2 := hq53; omega
  have hne59 : q12 ≠ q52 := by have h1 := hb36.lt; have h2 := hq53; omega
  have hne60 : q16 ≠ q52 := by have h1 := hb37.lt; have h2 := hq53; omega
  have hq61 := Nat.le_trans hN38.size hq53
  have hN62 := hN38.transNew hn41
  clear hs28 hd29 h30 h31 h32 h33 h34 hb35 hb36 hb37 hq53 hN38 ha42 hn41
  obtain ⟨w63, -, hst64, hb65, hu66, hf67⟩ := s_two (v0 := iv ((divM a b).1.k)) (v1 := iv ((divM a b).1.n)) Tryd.sizeOf23 rfl rfl rfl hb54
  refine st_act rfl rfl fun K68 hL69 => a_store' rfl h51 h49 hst64 (hL69 _ _ trivial ?_)
  have hb70 := hf67 _ _ _ (hne58) hb55
  have hb71 := hf67 _ _ _ (hne59) hb56
  have hb72 := hf67 _ _ _ (hne60) hb57
  have hN73 := hN62.trans hu66 (fun k hk hkb => by subst hkb; omega)
  clear hb54 hst64 K68 hL69 hN62 hb55 hb56 hb57 hu66 hf67
  refine st_take rfl rfl (y_assign (v := .bool ((divM a b).2)) rfl h50) rfl ?_
  obtain ⟨a74, ha75⟩ : ∃ a', a' = a39.put (some 8) (.bool ((divM a b).2)) := ⟨_, rfl⟩
  have hs76 : a74.tmps.size = 126 := by rw [ha75, put_size]; exact hs43
  have hd77 : a74.defers = [] := by rw [ha75, put_defers]; exact hd44
  have h78 : a74.eval (.tmp 3) = pv q8 := by rw [ha75, put_ne _ _ _ _ (by decide)]; exact h45
  have h79 : a74.eval (.tmp 4) = pv q12 := by rw [ha75, put_ne _ _ _ _ (by decide)]; exact h46
  have h80 : a74.eval (.tmp 5) = pv q16 := by rw [ha75, put_ne _ _ _ _ (by decide)]; exact h47
  have h81 : a74.eval (.tmp 6) = .bool false := by rw [ha75, put_ne _ _ _ _ (by decide)]; exact h48
  have h82 : a74.eval (.tmp 19) = nv ((divM a b).1) := by rw [ha75, put_ne _ _ _ _ (by decide)]; exact h49
  have h83 : a74.eval (.tmp 20) = .bool ((divM a b).2) := by rw [ha75, put_ne _ _ _ _ (by decide)]; exact h50
  have h84 : a74.eval (.tmp 7) = pv q52 := by rw [ha75, put_ne _ _ _ _ (by decide)]; exact h51
  have h85 : a74.eval (.tmp 8) = .bool ((divM a b).2) := by rw [ha75]; exact put_same _ _ _ (by rw [hs43]; decide)
  show stepsTo _ _ _ _ _ (a39.put (some 8) (.bool ((divM a b).2))) _
  rw [← ha75]
  clear ha75 hs43 hd44 h45 h46 h47 h48 h49 h50 h51
  clear hne58
  clear hne59
  clear hne60
  refine st_nil ?_
  clear h82 h83
  refine hK _ _ ?_
  clear hK K
  refine wp_seq_k fun K hK => ?_
  have ht86 : (mayB a) = true := hy0
  have ht87 : (mayB b) = true := hy1
  have ht88 : (decide (a.k = 0)) = false := hy2
  have ht88d := of_decide_eq_false ht88
  refine wp_g0 [true, true, true, true, true, true, true, true, true, true, true, true, true, true, true, true, true, true, true, true, true, true] [] 126
    [ve (nv a),
     ve (.bool true),
     ve (.bool true),
     ve (nv b),
     ve (.bool true),
     ve (.bool true),
     ve (.bool true),
     ve (pv q8),
     ve (iv a.k),
     ve (.bool false),
     ve (.bool false),
     ve (.bool false),
     ve undef,
     ve undef,
     ve undef,
     ve (.bool false),
     ve (.bool false),
     ve undef,
     ve undef,
     ve undef,
     ve (.bool false),
     ve (.bool false)] hs76 (.eq (.eq (.eq (.eq (.eq (.eq (.eq (.eq (.eq (.eq (.eq (.eq (.eq (.eq (.eq (.eq (.eq (.eq (.eq (.eq (.eq (.eq (.nil))))))))))))))))))))))) ?_ ?_
  · skip
    refine .o1 (tk rfl rfl fun _ w hn k => ⟨_, v_load rfl (k.fx 3 h78) (l_two Tryd.isAgg23 Tryd.sizeOf23 (hb70.new_ hn)), rfl⟩) ?_
    refine .o1 (ck rfl rfl rfl (fun _ w hn k => ⟨#[nv a], args1 (k.eq1 0 21 rfl), fun _ => by kernel_rfl, may_c a _⟩) fun _ => congrArg Value.bool ht86) ?_
    refine .o1 (tk rfl rfl fun _ w hn k => ⟨_, v_move rfl (k.eq1 1 22 rfl), rfl⟩) ?_
    refine .o1 (tg rfl rfl rfl (fun _ _ k => k.eq1 2 23 rfl) fun _ w hn k => ⟨_, v_load rfl (k.fx 4 h79) (l_two Tryd.isAgg23 Tryd.sizeOf23 (hb71.new_ hn)), rfl⟩) ?_
    refine .o1 (cg rfl rfl rfl (fun _ _ k => k.eq1 2 23 rfl) rfl (fun _ w hn k => ⟨#[nv b], args1 (k.eq1 3 24 rfl), fun _ => by kernel_rfl, may_c b _⟩) fun _ => congrArg Value.bool ht87) ?_
    refine .o1 (tk rfl rfl fun _ w hn k => ⟨_, v_pickT rfl (k.eq1 2 23 rfl) (k.eq1 4 25 rfl), rfl⟩) ?_
    refine .o1 (tk rfl rfl fun _ w hn k => ⟨_, v_move rfl (k.eq1 5 26 rfl), rfl⟩) ?_
    refine .o1 (tg rfl rfl rfl (fun _ _ k => k.eq1 6 27 rfl) fun _ w hn k => ⟨_, v_field rfl (k.fx 3 h78) (fun w => rfl), rfl⟩) ?_
    refine .o1 (tg rfl rfl rfl (fun _ _ k => k.eq1 6 27 rfl) fun _ w hn k => ⟨_, v_load rfl (k.eq1 7 28 rfl) (l_one Tryd.isAgg3 ((hb70.new_ hn).cell 0)), rfl⟩) ?_
    refine .o1 (tg rfl rfl rfl (fun _ _ k => k.eq1 6 27 rfl) fun _ w hn k => ⟨_, v_bin rfl (k.eq1 8 29 rfl) rfl (fun _ => rfl) (r_eql ht88), rfl⟩) ?_
    refine .o1 (tk rfl rfl fun _ w hn k => ⟨_, v_pickT rfl (k.eq1 6 27 rfl) (k.eq1 9 30 rfl), rfl⟩) ?_
    refine .o1 (tk rfl rfl fun _ w hn k => ⟨_, v_move rfl (k.eq1 10 31 rfl), rfl⟩) ?_
    refine .o1 (sk rfl rfl rfl (fun _ _ _ k => k.eq1 11 32 rfl) (fun _ => rfl)) ?_
    refine .o1 (sk rfl rfl rfl (fun _ _ _ k => k.eq1 11 32 rfl) (fun _ => rfl)) ?_
    refine .o1 (sk rfl rfl rfl (fun _ _ _ k => k.eq1 11 32 rfl) (fun _ => rfl)) ?_
    refine .o1 (tk rfl rfl fun _ w hn k => ⟨_, v_pickF rfl (k.eq1 11 32 rfl) rfl, rfl⟩) ?_
    refine .o1 (tk rfl rfl fun _ w hn k => ⟨_, v_move rfl (k.eq1 15 36 rfl), rfl⟩) ?_
    refine .o1 (sk rfl rfl rfl (fun _ _ _ k => k.eq1 16 37 rfl) (fun _ => rfl)) ?_
    refine .o1 (sk rfl rfl rfl (fun _ _ _ k => k.eq1 16 37 rfl) (fun _ => rfl)) ?_
    refine .o1 (sk rfl rfl rfl (fun _ _ _ k => k.eq1 16 37 rfl) (fun _ => rfl)) ?_
    refine .o1 (tk rfl rfl fun _ w hn k => ⟨_, v_pickF rfl (k.eq1 16 37 rfl) rfl, rfl⟩) ?_
    refine .o1 (tk rfl rfl fun _ w hn k => ⟨_, v_assign rfl (k.eq1 20 41 rfl), rfl⟩) ?_
    exact .nil
  intro a89 w90 hn91 ha92
  have hs93 := ha92.size.trans hs76
  have hd94 := ha92.defers.trans hd77
  have h95 := ha92.fx 3 h78
  have h96 := ha92.fx 4 h79
  have h97 := ha92.fx 5 h80
  have h98 := ha92.fx 6 h81
  have h99 := ha92.fx 7 h84
  have h100 := ha92.fx 8 h85
  have h101 := ha92.ge 21 9 rfl
  have hb102 := hb70.new_ hn91
  have hb103 := hb71.new_ hn91
  have hb104 := hb72.new_ hn91
  have hb105 := hb65.new_ hn91
  have hN106 := hN73.transNew hn91
  clear hs76 hd77 h78 h79 h80 h81 h84 h85 hb70 hb71 hb72 hb65 hN73 ha92 hn91
  refine st_nil ?_
  refine hK _ _ ?_
  clear hK K
  refine wp_seq_k fun K hK => ?_
  refine wp_seq_k fun K hK => ?_
  rcases Bool.eq_false_or_eq_true ((divM a b).2) with ht107 | ht107
  · skip
    have hv108 : a89.eval (.tmp 8) = .bool true := h100.trans (congrArg Value.bool ht107)
    clear h100
    refine wp_g0 [true, true, true, true] [] 126
      [ve (.bool true),
       ve (.bool true),
       ve (.bool false),
       ve (.bool false)] hs93 (.eq (.eq (.eq (.eq (.nil))))) ?_ ?_
    · skip
      refine .o1 (tk rfl rfl fun _ w hn k => ⟨_, v_move rfl (k.fx 8 hv108), rfl⟩) ?_
      refine .o1 (tk rfl rfl fun _ w hn k => ⟨_, v_move rfl (k.eq1 0 42 rfl), rfl⟩) ?_
      refine .o1 (tg rfl rfl rfl (fun _ _ k => k.eq1 1 43 rfl) fun _ w hn k => ⟨_, v_move rfl (k.fx 9 h101), rfl⟩) ?_
      refine .o1 (tk rfl rfl fun _ w hn k => ⟨_, v_pickT rfl (k.eq1 1 43 rfl) (k.eq1 2 44 rfl), rfl⟩) ?_
      exact .nil
    intro a109 w110 hn111 ha112
    have hs113 := ha112.size.trans hs93
    have hd114 := ha112.defers.trans hd94
    have h115 := ha112.fx 3 h95
    have h116 := ha112.fx 4 h96
    have h117 := ha112.fx 5 h97
    have h118 := ha112.fx 6 h98
    have h119 := ha112.fx 7 h99
    have h120 := ha112.fx 8 hv108
    have h121 := ha112.fx 9 h101
    have h122 := ha112.ge 3 45 rfl
    have hb123 := hb102.new_ hn111
    have hb124 := hb103.new_ hn111
    have hb125 := hb104.new_ hn111
    have hb126 := hb105.new_ hn111
    have hN127 := hN106.transNew hn111
    clear hs93 hd94 h95 h96 h97 h98 h99 hv108 h101 hb102 hb103 hb104 hb105 hN106 ha112 hn111
    refine st_nil ?_
    refine hK _ _ ?_
    clear hK K
    refine wp_cond_false h122 ?_
    refine wp_skip ?_
    refine hK _ _ ?_
    clear hK K
    refine wp_seq_k fun K hK => ?_
    refine wp_g [true, true, true, true, false] [] [(4, false)] 126
      [ve (nv a),
       ve (nv b),
       ve (nv (remM a b)),
       IsNew w110 23 [iv 0, iv 0],
       vt]
      [3] (newsCons (fun v w h => IsNew.old h) newsNil) hs113 (.eq (.eq (.eq (.nw (.tt (.nil)))))) ?_ (fun i h => by cases h) ?_
    · skip
      refine .o1 (tk rfl rfl fun _ w hn k => ⟨_, v_load rfl (k.fx 3 h115) (l_two Tryd.isAgg23 Tryd.sizeOf23 (hb123.new_ hn)), rfl⟩) ?_
      refine .o1 (tk rfl rfl fun _ w hn k => ⟨_, v_load rfl (k.fx 4 h116) (l_two Tryd.isAgg23 Tryd.sizeOf23 (hb124.new_ hn)), rfl⟩) ?_
      refine .o1 (ck rfl rfl rfl (fun _ w hn k => ⟨#[nv a, nv b], args2 (k.eq1 0 60 rfl) (k.eq1 1 61 rfl), fun _ => by kernel_rfl, rem_c a b _⟩) fun _ => rfl) ?_
      refine .o2 (step_allocN (cs := [iv 0, iv 0]) (t := 23) rfl (noG rfl) (fun _ w hn k => rfl) (fun q _ hq hb => ⟨q, rfl, hq, hb⟩)) ?_
      refine .off ?_
      exact .nil
    intro a128 w129 hn130 ha131
    have hs132 := ha131.size.trans hs113
    have hd133 := ha131.defers.trans hd114
    have h134 := ha131.fx 3 h115
    have h135 := ha131.fx 4 h116
    have h136 := ha131.fx 5 h117
    have h137 := ha131.fx 6 h118
    have h138 := ha131.fx 8 h120
    have h139 := ha131.fx 9 h121
    have h140 := ha131.ge 2 62 rfl
    obtain ⟨q142, h141, hq143, hb144⟩ : IsNew _ _ _ _ _ := ha131.got 3 12 rfl (by kernel_rfl)
    have hb145 := hb123.new_ hn130
    have hb146 := hb124.new_ hn130
    have hb147 := hb125.new_ hn130
    have hne148 : q8 ≠ q142 := by have h1 := hb123.lt; have h2 := hq143; omega
    have hne149 : q12 ≠ q142 := by have h1 := hb124.lt; have h2 := hq143; omega
    have hne150 : q16 ≠ q142 := by have h1 := hb125.lt; have h2 := hq143; omega
    have hq151 := Nat.le_trans hN127.size hq143
    have hN152 := hN127.transNew hn130
    clear hs113 hd114 h115 h116 h117 h118 h119 h120 h121 h122 hb123 hb124 hb125 hb126 hq61 hq143 hN127 ha131 hn130
    obtain ⟨w153, -, hst154, hb155, hu156, hf157⟩ := s_two (v0 := iv ((remM a b).k)) (v1 := iv ((remM a b).n)) Tryd.sizeOf23 rfl rfl rfl hb144
    refine st_act rfl rfl fun K158 hL159 => a_store' rfl h141 h140 hst154 (hL159 _ _ trivial ?_)
    have hb160 := hf157 _ _ _ (hne148) hb145
    have hb161 := hf157 _ _ _ (hne149) hb146
    have hb162 := hf157 _ _ _ (hne150) hb147
    have hN163 := hN152.trans hu156 (fun k hk hkb => by subst hkb; omega)
    clear hb144 hst154 K158 hL159 hN152 hb145 hb146 hb147 hu156 hf157
    clear hne148
    clear hne149
    clear hne150
    refine st_nil ?_
    clear h140
    refine hK _ _ ?_
    clear hK K
    refine wp_seq_k fun K hK => ?_
    refine wp_seq_k fun K hK => ?_
    refine wp_g0 [true, true, true, true, true, true, true, true, true, true, true, true, true, true, true, true, true, true, true, true, true, true, true] [] 126
      [ve (.bool false),
       ve (.bool false),
       ve undef,
       ve undef,
       ve undef,
       ve undef,
       ve undef,
       ve undef,
       ve undef,
       ve undef,
       ve undef,
       ve undef,
       ve undef,
       ve undef,
       ve undef,
       ve undef,
       ve undef,
       ve undef,
       ve undef,
       ve undef,
       ve undef,
       ve undef,
       ve (.bool false)] hs132 (.eq (.eq (.eq (.eq (.eq (.eq (.eq (.eq (.eq (.eq (.eq (.eq (.eq (.eq (.eq (.eq (.eq (.eq (.eq (.eq (.eq (.eq (.eq (.nil)))))))))))))))))))))))) ?_ ?_
    · skip
      refine .o1 (tk rfl rfl fun _ w hn k => ⟨_, v_move rfl (k.fx 9 h139), rfl⟩) ?_
      refine .o1 (tk rfl rfl fun _ w hn k => ⟨_, v_move rfl (k.eq1 0 63 rfl), rfl⟩) ?_
      refine .o1 (sk rfl rfl rfl (fun _ _ _ k => k.eq1 1 64 rfl) (fun _ => rfl)) ?_
      refine .o1 (sk rfl rfl rfl (fun _ _ _ k => k.eq1 1 64 rfl) (fun _ => rfl)) ?_
      refine .o1 (sk rfl rfl rfl (fun _ _ _ k => k.eq1 1 64 rfl) (fun _ => rfl)) ?_
      refine .o1 (sk rfl rfl rfl (fun _ _ _ k => k.eq1 1 64 rfl) (fun _ => rfl)) ?_
      refine .o1 (sk rfl rfl rfl (fun _ _ _ k => k.eq1 1 64 rfl) (fun _ => rfl)) ?_
      refine .o1 (sk rfl rfl rfl (fun _ _ _ k => k.eq1 1 64 rfl) (fun _ => rfl)) ?_
      refine .o1 (sk rfl rfl rfl (fun _ _ _ k => k.eq1 1 64 rfl) (fun _ => rfl)) ?_
      refine .o1 (sk rfl rfl rfl (fun _ _ _ k => k.eq1 1 64 rfl) (fun _ => rfl)) ?_
      refine .o1 (sk rfl rfl rfl (fun _ _ _ k => k.eq1 1 64 rfl) (fun _ => rfl)) ?_
      refine .o1 (sk rfl rfl rfl (fun _ _ _ k => k.eq1 1 64 rfl) (fun _ => rfl)) ?_
      refine .o1 (sk rfl rfl rfl (fun _ _ _ k => k.eq1 1 64 rfl) (fun _ => rfl)) ?_
      refine .o1 (sk rfl rfl rfl (fun _ _ _ k => k.eq1 1 64 rfl) (fun _ => rfl)) ?_
      refine .o1 (sk rfl rfl rfl (fun _ _ _ k => k.eq1 1 64 rfl) (fun _ => rfl)) ?_
      refine .o1 (sk rfl rfl rfl (fun _ _ _ k => k.eq1 1 64 rfl) (fun _ => rfl)) ?_
      refine .o1 (su rfl rfl rfl (fun _ _ _ k => k.eq1 15 78 rfl) (fun _ => rfl)) ?_
      refine .o1 (su rfl rfl rfl (fun _ _ _ k => k.eq1 15 78 rfl) (fun _ => rfl)) ?_
      refine .o1 (su rfl rfl rfl (fun _ _ _ k => k.eq1 15 78 rfl) (fun _ => rfl)) ?_
      refine .o1 (su rfl rfl rfl (fun _ _ _ k => k.eq1 15 78 rfl) (fun _ => rfl)) ?_
      refine .o1 (su rfl rfl rfl (fun _ _ _ k => k.eq1 15 78 rfl) (fun _ => rfl)) ?_
      refine .o1 (sk rfl rfl rfl (fun _ _ _ k => k.eq1 1 64 rfl) (fun _ => rfl)) ?_
      refine .o1 (tk rfl rfl fun _ w hn k => ⟨_, v_pickF rfl (k.eq1 1 64 rfl) rfl, rfl⟩) ?_
      exact .nil
    intro a164 w165 hn166 ha167
    have hs168 := ha167.size.trans hs132
    have hd169 := ha167.defers.trans hd133
    have h170 := ha167.fx 3 h134
    have h171 := ha167.fx 4 h135
    have h172 := ha167.fx 5 h136
    have h173 := ha167.fx 6 h137
    have h174 := ha167.ge 22 85 rfl
    have hb175 := hb160.new_ hn166
    have hb176 := hb161.new_ hn166
    have hb177 := hb162.new_ hn166
    have hN178 := hN163.transNew hn166
    clear hs132 hd133 h134 h135 h136 h137 h138 h139 h141 hb160 hb161 hb162 hb155 hq151 hN163 ha167 hn166
    refine st_nil ?_
    refine hK _ _ ?_
    clear hK K
    refine wp_cond_false h174 ?_
    refine wp_skip ?_
    refine hK _ _ ?_
    clear hK K
    refine wp_seq_k fun K hK => ?_
    rcases Bool.eq_false_or_eq_true (lessM a b) with ht179 | ht179
    · skip
      rcases Bool.eq_false_or_eq_true (lessM b c) with ht180 | ht180
      · skip
        have ht181 : (lessM a c) = true := less_trans ht179 ht180
        have ht182 : (lessM b a) = false := less_asymm ht179
        have ht183 : (equalM a b) = false := less_ne ht179
        refine wp_g0 [true, true, true, true, true, true, true, true, true, true, true, true, true, true, true, true, true, true, true, true, true, true, true, true, true, true, true, true, true, true, true, true, true, true, true, true, true, true, true, true, true] [] 126
          [ve (.bool true),
           ve (.bool true),
           ve (nv a),
           ve (nv b),
           ve (.bool true),
           ve (.bool false),
           ve (.bool false),
           ve (nv b),
           ve (nv c),
           ve (.bool true),
           ve (.bool false),
           ve (.bool false),
           ve (.bool false),
           ve (nv a),
           ve (nv c),
           ve (.bool true),
           ve (.bool true),
           ve (.bool true),
           ve (.bool true),
           ve (nv a),
           ve (nv b),
           ve (.bool true),
           ve (.bool true),
           ve (nv b),
           ve (nv a),
           ve (.bool false),
           ve (.bool false),
           ve (.bool true),
           ve (.bool true),
           ve (.bool true),
           ve (nv a),
           ve (nv b),
           ve (.bool true),
           ve (.bool true),
           ve (nv a),
           ve (nv b),
           ve (.bool false),
           ve (.bool false),
           ve (.bool true),
           ve (.bool true),
           ve (.bool true)] hs168 (.eq (.eq (.eq (.eq (.eq (.eq (.eq (.eq (.eq (.eq (.eq (.eq (.eq (.eq (.eq (.eq (.eq (.eq (.eq (.eq (.eq (.eq (.eq (.eq (.eq (.eq (.eq (.eq (.eq (.eq (.eq (.eq (.eq (.eq (.eq (.eq (.eq (.eq (.eq (.eq (.eq (.nil)))))))))))))))))))))))))))))))))))))))))) ?_ ?_
        · skip
          refine .o1 (ck rfl rfl rfl (fun _ w hn k => ⟨#[], rfl, fun _ => by kernel_rfl, first_c  _⟩) fun _ => rfl) ?_
          refine .o1 (tk rfl rfl fun _ w hn k => ⟨_, v_move rfl (k.eq1 0 86 rfl), rfl⟩) ?_
          refine .o1 (tg rfl rfl rfl (fun _ _ k => k.eq1 1 87 rfl) fun _ w hn k => ⟨_, v_load rfl (k.fx 3 h170) (l_two Tryd.isAgg23 Tryd.sizeOf23 (hb175.new_ hn)), rfl⟩) ?_
          refine .o1 (tg rfl rfl rfl (fun _ _ k => k.eq1 1 87 rfl) fun _ w hn k => ⟨_, v_load rfl (k.fx 4 h171) (l_two Tryd.isAgg23 Tryd.sizeOf23 (hb176.new_ hn)), rfl⟩) ?_
          refine .o1 (cg rfl rfl rfl (fun _ _ k => k.eq1 1 87 rfl) rfl (fun _ w hn k => ⟨#[nv a, nv b], args2 (k.eq1 2 88 rfl) (k.eq1 3 89 rfl), fun _ => by kernel_rfl, less_c a b _⟩) fun _ => congrArg Value.bool ht179) ?_
          refine .o1 (tg rfl rfl rfl (fun _ _ k => k.eq1 1 87 rfl) fun _ w hn k => ⟨_, v_not rfl (k.eq1 4 90 rfl), rfl⟩) ?_
          refine .o1 (tg rfl rfl rfl (fun _ _ k => k.eq1 1 87 rfl) fun _ w hn k => ⟨_, v_move rfl (k.eq1 5 91 rfl), rfl⟩) ?_
          refine .o1 (tg rfl rfl rfl (fun _ _ k => k.eq1 6 92 rfl) fun _ w hn k => ⟨_, v_load rfl (k.fx 4 h171) (l_two Tryd.isAgg23 Tryd.sizeOf23 (hb176.new_ hn)), rfl⟩) ?_
          refine .o1 (tg rfl rfl rfl (fun _ _ k => k.eq1 6 92 rfl) fun _ w hn k => ⟨_, v_load rfl (k.fx 5 h172) (l_two Tryd.isAgg23 Tryd.sizeOf23 (hb177.new_ hn)), rfl⟩) ?_
          refine .o1 (cg rfl rfl rfl (fun _ _ k => k.eq1 6 92 rfl) rfl (fun _ w hn k => ⟨#[nv b, nv c], args2 (k.eq1 7 93 rfl) (k.eq1 8 94 rfl), fun _ => by kernel_rfl, less_c b c _⟩) fun _ => congrArg Value.bool ht180) ?_
          refine .o1 (tg rfl rfl rfl (fun _ _ k => k.eq1 6 92 rfl) fun _ w hn k => ⟨_, v_not rfl (k.eq1 9 95 rfl), rfl⟩) ?_
          refine .o1 (tg rfl rfl rfl (fun _ _ k => k.eq1 1 87 rfl) fun _ w hn k => ⟨_, v_pickF rfl (k.eq1 6 92 rfl) (k.eq1 10 96 rfl), rfl⟩) ?_
          refine .o1 (tg rfl rfl rfl (fun _ _ k => k.eq1 1 87 rfl) fun _ w hn k => ⟨_, v_move rfl (k.eq1 11 97 rfl), rfl⟩) ?_
          refine .o1 (tg rfl rfl rfl (fun _ _ k => k.eq1 12 98 rfl) fun _ w hn k => ⟨_, v_load rfl (k.fx 3 h170) (l_two Tryd.isAgg23 Tryd.sizeOf23 (hb175.new_ hn)), rfl⟩) ?_
          refine .o1 (tg rfl rfl rfl (fun _ _ k => k.eq1 12 98 rfl) fun _ w hn k => ⟨_, v_load rfl (k.fx 5 h172) (l_two Tryd.isAgg23 Tryd.sizeOf23 (hb177.new_ hn)), rfl⟩) ?_
          refine .o1 (cg rfl rfl rfl (fun _ _ k => k.eq1 12 98 rfl) rfl (fun _ w hn k => ⟨#[nv a, nv c], args2 (k.eq1 13 99 rfl) (k.eq1 14 100 rfl), fun _ => by kernel_rfl, less_c a c _⟩) fun _ => congrArg Value.bool ht181) ?_
          refine .o1 (tg rfl rfl rfl (fun _ _ k => k.eq1 1 87 rfl) fun _ w hn k => ⟨_, v_pickF rfl (k.eq1 12 98 rfl) (k.eq1 15 101 rfl), rfl⟩) ?_
          refine .o1 (tk rfl rfl fun _ w hn k => ⟨_, v_pickT rfl (k.eq1 1 87 rfl) (k.eq1 16 102 rfl), rfl⟩) ?_
          refine .o1 (tk rfl rfl fun _ w hn k => ⟨_, v_move rfl (k.eq1 17 103 rfl), rfl⟩) ?_
          refine .o1 (tg rfl rfl rfl (fun _ _ k => k.eq1 18 104 rfl) fun _ w hn k => ⟨_, v_load rfl (k.fx 3 h170) (l_two Tryd.isAgg23 Tryd.sizeOf23 (hb175.new_ hn)), rfl⟩) ?_
          refine .o1 (tg rfl rfl rfl (fun _ _ k => k.eq1 18 104 rfl) fun _ w hn k => ⟨_, v_load rfl (k.fx 4 h171) (l_two Tryd.isAgg23 Tryd.sizeOf23 (hb176.new_ hn)), rfl⟩) ?_
          refine .o1 (cg rfl rfl rfl (fun _ _ k => k.eq1 18 104 rfl) rfl (fun _ w hn k => ⟨#[nv a, nv b], args2 (k.eq1 19 105 rfl) (k.eq1 20 106 rfl), fun _ => by kernel_rfl, less_c a b _⟩) fun _ => congrArg Value.bool ht179) ?_
          refine .o1 (tg rfl rfl rfl (fun _ _ k => k.eq1 18 104 rfl) fun _ w hn k => ⟨_, v_move rfl (k.eq1 21 107 rfl), rfl⟩) ?_
          refine .o1 (tg rfl rfl rfl (fun _ _ k => k.eq1 22 108 rfl) fun _ w hn k => ⟨_, v_load rfl (k.fx 4 h171) (l_two Tryd.isAgg23 Tryd.sizeOf23 (hb176.new_ hn)), rfl⟩) ?_
          refine .o1 (tg rfl rfl rfl (fun _ _ k => k.eq1 22 108 rfl) fun _ w hn k => ⟨_, v_load rfl (k.fx 3 h170) (l_two Tryd.isAgg23 Tryd.sizeOf23 (hb175.new_ hn)), rfl⟩) ?_
          refine .o1 (cg rfl rfl rfl (fun _ _ k => k.eq1 22 108 rfl) rfl (fun _ w hn k => ⟨#[nv b, nv a], args2 (k.eq1 23 109 rfl) (k.eq1 24 110 rfl), fun _ => by kernel_rfl, less_c b a _⟩) fun _ => congrArg Value.bool ht182) ?_
          refine .o1 (tg rfl rfl rfl (fun _ _ k => k.eq1 18 104 rfl) fun _ w hn k => ⟨_, v_pickT rfl (k.eq1 22 108 rfl) (k.eq1 25 111 rfl), rfl⟩) ?_
          refine .o1 (tg rfl rfl rfl (fun _ _ k => k.eq1 18 104 rfl) fun _ w hn k => ⟨_, v_not rfl (k.eq1 26 112 rfl), rfl⟩) ?_
          refine .o1 (tk rfl rfl fun _ w hn k => ⟨_, v_pickT rfl (k.eq1 18 104 rfl) (k.eq1 27 113 rfl), rfl⟩) ?_
          refine .o1 (tk rfl rfl fun _ w hn k => ⟨_, v_move rfl (k.eq1 28 114 rfl), rfl⟩) ?_
          refine .o1 (tg rfl rfl rfl (fun _ _ k => k.eq1 29 115 rfl) fun _ w hn k => ⟨_, v_load rfl (k.fx 3 h170) (l_two Tryd.isAgg23 Tryd.sizeOf23 (hb175.new_ hn)), rfl⟩) ?_
          refine .o1 (tg rfl rfl rfl (fun _ _ k => k.eq1 29 115 rfl) fun _ w hn k => ⟨_, v_load rfl (k.fx 4 h171) (l_two Tryd.isAgg23 Tryd.sizeOf23 (hb176.new_ hn)), rfl⟩) ?_
          refine .o1 (cg rfl rfl rfl (fun _ _ k => k.eq1 29 115 rfl) rfl (fun _ w hn k => ⟨#[nv a, nv b], args2 (k.eq1 30 116 rfl) (k.eq1 31 117 rfl), fun _ => by kernel_rfl, less_c a b _⟩) fun _ => congrArg Value.bool ht179) ?_
          refine .o1 (tg rfl rfl rfl (fun _ _ k => k.eq1 29 115 rfl) fun _ w hn k => ⟨_, v_move rfl (k.eq1 32 118 rfl), rfl⟩) ?_
          refine .o1 (tg rfl rfl rfl (fun _ _ k => k.eq1 33 119 rfl) fun _ w hn k => ⟨_, v_load rfl (k.fx 3 h170) (l_two Tryd.isAgg23 Tryd.sizeOf23 (hb175.new_ hn)), rfl⟩) ?_
          refine .o1 (tg rfl rfl rfl (fun _ _ k => k.eq1 33 119 rfl) fun _ w hn k => ⟨_, v_load rfl (k.fx 4 h171) (l_two Tryd.isAgg23 Tryd.sizeOf23 (hb176.new_ hn)), rfl⟩) ?_
          refine .o1 (cg rfl rfl rfl (fun _ _ k => k.eq1 33 119 rfl) rfl (fun _ w hn k => ⟨#[nv a, nv b], args2 (k.eq1 34 120 rfl) (k.eq1 35 121 rfl), fun _ => by kernel_rfl, equal_c a b _⟩) fun _ => congrArg Value.bool ht183) ?_
          refine .o1 (tg rfl rfl rfl (fun _ _ k => k.eq1 29 115 rfl) fun _ w hn k => ⟨_, v_pickT rfl (k.eq1 33 119 rfl) (k.eq1 36 122 rfl), rfl⟩) ?_
          refine .o1 (tg rfl rfl rfl (fun _ _ k => k.eq1 29 115 rfl) fun _ w hn k => ⟨_, v_not rfl (k.eq1 37 123 rfl), rfl⟩) ?_
          refine .o1 (tk rfl rfl fun _ w hn k => ⟨_, v_pickT rfl (k.eq1 29 115 rfl) (k.eq1 38 124 rfl), rfl⟩) ?_
          refine .o1 (tk rfl rfl fun _ w hn k => ⟨_, v_assign rfl (k.eq1 39 125 rfl), rfl⟩) ?_
          exact .nil
        intro a184 w185 hn186 ha187
        have hs188 := ha187.size.trans hs168
        have hd189 := ha187.defers.trans hd169
        have h190 := ha187.ge 40 6 rfl
        have hN191 := hN178.transNew hn186
        clear hs168 hd169 h170 h171 h172 h173 h174 hb175 hq20 hb176 hq21 hb177 hq22 hN178 ha187 hn186
        refine st_nil ?_
        refine hK _ _ ?_
        clear hK K
        refine wp_ret (ret_k hd189 (v := .bool true) (res_t rfl h190 _) ?_)
        exact ⟨rfl, hN191⟩
      have ht192 : (lessM b a) = false := less_asymm ht179
      have ht193 : (equalM a b) = false := less_ne ht179
      refine wp_g0 [true, true, true, true, true, true, true, true, true, true, true, true, true, true, true, true, true, true, true, true, true, true, true, true, true, true, true, true, true, true, true, true, true, true, true, true, true, true, true, true, true] [] 126
        [ve (.bool true),
         ve (.bool true),
         ve (nv a),
         ve (nv b),
         ve (.bool true),
         ve (.bool false),
         ve (.bool false),
         ve (nv b),
         ve (nv c),
         ve (.bool false),
         ve (.bool true),
         ve (.bool true),
         ve (.bool true),
         ve undef,
         ve undef,
         ve undef,
         ve (.bool true),
         ve (.bool true),
         ve (.bool true),
         ve (nv a),
         ve (nv b),
         ve (.bool true),
         ve (.bool true),
         ve (nv b),
         ve (nv a),
         ve (.bool false),
         ve (.bool false),
         ve (.bool true),
         ve (.bool true),
         ve (.bool true),
         ve (nv a),
         ve (nv b),
         ve (.bool true),
         ve (.bool true),
         ve (nv a),
         ve (nv b),
         ve (.bool false),
         ve (.bool false),
         ve (.bool true),
         ve (.bool true),
         ve (.bool true)] hs168 (.eq (.eq (.eq (.eq (.eq (.eq (.eq (.eq (.eq (.eq (.eq (.eq (.eq (.eq (.eq (.eq (.eq (.eq (.eq (.eq (.eq (.eq (.eq (.eq (.eq (.eq (.eq (.eq (.eq (.eq (.eq (.eq (.eq (.eq (.eq (.eq (.eq (.eq (.eq (.eq (.eq (.nil)))))))))))))))))))))))))))))))))))))))))) ?_ ?_
      · skip
        refine .o1 (ck rfl rfl rfl (fun _ w hn k => ⟨#[], rfl, fun _ => by kernel_rfl, first_c  _⟩) fun _ => rfl) ?_
        refine .o1 (tk rfl rfl fun _ w hn k => ⟨_, v_move rfl (k.eq1 0 86 rfl), rfl⟩) ?_
        refine .o1 (tg rfl rfl rfl (fun _ _ k => k.eq1 1 87 rfl) fun _ w hn k => ⟨_, v_load rfl (k.fx 3 h170) (l_two Tryd.isAgg23 Tryd.sizeOf23 (hb175.new_ hn)), rfl⟩) ?_
        refine .o1 (tg rfl rfl rfl (fun _ _ k => k.eq1 1 87 rfl) fun _ w hn k => ⟨_, v_load rfl (k.fx 4 h171) (l_two Tryd.isAgg23 Tryd.sizeOf23 (hb176.new_ hn)), rfl⟩) ?_
        refine .o1 (cg rfl rfl rfl (fun _ _ k => k.eq1 1 87 rfl) rfl (fun _ w hn k => ⟨#[nv a, nv b], args2 (k.eq1 2 88 rfl) (k.eq1 3 89 rfl), fun _ => by kernel_rfl, less_c a b _⟩) fun _ => congrArg Value.bool ht179) ?_
        refine .o1 (tg rfl rfl rfl (fun _ _ k => k.eq1 1 87 rfl) fun _ w hn k => ⟨_, v_not rfl (k.eq1 4 90 rfl), rfl⟩) ?_
        refine .o1 (tg rfl rfl rfl (fun _ _ k => k.eq1 1 87 rfl) fun _ w hn k => ⟨_, v_move rfl (k.eq1 5 91 rfl), rfl⟩) ?_
        refine .o1 (tg rfl rfl rfl (fun _ _ k => k.eq1 6 92 rfl) fun _ w hn k => ⟨_, v_load rfl (k.fx 4 h171) (l_two Tryd.isAgg23 Tryd.sizeOf23 (hb176.new_ hn)), rfl⟩) ?_
        refine .o1 (tg rfl rfl rfl (fun _ _ k => k.eq1 6 92 rfl) fun _ w hn k => ⟨_, v_load rfl (k.fx 5 h172) (l_two Tryd.isAgg23 Tryd.sizeOf23 (hb177.new_ hn)), rfl⟩) ?_
        refine .o1 (cg rfl rfl rfl (fun _ _ k => k.eq1 6 92 rfl) rfl (fun _ w hn k => ⟨#[nv b, nv c], args2 (k.eq1 7 93 rfl) (k.eq1 8 94 rfl), fun _ => by kernel_rfl, less_c b c _⟩) fun _ => congrArg Value.bool ht180) ?_
        refine .o1 (tg rfl rfl rfl (fun _ _ k => k.eq1 6 92 rfl) fun _ w hn k => ⟨_, v_not rfl (k.eq1 9 95 rfl), rfl⟩) ?_
        refine .o1 (tg rfl rfl rfl (fun _ _ k => k.eq1 1 87 rfl) fun _ w hn k => ⟨_, v_pickF rfl (k.eq1 6 92 rfl) (k.eq1 10 96 rfl), rfl⟩) ?_
        refine .o1 (tg rfl rfl rfl (fun _ _ k => k.eq1 1 87 rfl) fun _ w hn k => ⟨_, v_move rfl (k.eq1 11 97 rfl), rfl⟩) ?_
        refine .o1 (sk rfl rfl rfl (fun _ _ _ k => k.eq1 12 98 rfl) (fun _ => rfl)) ?_
        refine .o1 (sk rfl rfl rfl (fun _ _ _ k => k.eq1 12 98 rfl) (fun _ => rfl)) ?_
        refine .o1 (sk rfl rfl rfl (fun _ _ _ k => k.eq1 12 98 rfl) (fun _ => rfl)) ?_
        refine .o1 (tg rfl rfl rfl (fun _ _ k => k.eq1 1 87 rfl) fun _ w hn k => ⟨_, v_pickT rfl (k.eq1 12 98 rfl) rfl, rfl⟩) ?_
        refine .o1 (tk rfl rfl fun _ w hn k => ⟨_, v_pickT rfl (k.eq1 1 87 rfl) (k.eq1 16 102 rfl), rfl⟩) ?_
        refine .o1 (tk rfl rfl fun _ w hn k => ⟨_, v_move rfl (k.eq1 17 103 rfl), rfl⟩) ?_
        refine .o1 (tg rfl rfl rfl (fun _ _ k => k.eq1 18 104 rfl) fun _ w hn k => ⟨_, v_load rfl (k.fx 3 h170) (l_two Tryd.isAgg23 Tryd.sizeOf23 (hb175.new_ hn)), rfl⟩) ?_
        refine .o1 (tg rfl rfl rfl (fun _ _ k => k.eq1 18 104 rfl) fun _ w hn k => ⟨_, v_load rfl (k.fx 4 h171) (l_two Tryd.isAgg23 Tryd.sizeOf23 (hb176.new_ hn)), rfl⟩) ?_
        refine .o1 (cg rfl rfl rfl (fun _ _ k => k.eq1 18 104 rfl) rfl (fun _ w hn k => ⟨#[nv a, nv b], args2 (k.eq1 19 105 rfl) (k.eq1 20 106 rfl), fun _ => by kernel_rfl, less_c a b _⟩) fun _ => congrArg Value.bool ht179) ?_
        refine .o1 (tg rfl rfl rfl (fun _ _ k => k.eq1 18 104 rfl) fun _ w hn k => ⟨_, v_move rfl (k.eq1 21 107 rfl), rfl⟩) ?_
        refine .o1 (tg rfl rfl rfl (fun _ _ k => k.eq1 22 108 rfl) fun _ w hn k => ⟨_, v_load rfl (k.fx 4 h171) (l_two Tryd.isAgg23 Tryd.sizeOf23 (hb176.new_ hn)), rfl⟩) ?_
        refine .o1 (tg rfl rfl rfl (fun _ _ k => k.eq1 22 108 rfl) fun _ w hn k => ⟨_, v_load rfl (k.fx 3 h170) (l_two Tryd.isAgg23 Tryd.sizeOf23 (hb175.new_ hn)), rfl⟩) ?_
        refine .o1 (cg rfl rfl rfl (fun _ _ k => k.eq1 22 108 rfl) rfl (fun _ w hn k => ⟨#[nv b, nv a], args2 (k.eq1 23 109 rfl) (k.eq1 24 110 rfl), fun _ => by kernel_rfl, less_c b a _⟩) fun _ => congrArg Value.bool ht192) ?_
        refine .o1 (tg rfl rfl rfl (fun _ _ k => k.eq1 18 104 rfl) fun _ w hn k => ⟨_, v_pickT rfl (k.eq1 22 108 rfl) (k.eq1 25 111 rfl), rfl⟩) ?_
        refine .o1 (tg rfl rfl rfl (fun _ _ k => k.eq1 18 104 rfl) fun _ w hn k => ⟨_, v_not rfl (k.eq1 26 112 rfl), rfl⟩) ?_
        refine .o1 (tk rfl rfl fun _ w hn k => ⟨_, v_pickT rfl (k.eq1 18 104 rfl) (k.eq1 27 113 rfl), rfl⟩) ?_
        refine .o1 (tk rfl rfl fun _ w hn k => ⟨_, v_move rfl (k.eq1 28 114 rfl), rfl⟩) ?_
        refine .o1 (tg rfl rfl rfl (fun _ _ k => k.eq1 29 115 rfl) fun _ w hn k => ⟨_, v_load rfl (k.fx 3 h170) (l_two Tryd.isAgg23 Tryd.sizeOf23 (hb175.new_ hn)), rfl⟩) ?_
        refine .o1 (tg rfl rfl rfl (fun _ _ k => k.eq1 29 115 rfl) fun _ w hn k => ⟨_, v_load rfl (k.fx 4 h171) (l_two Tryd.isAgg23 Tryd.sizeOf23 (hb176.new_ hn)), rfl⟩) ?_
        refine .o1 (cg rfl rfl rfl (fun _ _ k => k.eq1 29 115 rfl) rfl (fun _ w hn k => ⟨#[nv a, nv b], args2 (k.eq1 30 116 rfl) (k.eq1 31 117 rfl), fun _ => by kernel_rfl, less_c a b _⟩) fun _ => congrArg Value.bool ht179) ?_
        refine .o1 (tg rfl rfl rfl (fun _ _ k => k.eq1 29 115 rfl) fun _ w hn k => ⟨_, v_move rfl (k.eq1 32 118 rfl), rfl⟩) ?_
        refine .o1 (tg rfl rfl rfl (fun _ _ k => k.eq1 33 119 rfl) fun _ w hn k => ⟨_, v_load rfl (k.fx 3 h170) (l_two Tryd.isAgg23 Tryd.sizeOf23 (hb175.new_ hn)), rfl⟩) ?_
        refine .o1 (tg rfl rfl rfl (fun _ _ k => k.eq1 33 119 rfl) fun _ w hn k => ⟨_, v_load rfl (k.fx 4 h171) (l_two Tryd.isAgg23 Tryd.sizeOf23 (hb176.new_ hn)), rfl⟩) ?_
        refine .o1 (cg rfl rfl rfl (fun _ _ k => k.eq1 33 119 rfl) rfl (fun _ w hn k => ⟨#[nv a, nv b], args2 (k.eq1 34 120 rfl) (k.eq1 35 121 rfl), fun _ => by kernel_rfl, equal_c a b _⟩) fun _ => congrArg Value.bool ht193) ?_
        refine .o1 (tg rfl rfl rfl (fun _ _ k => k.eq1 29 115 rfl) fun _ w hn k => ⟨_, v_pickT rfl (k.eq1 33 119 rfl) (k.eq1 36 122 rfl), rfl⟩) ?_
        refine .o1 (tg rfl rfl rfl (fun _ _ k => k.eq1 29 115 rfl) fun _ w hn k => ⟨_, v_not rfl (k.eq1 37 123 rfl), rfl⟩) ?_
        refine .o1 (tk rfl rfl fun _ w hn k => ⟨_, v_pickT rfl (k.eq1 29 115 rfl) (k.eq1 38 124 rfl), rfl⟩) ?_
        refine .o1 (tk rfl rfl fun _ w hn k => ⟨_, v_assign rfl (k.eq1 39 125 rfl), rfl⟩) ?_
        exact .nil
      intro a194 w195 hn196 ha197
      have hs198 := ha197.size.trans hs168
      have hd199 := ha197.defers.trans hd169
      have h200 := ha197.ge 40 6 rfl
      have hN201 := hN178.transNew hn196
      clear hs168 hd169 h170 h171 h172 h173 h174 hb175 hq20 hb176 hq21 hb177 hq22 hN178 ha197 hn196
      refine st_nil ?_
      refine hK _ _ ?_
      clear hK K
      refine wp_ret (ret_k hd199 (v := .bool true) (res_t rfl h200 _) ?_)
      exact ⟨rfl, hN201⟩
    refine wp_g0 [true, true, true, true, true, true, true, true, true, true, true, true, true, true, true, true, true, true, true, true, true, true, true, true, true, true, true, true, true, true, true, true, true, true, true, true, true, true, true, true, true] [] 126
      [ve (.bool true),
       ve (.bool true),
       ve (nv a),
       ve (nv b),
       ve (.bool false),
       ve (.bool true),
       ve (.bool true),
       ve undef,
       ve undef,
       ve undef,
       ve undef,
       ve (.bool true),
       ve (.bool true),
       ve undef,
       ve undef,
       ve undef,
       ve (.bool true),
       ve (.bool true),
       ve (.bool true),
       ve (nv a),
       ve (nv b),
       ve (.bool false),
       ve (.bool false),
       ve undef,
       ve undef,
       ve undef,
       ve (.bool false),
       ve (.bool true),
       ve (.bool true),
       ve (.bool true),
       ve (nv a),
       ve (nv b),
       ve (.bool false),
       ve (.bool false),
       ve undef,
       ve undef,
       ve undef,
       ve (.bool false),
       ve (.bool true),
       ve (.bool true),
       ve (.bool true)] hs168 (.eq (.eq (.eq (.eq (.eq (.eq (.eq (.eq (.eq (.eq (.eq (.eq (.eq (.eq (.eq (.eq (.eq (.eq (.eq (.eq (.eq (.eq (.eq (.eq (.eq (.eq (.eq (.eq (.eq (.eq (.eq (.eq (.eq (.eq (.eq (.eq (.eq (.eq (.eq (.eq (.eq (.nil)))))))))))))))))))))))))))))))))))))))))) ?_ ?_
    · skip
      refine .o1 (ck rfl rfl rfl (fun _ w hn k => ⟨#[], rfl, fun _ => by kernel_rfl, first_c  _⟩) fun _ => rfl) ?_
      refine .o1 (tk rfl rfl fun _ w hn k => ⟨_, v_move rfl (k.eq1 0 86 rfl), rfl⟩) ?_
      refine .o1 (tg rfl rfl rfl (fun _ _ k => k.eq1 1 87 rfl) fun _ w hn k => ⟨_, v_load rfl (k.fx 3 h170) (l_two Tryd.isAgg23 Tryd.sizeOf23 (hb175.new_ hn)), rfl⟩) ?_
      refine .o1 (tg rfl rfl rfl (fun _ _ k => k.eq1 1 87 rfl) fun _ w hn k => ⟨_, v_load rfl (k.fx 4 h171) (l_two Tryd.isAgg23 Tryd.sizeOf23 (hb176.new_ hn)), rfl⟩) ?_
      refine .o1 (cg rfl rfl rfl (fun _ _ k => k.eq1 1 87 rfl) rfl (fun _ w hn k => ⟨#[nv a, nv b], args2 (k.eq1 2 88 rfl) (k.eq1 3 89 rfl), fun _ => by kernel_rfl, less_c a b _⟩) fun _ => congrArg Value.bool ht179) ?_
      refine .o1 (tg rfl rfl rfl (fun _ _ k => k.eq1 1 87 rfl) fun _ w hn k => ⟨_, v_not rfl (k.eq1 4 90 rfl), rfl⟩) ?_
      refine .o1 (tg rfl rfl rfl (fun _ _ k => k.eq1 1 87 rfl) fun _ w hn k => ⟨_, v_move rfl (k.eq1 5 91 rfl), rfl⟩) ?_
      refine .o1 (sk rfl rfl rfl (fun _ _ _ k => k.eq1 6 92 rfl) (fun _ => rfl)) ?_
      refine .o1 (sk rfl rfl rfl (fun _ _ _ k => k.eq1 6 92 rfl) (fun _ => rfl)) ?_
      refine .o1 (sk rfl rfl rfl (fun _ _ _ k => k.eq1 6 92 rfl) (fun _ => rfl)) ?_
      refine .o1 (sk rfl rfl rfl (fun _ _ _ k => k.eq1 6 92 rfl) (fun _ => rfl)) ?_
      refine .o1 (tg rfl rfl rfl (fun _ _ k => k.eq1 1 87 rfl) fun _ w hn k => ⟨_, v_pickT rfl (k.eq1 6 92 rfl) rfl, rfl⟩) ?_
      refine .o1 (tg rfl rfl rfl (fun _ _ k => k.eq1 1 87 rfl) fun _ w hn k => ⟨_, v_move rfl (k.eq1 11 97 rfl), rfl⟩) ?_
      refine .o1 (sk rfl rfl rfl (fun _ _ _ k => k.eq1 12 98 rfl) (fun _ => rfl)) ?_
      refine .o1 (sk rfl rfl rfl (fun _ _ _ k => k.eq1 12 98 rfl) (fun _ => rfl)) ?_
      refine .o1 (sk rfl rfl rfl (fun _ _ _ k => k.eq1 12 98 rfl) (fun _ => rfl)) ?_
      refine .o1 (tg rfl rfl rfl (fun _ _ k => k.eq1 1 87 rfl) fun _ w hn k => ⟨_, v_pickT rfl (k.eq1 12 98 rfl) rfl, rfl⟩) ?_
      refine .o1 (tk rfl rfl fun _ w hn k => ⟨_, v_pickT rfl (k.eq1 1 87 rfl) (k.eq1 16 102 rfl), rfl⟩) ?_
      refine .o1 (tk rfl rfl fun _ w hn k => ⟨_, v_move rfl (k.eq1 17 103 rfl), rfl⟩) ?_
      refine .o1 (tg rfl rfl rfl (fun _ _ k => k.eq1 18 104 rfl) fun _ w hn k => ⟨_, v_load rfl (k.fx 3 h170) (l_two Tryd.isAgg23 Tryd.sizeOf23 (hb175.new_ hn)), rfl⟩) ?_
      refine .o1 (tg rfl rfl rfl (fun _ _ k => k.eq1 18 104 rfl) fun _ w hn k => ⟨_, v_load rfl (k.fx 4 h171) (l_two Tryd.isAgg23 Tryd.sizeOf23 (hb176.new_ hn)), rfl⟩) ?_
      refine .o1 (cg rfl rfl rfl (fun _ _ k => k.eq1 18 104 rfl) rfl (fun _ w hn k => ⟨#[nv a, nv b], args2 (k.eq1 19 105 rfl) (k.eq1 20 106 rfl), fun _ => by kernel_rfl, less_c a b _⟩) fun _ => congrArg Value.bool ht179) ?_
      refine .o1 (tg rfl rfl rfl (fun _ _ k => k.eq1 18 104 rfl) fun _ w hn k => ⟨_, v_move rfl (k.eq1 21 107 rfl), rfl⟩) ?_
      refine .o1 (sk rfl rfl rfl (fun _ _ _ k => k.eq1 22 108 rfl) (fun _ => rfl)) ?_
      refine .o1 (sk rfl rfl rfl (fun _ _ _ k => k.eq1 22 108 rfl) (fun _ => rfl)) ?_
      refine .o1 (sk rfl rfl rfl (fun _ _ _ k => k.eq1 22 108 rfl) (fun _ => rfl)) ?_
      refine .o1 (tg rfl rfl rfl (fun _ _ k => k.eq1 18 104 rfl) fun _ w hn k => ⟨_, v_pickF rfl (k.eq1 22 108 rfl) rfl, rfl⟩) ?_
      refine .o1 (tg rfl rfl rfl (fun _ _ k => k.eq1 18 104 rfl) fun _ w hn k => ⟨_, v_not rfl (k.eq1 26 112 rfl), rfl⟩) ?_
      refine .o1 (tk rfl rfl fun _ w hn k => ⟨_, v_pickT rfl (k.eq1 18 104 rfl) (k.eq1 27 113 rfl), rfl⟩) ?_
      refine .o1 (tk rfl rfl fun _ w hn k => ⟨_, v_move rfl (k.eq1 28 114 rfl), rfl⟩) ?_
      refine .o1 (tg rfl rfl rfl (fun _ _ k => k.eq1 29 115 rfl) fun _ w hn k => ⟨_, v_load rfl (k.fx 3 h170) (l_two Tryd.isAgg23 Tryd.sizeOf23 (hb175.new_ hn)), rfl⟩) ?_
      refine .o1 (tg rfl rfl rfl (fun _ _ k => k.eq1 29 115 rfl) fun _ w hn k => ⟨_, v_load rfl (k.fx 4 h171) (l_two Tryd.isAgg23 Tryd.sizeOf23 (hb176.new_ hn)), rfl⟩) ?_
      refine .o1 (cg rfl rfl rfl (fun _ _ k => k.eq1 29 115 rfl) rfl (fun _ w hn k => ⟨#[nv a, nv b], args2 (k.eq1 30 116 rfl) (k.eq1 31 117 rfl), fun _ => by kernel_rfl, less_c a b _⟩) fun _ => congrArg Value.bool ht179) ?_
      refine .o1 (tg rfl rfl rfl (fun _ _ k => k.eq1 29 115 rfl) fun _ w hn k => ⟨_, v_move rfl (k.eq1 32 118 rfl), rfl⟩) ?_
      refine .o1 (sk rfl rfl rfl (fun _ _ _ k => k.eq1 33 119 rfl) (fun _ => rfl)) ?_
      refine .o1 (sk rfl rfl rfl (fun _ _ _ k => k.eq1 33 119 rfl) (fun _ => rfl)) ?_
      refine .o1 (sk rfl rfl rfl (fun _ _ _ k => k.eq1 33 119 rfl) (fun _ => rfl)) ?_
      refine .o1 (tg rfl rfl rfl (fun _ _ k => k.eq1 29 115 rfl) fun _ w hn k => ⟨_, v_pickF rfl (k.eq1 33 119 rfl) rfl, rfl⟩) ?_
      refine .o1 (tg rfl rfl rfl (fun _ _ k => k.eq1 29 115 rfl) fun _ w hn k => ⟨_, v_not rfl (k.eq1 37 123 rfl), rfl⟩) ?_
      refine .o1 (tk rfl rfl fun _ w hn k => ⟨_, v_pickT rfl (k.eq1 29 115 rfl) (k.eq1 38 124 rfl), rfl⟩) ?_
      refine .o1 (tk rfl rfl fun _ w hn k => ⟨_, v_assign rfl (k.eq1 39 125 rfl), rfl⟩) ?_
      exact .nil
    intro a202 w203 hn204 ha205
    have hs206 := ha205.size.trans hs168
    have hd207 := ha205.defers.trans hd169
    have h208 := ha205.ge 40 6 rfl
    have hN209 := hN178.transNew hn204
    clear hs168 hd169 h170 h171 h172 h173 h174 hb175 hq20 hb176 hq21 hb177 hq22 hN178 ha205 hn204
    refine st_nil ?_
    refine hK _ _ ?_
    clear hK K
    refine wp_ret (ret_k hd207 (v := .bool true) (res_t rfl h208 _) ?_)
    exact ⟨rfl, hN209⟩
  have hv210 : a89.eval (.tmp 8) = .bool false := h100.trans (congrArg Value.bool ht107)
  clear h100
  refine wp_g0 [true, true, true, true] [] 126
    [ve (.bool false),
     ve (.bool false),
     ve undef,
     ve (.bool false)] hs93 (.eq (.eq (.eq (.eq (.nil))))) ?_ ?_
  · skip
    refine .o1 (tk rfl rfl fun _ w hn k => ⟨_, v_move rfl (k.fx 8 hv210), rfl⟩) ?_
    refine .o1 (tk rfl rfl fun _ w hn k => ⟨_, v_move rfl (k.eq1 0 42 rfl), rfl⟩) ?_
    refine .o1 (sk rfl rfl rfl (fun _ _ _ k => k.eq1 1 43 rfl) (fun _ => rfl)) ?_
    refine .o1 (tk rfl rfl fun _ w hn k => ⟨_, v_pickF rfl (k.eq1 1 43 rfl) rfl, rfl⟩) ?_
    exact .nil
  intro a211 w212 hn213 ha214
  have hs215 := ha214.size.trans hs93
  have hd216 := ha214.defers.trans hd94
  have h217 := ha214.fx 3 h95
  have h218 := ha214.fx 4 h96
  have h219 := ha214.fx 5 h97
  have h220 := ha214.fx 6 h98
  have h221 := ha214.fx 7 h99
  have h222 := ha214.fx 8 hv210
  have h223 := ha214.fx 9 h101
  have h224 := ha214.ge 3 45 rfl
  have hb225 := hb102.new_ hn213
  have hb226 := hb103.new_ hn213
  have hb227 := hb104.new_ hn213
  have hb228 := hb105.new_ hn213
  have hN229 := hN106.transNew hn213
  clear hs93 hd94 h95 h96 h97 h98 h99 hv210 h101 hb102 hb103 hb104 hb105 hN106 ha214 hn213
  refine st_nil ?_
  refine hK _ _ ?_
  clear hK K
  refine wp_cond_false h224 ?_
  refine wp_skip ?_
  refine hK _ _ ?_
  clear hK K
  refine wp_seq_k fun K hK => ?_
  refine wp_g [true, true, true, true, false] [] [(4, false)] 126
    [ve (nv a),
     ve (nv b),
     ve (nv (remM a b)),
     IsNew w212 23 [iv 0, iv 0],
     vt]
    [3] (newsCons (fun v w h => IsNew.old h) newsNil) hs215 (.eq (.eq (.eq (.nw (.tt (.nil)))))) ?_ (fun i h => by cases h) ?_
  · skip
    refine .o1 (tk rfl rfl fun _ w hn k => ⟨_, v_load rfl (k.fx 3 h217) (l_two Tryd.isAgg23 Tryd.sizeOf23 (hb225.new_ hn)), rfl⟩) ?_
    refine .o1 (tk rfl rfl fun _ w hn k => ⟨_, v_load rfl (k.fx 4 h218) (l_two Tryd.isAgg23 Tryd.sizeOf23 (hb226.new_ hn)), rfl⟩) ?_
    refine .o1 (ck rfl rfl rfl (fun _ w hn k => ⟨#[nv a, nv b], args2 (k.eq1 0 60 rfl) (k.eq1 1 61 rfl), fun _ => by kernel_rfl, rem_c a b _⟩) fun _ => rfl) ?_
    refine .o2 (step_allocN (cs := [iv 0, iv 0]) (t := 23) rfl (noG rfl) (fun _ w hn k => rfl) (fun q _ hq hb => ⟨q, rfl, hq, hb⟩)) ?_
    refine .off ?_
    exact .nil
  intro a230 w231 hn232 ha233
  have hs234 := ha233.size.trans hs215
  have hd235 := ha233.defers.trans hd216
  have h236 := ha233.fx 3 h217
  have h237 := ha233.fx 4 h218
  have h238 := ha233.fx 5 h219
  have h239 := ha233.fx 6 h220
  have h240 := ha233.fx 8 h222
  have h241 := ha233.fx 9 h223
  have h242 := ha233.ge 2 62 rfl
  obtain ⟨q244, h243, hq245, hb246⟩ : IsNew _ _ _ _ _ := ha233.got 3 12 rfl (by kernel_rfl)
  have hb247 := hb225.new_ hn232
  have hb248 := hb226.new_ hn232
  have hb249 := hb227.new_ hn232
  have hne250 : q8 ≠ q244 := by have h1 := hb225.lt; have h2 := hq245; omega
  have hne251 : q12 ≠ q244 := by have h1 := hb226.lt; have h2 := hq245; omega
  have hne252 : q16 ≠ q244 := by have h1 := hb227.lt; have h2 := hq245; omega
  have hq253 := Nat.le_trans hN229.size hq245
  have hN254 := hN229.transNew hn232
  clear hs215 hd216 h217 h218 h219 h220 h221 h222 h223 h224 hb225 hb226 hb227 hb228 hq61 hq245 hN229 ha233 hn232
  obtain ⟨w255, -, hst256, hb257, hu258, hf259⟩ := s_two (v0 := iv ((remM a b).k)) (v1 := iv ((remM a b).n)) Tryd.sizeOf23 rfl rfl rfl hb246
  refine st_act rfl rfl fun K260 hL261 => a_store' rfl h243 h242 hst256 (hL261 _ _ trivial ?_)
  have hb262 := hf259 _ _ _ (hne250) hb247
  have hb263 := hf259 _ _ _ (hne251) hb248
  have hb264 := hf259 _ _ _ (hne252) hb249
  have hN265 := hN254.trans hu258 (fun k hk hkb => by subst hkb; omega)
  clear hb246 hst256 K260 hL261 hN254 hb247 hb248 hb249 hu258 hf259
  clear hne250
  clear hne251
  clear hne252
  refine st_nil ?_
  clear h242
  refine hK _ _ ?_
  clear hK K
  refine wp_seq_k fun K hK => ?_
  refine wp_seq_k fun K hK => ?_
  refine wp_g0 [true, true, true, true, true, true, true, true, true, true, true, true, true, true, true, true, true, true, true, true, true, true, true] [] 126
    [ve (.bool false),
     ve (.bool false),
     ve undef,
     ve undef,
     ve undef,
     ve undef,
     ve undef,
     ve undef,
     ve undef,
     ve undef,
     ve undef,
     ve undef,
     ve undef,
     ve undef,
     ve undef,
     ve undef,
     ve undef,
     ve undef,
     ve undef,
     ve undef,
     ve undef,
     ve undef,
     ve (.bool false)] hs234 (.eq (.eq (.eq (.eq (.eq (.eq (.eq (.eq (.eq (.eq (.eq (.eq (.eq (.eq (.eq (.eq (.eq (.eq (.eq (.eq (.eq (.eq (.eq (.nil)))))))))))))))))))))))) ?_ ?_
  · skip
    refine .o1 (tk rfl rfl fun _ w hn k => ⟨_, v_move rfl (k.fx 9 h241), rfl⟩) ?_
    refine .o1 (tk rfl rfl fun _ w hn k => ⟨_, v_move rfl (k.eq1 0 63 rfl), rfl⟩) ?_
    refine .o1 (sk rfl rfl rfl (fun _ _ _ k => k.eq1 1 64 rfl) (fun _ => rfl)) ?_
    refine .o1 (sk rfl rfl rfl (fun _ _ _ k => k.eq1 1 64 rfl) (fun _ => rfl)) ?_
    refine .o1 (sk rfl rfl rfl (fun _ _ _ k => k.eq1 1 64 rfl) (fun _ => rfl)) ?_
    refine .o1 (sk rfl rfl rfl (fun _ _ _ k => k.eq1 1 64 rfl) (fun _ => rfl)) ?_
    refine .o1 (sk rfl rfl rfl (fun _ _ _ k => k.eq1 1 64 rfl) (fun _ => rfl)) ?_
    refine .o1 (sk rfl rfl rfl (fun _ _ _ k => k.eq1 1 64 rfl) (fun _ => rfl)) ?_
    refine .o1 (sk rfl rfl rfl (fun _ _ _ k => k.eq1 1 64 rfl) (fun _ => rfl)) ?_
    refine .o1 (sk rfl rfl rfl (fun _ _ _ k => k.eq1 1 64 rfl) (fun _ => rfl)) ?_
    refine .o1 (sk rfl rfl rfl (fun _ _ _ k => k.eq1 1 64 rfl) (fun _ => rfl)) ?_
    refine .o1 (sk rfl rfl rfl (fun _ _ _ k => k.eq1 1 64 rfl) (fun _ => rfl)) ?_
    refine .o1 (sk rfl rfl rfl (fun _ _ _ k => k.eq1 1 64 rfl) (fun _ => rfl)) ?_
    refine .o1 (sk rfl rfl rfl (fun _ _ _ k => k.eq1 1 64 rfl) (fun _ => rfl)) ?_
    refine .o1 (sk rfl rfl rfl (fun _ _ _ k => k.eq1 1 64 rfl) (fun _ => rfl)) ?_
    refine .o1 (sk rfl rfl rfl (fun _ _ _ k => k.eq1 1 64 rfl) (fun _ => rfl)) ?_
    refine .o1 (su rfl rfl rfl (fun _ _ _ k => k.eq1 15 78 rfl) (fun _ => rfl)) ?_
    refine .o1 (su rfl rfl rfl (fun _ _ _ k => k.eq1 15 78 rfl) (fun _ => rfl)) ?_
    refine .o1 (su rfl rfl rfl (fun _ _ _ k => k.eq1 15 78 rfl) (fun _ => rfl)) ?_
    refine .o1 (su rfl rfl rfl (fun _ _ _ k => k.eq1 15 78 rfl) (fun _ => rfl)) ?_
    refine .o1 (su rfl rfl rfl (fun _ _ _ k => k.eq1 15 78 rfl) (fun _ => rfl)) ?_
    refine .o1 (sk rfl rfl rfl (fun _ _ _ k => k.eq1 1 64 rfl) (fun _ => rfl)) ?_
    refine .o1 (tk rfl rfl fun _ w hn k => ⟨_, v_pickF rfl (k.eq1 1 64 rfl) rfl, rfl⟩) ?_
    exact .nil
  intro a266 w267 hn268 ha269
  have hs270 := ha269.size.trans hs234
  have hd271 := ha269.defers.trans hd235
  have h272 := ha269.fx 3 h236
  have h273 := ha269.fx 4 h237
  have h274 := ha269.fx 5 h238
  have h275 := ha269.fx 6 h239
  have h276 := ha269.ge 22 85 rfl
  have hb277 := hb262.new_ hn268
  have hb278 := hb263.new_ hn268
  have hb279 := hb264.new_ hn268
  have hN280 := hN265.transNew hn268
  clear hs234 hd235 h236 h237 h238 h239 h240 h241 h243 hb262 hb263 hb264 hb257 hq253 hN265 ha269 hn268
  refine st_nil ?_
  refine hK _ _ ?_
  clear hK K
  refine wp_cond_false h276 ?_
  refine wp_skip ?_
  refine hK _ _ ?_
  clear hK K
  refine wp_seq_k fun K hK => ?_
  rcases Bool.eq_false_or_eq_true (lessM a b) with ht281 | ht281
  · skip
    rcases Bool.eq_false_or_eq_true (lessM b c) with ht282 | ht282
    · skip
      have ht283 : (lessM a c) = true := less_trans ht281 ht282
      have ht284 : (lessM b a) = false := less_asymm ht281
      have ht285 : (equalM a b) = false := less_ne ht281
      refine wp_g0 [true, true, true, true, true, true, true, true, true, true, true, true, true, true, true, true, true, true, true, true, true, true, true, true, true, true, true, true, true, true, true, true, true, true, true, true, true, true, true, true, true] [] 126
        [ve (.bool true),
         ve (.bool true),
         ve (nv a),
         ve (nv b),
         ve (.bool true),
         ve (.bool false),
         ve (.bool false),
         ve (nv b),
         ve (nv c),
         ve (.bool true),
         ve (.bool false),
         ve (.bool false),
         ve (.bool false),
         ve (nv a),
         ve (nv c),
         ve (.bool true),
         ve (.bool true),
         ve (.bool true),
         ve (.bool true),
         ve (nv a),
         ve (nv b),
         ve (.bool true),
         ve (.bool true),
         ve (nv b),
         ve (nv a),
         ve (.bool false),
         ve (.bool false),
         ve (.bool true),
         ve (.bool true),
         ve (.bool true),
         ve (nv a),
         ve (nv b),
         ve (.bool true),
         ve (.bool true),
         ve (nv a),
         ve (nv b),
         ve (.bool false),
         ve (.bool false),
         ve (.bool true),
         ve (.bool true),
         ve (.bool true)] hs270 (.eq (.eq (.eq (.eq (.eq (.eq (.eq (.eq (.eq (.eq (.eq (.eq (.eq (.eq (.eq (.eq (.eq (.eq (.eq (.eq (.eq (.eq (.eq (.eq (.eq (.eq (.eq (.eq (.eq (.eq (.eq (.eq (.eq (.eq (.eq (.eq (.eq (.eq (.eq (.eq (.eq (.nil)))))))))))))))))))))))))))))))))))))))))) ?_ ?_
      · skip
        refine .o1 (ck rfl rfl rfl (fun _ w hn k => ⟨#[], rfl, fun _ => by kernel_rfl, first_c  _⟩) fun _ => rfl) ?_
        refine .o1 (tk rfl rfl fun _ w hn k => ⟨_, v_move rfl (k.eq1 0 86 rfl), rfl⟩) ?_
        refine .o1 (tg rfl rfl rfl (fun _ _ k => k.eq1 1 87 rfl) fun _ w hn k => ⟨_, v_load rfl (k.fx 3 h272) (l_two Tryd.isAgg23 Tryd.sizeOf23 (hb277.new_ hn)), rfl⟩) ?_
        refine .o1 (tg rfl rfl rfl (fun _ _ k => k.eq1 1 87 rfl) fun _ w hn k => ⟨_, v_load rfl (k.fx 4 h273) (l_two Tryd.isAgg23 Tryd.sizeOf23 (hb278.new_ hn)), rfl⟩) ?_
        refine .o1 (cg rfl rfl rfl (fun _ _ k => k.eq1 1 87 rfl) rfl (fun _ w hn k => ⟨#[nv a, nv b], args2 (k.eq1 2 88 rfl) (k.eq1 3 89 rfl), fun _ => by kernel_rfl, less_c a b _⟩) fun _ => congrArg Value.bool ht281) ?_
        refine .o1 (tg rfl rfl rfl (fun _ _ k => k.eq1 1 87 rfl) fun _ w hn k => ⟨_, v_not rfl (k.eq1 4 90 rfl), rfl⟩) ?_
        refine .o1 (tg rfl rfl rfl (fun _ _ k => k.eq1 1 87 rfl) fun _ w hn k => ⟨_, v_move rfl (k.eq1 5 91 rfl), rfl⟩) ?_
        refine .o1 (tg rfl rfl rfl (fun _ _ k => k.eq1 6 92 rfl) fun _ w hn k => ⟨_, v_load rfl (k.fx 4 h273) (l_two Tryd.isAgg23 Tryd.sizeOf23 (hb278.new_ hn)), rfl⟩) ?_
        refine .o1 (tg rfl rfl rfl (fun _ _ k => k.eq1 6 92 rfl) fun _ w hn k => ⟨_, v_load rfl (k.fx 5 h274) (l_two Tryd.isAgg23 Tryd.sizeOf23 (hb279.new_ hn)), rfl⟩) ?_
        refine .o1 (cg rfl rfl rfl (fun _ _ k => k.eq1 6 92 rfl) rfl (fun _ w hn k => ⟨#[nv b, nv c], args2 (k.eq1 7 93 rfl) (k.eq1 8 94 rfl), fun _ => by kernel_rfl, less_c b c _⟩) fun _ => congrArg Value.bool ht282) ?_
        refine .o1 (tg rfl rfl rfl (fun _ _ k => k.eq1 6 92 rfl) fun _ w hn k => ⟨_, v_not rfl (k.eq1 9 95 rfl), rfl⟩) ?_
        refine .o1 (tg rfl rfl rfl (fun _ _ k => k.eq1 1 87 rfl) fun _ w hn k => ⟨_, v_pickF rfl (k.eq1 6 92 rfl) (k.eq1 10 96 rfl), rfl⟩) ?_
        refine .o1 (tg rfl rfl rfl (fun _ _ k => k.eq1 1 87 rfl) fun _ w hn k => ⟨_, v_move rfl (k.eq1 11 97 rfl), rfl⟩) ?_
        refine .o1 (tg rfl rfl rfl (fun _ _ k => k.eq1 12 98 rfl) fun _ w hn k => ⟨_, v_load rfl (k.fx 3 h272) (l_two Tryd.isAgg23 Tryd.sizeOf23 (hb277.new_ hn)), rfl⟩) ?_
        refine .o1 (tg rfl rfl rfl (fun _ _ k => k.eq1 12 98 rfl) fun _ w hn k => ⟨_, v_load rfl (k.fx 5 h274) (l_two Tryd.isAgg23 Tryd.sizeOf23 (hb279.new_ hn)), rfl⟩) ?_
        refine .o1 (cg rfl rfl rfl (fun _ _ k => k.eq1 12 98 rfl) rfl (fun _ w hn k => ⟨#[nv a, nv c], args2 (k.eq1 13 99 rfl) (k.eq1 14 100 rfl), fun _ => by kernel_rfl, less_c a c _⟩) fun _ => congrArg Value.bool ht283) ?_
        refine .o1 (tg rfl rfl rfl (fun _ _ k => k.eq1 1 87 rfl) fun _ w hn k => ⟨_, v_pickF rfl (k.eq1 12 98 rfl) (k.eq1 15 101 rfl), rfl⟩) ?_
        refine .o1 (tk rfl rfl fun _ w hn k => ⟨_, v_pickT rfl (k.eq1 1 87 rfl) (k.eq1 16 102 rfl), rfl⟩) ?_
        refine .o1 (tk rfl rfl fun _ w hn k => ⟨_, v_move rfl (k.eq1 17 103 rfl), rfl⟩) ?_
        refine .o1 (tg rfl rfl rfl (fun _ _ k => k.eq1 18 104 rfl) fun _ w hn k => ⟨_, v_load rfl (k.fx 3 h272) (l_two Tryd.isAgg23 Tryd.sizeOf23 (hb277.new_ hn)), rfl⟩) ?_
        refine .o1 (tg rfl rfl rfl (fun _ _ k => k.eq1 18 104 rfl) fun _ w hn k => ⟨_, v_load rfl (k.fx 4 h273) (l_two Tryd.isAgg23 Tryd.sizeOf23 (hb278.new_ hn)), rfl⟩) ?_
        refine .o1 (cg rfl rfl rfl (fun _ _ k => k.eq1 18 104 rfl) rfl (fun _ w hn k => ⟨#[nv a, nv b], args2 (k.eq1 19 105 rfl) (k.eq1 20 106 rfl), fun _ => by kernel_rfl, less_c a b _⟩) fun _ => congrArg Value.bool ht281) ?_
        refine .o1 (tg rfl rfl rfl (fun _ _ k => k.eq1 18 104 rfl) fun _ w hn k => ⟨_, v_move rfl (k.eq1 21 107 rfl), rfl⟩) ?_
        refine .o1 (tg rfl rfl rfl (fun _ _ k => k.eq1 22 108 rfl) fun _ w hn k => ⟨_, v_load rfl (k.fx 4 h273) (l_two Tryd.isAgg23 Tryd.sizeOf23 (hb278.new_ hn)), rfl⟩) ?_
        refine .o1 (tg rfl rfl rfl (fun _ _ k => k.eq1 22 108 rfl) fun _ w hn k => ⟨_, v_load rfl (k.fx 3 h272) (l_two Tryd.isAgg23 Tryd.sizeOf23 (hb277.new_ hn)), rfl⟩) ?_
        refine .o1 (cg rfl rfl rfl (fun _ _ k => k.eq1 22 108 rfl) rfl (fun _ w hn k => ⟨#[nv b, nv a], args2 (k.eq1 23 109 rfl) (k.eq1 24 110 rfl), fun _ => by kernel_rfl, less_c b a _⟩) fun _ => congrArg Value.bool ht284) ?_
        refine .o1 (tg rfl rfl rfl (fun _ _ k => k.eq1 18 104 rfl) fun _ w hn k => ⟨_, v_pickT rfl (k.eq1 22 108 rfl) (k.eq1 25 111 rfl), rfl⟩) ?_
        refine .o1 (tg rfl rfl rfl (fun _ _ k => k.eq1 18 104 rfl) fun _ w hn k => ⟨_, v_not rfl (k.eq1 26 112 rfl), rfl⟩) ?_
        refine .o1 (tk rfl rfl fun _ w hn k => ⟨_, v_pickT rfl (k.eq1 18 104 rfl) (k.eq1 27 113 rfl), rfl⟩) ?_
        refine .o1 (tk rfl rfl fun _ w hn k => ⟨_, v_move rfl (k.eq1 28 114 rfl), rfl⟩) ?_
        refine .o1 (tg rfl rfl rfl (fun _ _ k => k.eq1 29 115 rfl) fun _ w hn k => ⟨_, v_load rfl (k.fx 3 h272) (l_two Tryd.isAgg23 Tryd.sizeOf23 (hb277.new_ hn)), rfl⟩) ?_
        refine .o1 (tg rfl rfl rfl (fun _ _ k => k.eq1 29 115 rfl) fun _ w hn k => ⟨_, v_load rfl (k.fx 4 h273) (l_two Tryd.isAgg23 Tryd.sizeOf23 (hb278.new_ hn)), rfl⟩) ?_
        refine .o1 (cg rfl rfl rfl (fun _ _ k => k.eq1 29 115 rfl) rfl (fun _ w hn k => ⟨#[nv a, nv b], args2 (k.eq1 30 116 rfl) (k.eq1 31 117 rfl), fun _ => by kernel_rfl, less_c a b _⟩) fun _ => congrArg Value.bool ht281) ?_
        refine .o1 (tg rfl rfl rfl (fun _ _ k => k.eq1 29 115 rfl) fun _ w hn k => ⟨_, v_move rfl (k.eq1 32 118 rfl), rfl⟩) ?_
        refine .o1 (tg rfl rfl rfl (fun _ _ k => k.eq1 33 119 rfl) fun _ w hn k => ⟨_, v_load rfl (k.fx 3 h272) (l_two Tryd.isAgg23 Tryd.sizeOf23 (hb277.new_ hn)), rfl⟩) ?_
        refine .o1 (tg rfl rfl rfl (fun _ _ k => k.eq1 33 119 rfl) fun _ w hn k => ⟨_, v_load rfl (k.fx 4 h273) (l_two Tryd.isAgg23 Tryd.sizeOf23 (hb278.new_ hn)), rfl⟩) ?_
        refine .o1 (cg rfl rfl rfl (fun _ _ k => k.eq1 33 119 rfl) rfl (fun _ w hn k => ⟨#[nv a, nv b], args2 (k.eq1 34 120 rfl) (k.eq1 35 121 rfl), fun _ => by kernel_rfl, equal_c a b _⟩) fun _ => congrArg Value.bool ht285) ?_
        refine .o1 (tg rfl rfl rfl (fun _ _ k => k.eq1 29 115 rfl) fun _ w hn k => ⟨_, v_pickT rfl (k.eq1 33 119 rfl) (k.eq1 36 122 rfl), rfl⟩) ?_
        refine .o1 (tg rfl rfl rfl (fun _ _ k => k.eq1 29 115 rfl) fun _ w hn k => ⟨_, v_not rfl (k.eq1 37 123 rfl), rfl⟩) ?_
        refine .o1 (tk rfl rfl fun _ w hn k => ⟨_, v_pickT rfl (k.eq1 29 115 rfl) (k.eq1 38 124 rfl), rfl⟩) ?_
        refine .o1 (tk rfl rfl fun _ w hn k => ⟨_, v_assign rfl (k.eq1 39 125 rfl), rfl⟩) ?_
        exact .nil
      intro a286 w287 hn288 ha289
      have hs290 := ha289.size.trans hs270
      have hd291 := ha289.defers.trans hd271
      have h292 := ha289.ge 40 6 rfl
      have hN293 := hN280.transNew hn288
      clear hs270 hd271 h272 h273 h274 h275 h276 hb277 hq20 hb278 hq21 hb279 hq22 hN280 ha289 hn288
      refine st_nil ?_
      refine hK _ _ ?_
      clear hK K
      refine wp_ret (ret_k hd291 (v := .bool true) (res_t rfl h292 _) ?_)
      exact ⟨rfl, hN293⟩
    have ht294 : (lessM b a) = false := less_asymm ht281
    have ht295 : (equalM a b) = false := less_ne ht281
    refine wp_g0 [true, true, true, true, true, true, true, true, true, true, true, true, true, true, true, true, true, true, true, true, true, true, true, true, true, true, true, true, true, true, true, true, true, true, true, true, true, true, true, true, true] [] 126
      [ve (.bool true),
       ve (.bool true),
       ve (nv a),
       ve (nv b),
       ve (.bool true),
       ve (.bool false),
       ve (.bool false),
       ve (nv b),
       ve (nv c),
       ve (.bool false),
       ve (.bool true),
       ve (.bool true),
       ve (.bool true),
       ve undef,
       ve undef,
       ve undef,
       ve (.bool true),
       ve (.bool true),
       ve (.bool true),
       ve (nv a),
       ve (nv b),
       ve (.bool true),
       ve (.bool true),
       ve (nv b),
       ve (nv a),
       ve (.bool false),
       ve (.bool false),
       ve (.bool true),
       ve (.bool true),
       ve (.bool true),
       ve (nv a),
       ve (nv b),
       ve (.bool true),
       ve (.bool true),
       ve (nv a),
       ve (nv b),
       ve (.bool false),
       ve (.bool false),
       ve (.bool true),
       ve (.bool true),
       ve (.bool true)] hs270 (.eq (.eq (.eq (.eq (.eq (.eq (.eq (.eq (.eq (.eq (.eq (.eq (.eq (.eq (.eq (.eq (.eq (.eq (.eq (.eq (.eq (.eq (.eq (.eq (.eq (.eq (.eq (.eq (.eq (.eq (.eq (.eq (.eq (.eq (.eq (.eq (.eq (.eq (.eq (.eq (.eq (.nil)))))))))))))))))))))))))))))))))))))))))) ?_ ?_
    · skip
      refine .o1 (ck rfl rfl rfl (fun _ w hn k => ⟨#[], rfl, fun _ => by kernel_rfl, first_c  _⟩) fun _ => rfl) ?_
      refine .o1 (tk rfl rfl fun _ w hn k => ⟨_, v_move rfl (k.eq1 0 86 rfl), rfl⟩) ?_
      refine .o1 (tg rfl rfl rfl (fun _ _ k => k.eq1 1 87 rfl) fun _ w hn k => ⟨_, v_load rfl (k.fx 3 h272) (l_two Tryd.isAgg23 Tryd.sizeOf23 (hb277.new_ hn)), rfl⟩) ?_
      refine .o1 (tg rfl rfl rfl (fun _ _ k => k.eq1 1 87 rfl) fun _ w hn k => ⟨_, v_load rfl (k.fx 4 h273) (l_two Tryd.isAgg23 Tryd.sizeOf23 (hb278.new_ hn)), rfl⟩) ?_
      refine .o1 (cg rfl rfl rfl (fun _ _ k => k.eq1 1 87 rfl) rfl (fun _ w hn k => ⟨#[nv a, nv b], args2 (k.eq1 2 88 rfl) (k.eq1 3 89 rfl), fun _ => by kernel_rfl, less_c a b _⟩) fun _ => congrArg Value.bool ht281) ?_
      refine .o1 (tg rfl rfl rfl (fun _ _ k => k.eq1 1 87 rfl) fun _ w hn k => ⟨_, v_not rfl (k.eq1 4 90 rfl), rfl⟩) ?_
      refine .o1 (tg rfl rfl rfl (fun _ _ k => k.eq1 1 87 rfl) fun _ w hn k => ⟨_, v_move rfl (k.eq1 5 91 rfl), rfl⟩) ?_
      refine .o1 (tg rfl rfl rfl (fun _ _ k => k.eq1 6 92 rfl) fun _ w hn k => ⟨_, v_load rfl (k.fx 4 h273) (l_two Tryd.isAgg23 Tryd.sizeOf23 (hb278.new_ hn)), rfl⟩) ?_
      refine .o1 (tg rfl rfl rfl (fun _ _ k => k.eq1 6 92 rfl) fun _ w hn k => ⟨_, v_load rfl (k.fx 5 h274) (l_two Tryd.isAgg23 Tryd.sizeOf23 (hb279.new_ hn)), rfl⟩) ?_
      refine .o1 (cg rfl rfl rfl (fun _ _ k => k.eq1 6 92 rfl) rfl (fun _ w hn k => ⟨#[nv b, nv c], args2 (k.eq1 7 93 rfl) (k.eq1 8 94 rfl), fun _ => by kernel_rfl, less_c b c _⟩) fun _ => congrArg Value.bool ht282) ?_
      refine .o1 (tg rfl rfl rfl (fun _ _ k => k.eq1 6 92 rfl) fun _ w hn k => ⟨_, v_not rfl (k.eq1 9 95 rfl), rfl⟩) ?_
      refine .o1 (tg rfl rfl rfl (fun _ _ k => k.eq1 1 87 rfl) fun _ w hn k => ⟨_, v_pickF rfl (k.eq1 6 92 rfl) (k.eq1 10 96 rfl), rfl⟩) ?_
      refine .o1 (tg rfl rfl rfl (fun _ _ k => k.eq1 1 87 rfl) fun _ w hn k => ⟨_, v_move rfl (k.eq1 11 97 rfl), rfl⟩) ?_
      refine .o1 (sk rfl rfl rfl (fun _ _ _ k => k.eq1 12 98 rfl) (fun _ => rfl)) ?_
      refine .o1 (sk rfl rfl rfl (fun _ _ _ k => k.eq1 12 98 rfl) (fun _ => rfl)) ?_
      refine .o1 (sk rfl rfl rfl (fun _ _ _ k => k.eq1 12 98 rfl) (fun _ => rfl)) ?_
      refine .o1 (tg rfl rfl rfl (fun _ _ k => k.eq1 1 87 rfl) fun _ w hn k => ⟨_, v_pickT rfl (k.eq1 12 98 rfl) rfl, rfl⟩) ?_
      refine .o1 (tk rfl rfl fun _ w hn k => ⟨_, v_pickT rfl (k.eq1 1 87 rfl) (k.eq1 16 102 rfl), rfl⟩) ?_
      refine .o1 (tk rfl rfl fun _ w hn k => ⟨_, v_move rfl (k.eq1 17 103 rfl), rfl⟩) ?_
      refine .o1 (tg rfl rfl rfl (fun _ _ k => k.eq1 18 104 rfl) fun _ w hn k => ⟨_, v_load rfl (k.fx 3 h272) (l_two Tryd.isAgg23 Tryd.sizeOf23 (hb277.new_ hn)), rfl⟩) ?_
      refine .o1 (tg rfl rfl rfl (fun _ _ k => k.eq1 18 104 rfl) fun _ w hn k => ⟨_, v_load rfl (k.fx 4 h273) (l_two Tryd.isAgg23 Tryd.sizeOf23 (hb278.new_ hn)), rfl⟩) ?_
      refine .o1 (cg rfl rfl rfl (fun _ _ k => k.eq1 18 104 rfl) rfl (fun _ w hn k => ⟨#[nv a, nv b], args2 (k.eq1 19 105 rfl) (k.eq1 20 106 rfl), fun _ => by kernel_rfl, less_c a b _⟩) fun _ => congrArg Value.bool ht281) ?_
      refine .o1 (tg rfl rfl rfl (fun _ _ k => k.eq1 18 104 rfl) fun _ w hn k => ⟨_, v_move rfl (k.eq1 21 107 rfl), rfl⟩) ?_
      refine .o1 (tg rfl rfl rfl (fun _ _ k => k.eq1 22 108 rfl) fun _ w hn k => ⟨_, v_load rfl (k.fx 4 h273) (l_two Tryd.isAgg23 Tryd.sizeOf23 (hb278.new_ hn)), rfl⟩) ?_
      refine .o1 (tg rfl rfl rfl (fun _ _ k => k.eq1 22 108 rfl) fun _ w hn k => ⟨_, v_load rfl (k.fx 3 h272) (l_two Tryd.isAgg23 Tryd.sizeOf23 (hb277.new_ hn)), rfl⟩) ?_
      refine .o1 (cg rfl rfl rfl (fun _ _ k => k.eq1 22 108 rfl) rfl (fun _ w hn k => ⟨#[nv b, nv a], args2 (k.eq1 23 109 rfl) (k.eq1 24 110 rfl), fun _ => by kernel_rfl, less_c b a _⟩) fun _ => congrArg Value.bool ht294) ?_
      refine .o1 (tg rfl rfl rfl (fun _ _ k => k.eq1 18 104 rfl) fun _ w hn k => ⟨_, v_pickT rfl (k.eq1 22 108 rfl) (k.eq1 25 111 rfl), rfl⟩) ?_
      refine .o1 (tg rfl rfl rfl (fun _ _ k => k.eq1 18 104 rfl) fun _ w hn k => ⟨_, v_not rfl (k.eq1 26 112 rfl), rfl⟩) ?_
      refine .o1 (tk rfl rfl fun _ w hn k => ⟨_, v_pickT rfl (k.eq1 18 104 rfl) (k.eq1 27 113 rfl), rfl⟩) ?_
      refine .o1 (tk rfl rfl fun _ w hn k => ⟨_, v_move rfl (k.eq1 28 114 rfl), rfl⟩) ?_
      refine .o1 (tg rfl rfl rfl (fun _ _ k => k.eq1 29 115 rfl) fun _ w hn k => ⟨_, v_load rfl (k.fx 3 h272) (l_two Tryd.isAgg23 Tryd.sizeOf23 (hb277.new_ hn)), rfl⟩) ?_
      refine .o1 (tg rfl rfl rfl (fun _ _ k => k.eq1 29 115 rfl) fun _ w hn k => ⟨_, v_load rfl (k.fx 4 h273) (l_two Tryd.isAgg23 Tryd.sizeOf23 (hb278.new_ hn)), rfl⟩) ?_
      refine .o1 (cg rfl rfl rfl (fun _ _ k => k.eq1 29 115 rfl) rfl (fun _ w hn k => ⟨#[nv a, nv b], args2 (k.eq1 30 116 rfl) (k.eq1 31 117 rfl), fun _ => by kernel_rfl, less_c a b _⟩) fun _ => congrArg Value.bool ht281) ?_
      refine .o1 (tg rfl rfl rfl (fun _ _ k => k.eq1 29 115 rfl) fun _ w hn k => ⟨_, v_move rfl (k.eq1 32 118 rfl), rfl⟩) ?_
      refine .o1 (tg rfl rfl rfl (fun _ _ k => k.eq1 33 119 rfl) fun _ w hn k => ⟨_, v_load rfl (k.fx 3 h272) (l_two Tryd.isAgg23 Tryd.sizeOf23 (hb277.new_ hn)), rfl⟩) ?_
      refine .o1 (tg rfl rfl rfl (fun _ _ k => k.eq1 33 119 rfl) fun _ w hn k => ⟨_, v_load rfl (k.fx 4 h273) (l_two Tryd.isAgg23 Tryd.sizeOf23 (hb278.new_ hn)), rfl⟩) ?_
      refine .o1 (cg rfl rfl rfl (fun _ _ k => k.eq1 33 119 rfl) rfl (fun _ w hn k => ⟨#[nv a, nv b], args2 (k.eq1 34 120 rfl) (k.eq1 35 121 rfl), fun _ => by kernel_rfl, equal_c a b _⟩) fun _ => congrArg Value.bool ht295) ?_
      refine .o1 (tg rfl rfl rfl (fun _ _ k => k.eq1 29 115 rfl) fun _ w hn k => ⟨_, v_pickT rfl (k.eq1 33 119 rfl) (k.eq1 36 122 rfl), rfl⟩) ?_
      refine .o1 (tg rfl rfl rfl (fun _ _ k => k.eq1 29 115 rfl) fun _ w hn k => ⟨_, v_not rfl (k.eq1 37 123 rfl), rfl⟩) ?_
      refine .o1 (tk rfl rfl fun _ w hn k => ⟨_, v_pickT rfl (k.eq1 29 115 rfl) (k.eq1 38 124 rfl), rfl⟩) ?_
      refine .o1 (tk rfl rfl fun _ w hn k => ⟨_, v_assign rfl (k.eq1 39 125 rfl), rfl⟩) ?_
      exact .nil
    intro a296 w297 hn298 ha299
    have hs300 := ha299.size.trans hs270
    have hd301 := ha299.defers.trans hd271
    have h302 := ha299.ge 40 6 rfl
    have hN303 := hN280.transNew hn298
    clear hs270 hd271 h272 h273 h274 h275 h276 hb277 hq20 hb278 hq21 hb279 hq22 hN280 ha299 hn298
    refine st_nil ?_
    refine hK _ _ ?_
    clear hK K
    refine wp_ret (ret_k hd301 (v := .bool true) (res_t rfl h302 _) ?_)
    exact ⟨rfl, hN303⟩
  refine wp_g0 [true, true, true, true, true, true, true, true, true, true, true, true, true, true, true, true, true, true, true, true, true, true, true, true, true, true, true, true, true, true, true, true, true, true, true, true, true, true, true, true, true] [] 126
    [ve (.bool true),
     ve (.bool true),
     ve (nv a),
     ve (nv b),
     ve (.bool false),
     ve (.bool true),
     ve (.bool true),
     ve undef,
     ve undef,
     ve undef,
     ve undef,
     ve (.bool true),
     ve (.bool true),
     ve undef,
     ve undef,
     ve undef,
     ve (.bool true),
     ve (.bool true),
     ve (.bool true),
     ve (nv a),
     ve (nv b),
     ve (.bool false),
     ve (.bool false),
     ve undef,
     ve undef,
     ve undef,
     ve (.bool false),
     ve (.bool true),
     ve (.bool true),
     ve (.bool true),
     ve (nv a),
     ve (nv b),
     ve (.bool false),
     ve (.bool false),
     ve undef,
     ve undef,
     ve undef,
     ve (.bool false),
     ve (.bool true),
     ve (.bool true),
     ve (.bool true)] hs270 (.eq (.eq (.eq (.eq (.eq (.eq (.eq (.eq (.eq (.eq (.eq (.eq (.eq (.eq (.eq (.eq (.eq (.eq (.eq (.eq (.eq (.eq (.eq (.eq (.eq (.eq (.eq (.eq (.eq (.eq (.eq (.eq (.eq (.eq (.eq (.eq (.eq (.eq (.eq (.eq (.eq (.nil)))))))))))))))))))))))))))))))))))))))))) ?_ ?_
  · skip
    refine .o1 (ck rfl rfl rfl (fun _ w hn k => ⟨#[], rfl, fun _ => by kernel_rfl, first_c  _⟩) fun _ => rfl) ?_
    refine .o1 (tk rfl rfl fun _ w hn k => ⟨_, v_move rfl (k.eq1 0 86 rfl), rfl⟩) ?_
    refine .o1 (tg rfl rfl rfl (fun _ _ k => k.eq1 1 87 rfl) fun _ w hn k => ⟨_, v_load rfl (k.fx 3 h272) (l_two Tryd.isAgg23 Tryd.sizeOf23 (hb277.new_ hn)), rfl⟩) ?_
    refine .o1 (tg rfl rfl rfl (fun _ _ k => k.eq1 1 87 rfl) fun _ w hn k => ⟨_, v_load rfl (k.fx 4 h273) (l_two Tryd.isAgg23 Tryd.sizeOf23 (hb278.new_ hn)), rfl⟩) ?_
    refine .o1 (cg rfl rfl rfl (fun _ _ k => k.eq1 1 87 rfl) rfl (fun _ w hn k => ⟨#[nv a, nv b], args2 (k.eq1 2 88 rfl) (k.eq1 3 89 rfl), fun _ => by kernel_rfl, less_c a b _⟩) fun _ => congrArg Value.bool ht281) ?_
    refine .o1 (tg rfl rfl rfl (fun _ _ k => k.eq1 1 87 rfl) fun _ w hn k => ⟨_, v_not rfl (k.eq1 4 90 rfl), rfl⟩) ?_
    refine .o1 (tg rfl rfl rfl (fun _ _ k => k.eq1 1 87 rfl) fun _ w hn k => ⟨_, v_move rfl (k.eq1 5 91 rfl), rfl⟩) ?_
    refine .o1 (sk rfl rfl rfl (fun _ _ _ k => k.eq1 6 92 rfl) (fun _ => rfl)) ?_
    refine .o1 (sk rfl rfl rfl (fun _ _ _ k => k.eq1 6 92 rfl) (fun _ => rfl)) ?_
    refine .o1 (sk rfl rfl rfl (fun _ _ _ k => k.eq1 6 92 rfl) (fun _ => rfl)) ?_
    refine .o1 (sk rfl rfl rfl (fun _ _ _ k => k.eq1 6 92 rfl) (fun _ => rfl)) ?_
    refine .o1 (tg rfl rfl rfl (fun _ _ k => k.eq1 1 87 rfl) fun _ w hn k => ⟨_, v_pickT rfl (k.eq1 6 92 rfl) rfl, rfl⟩) ?_
    refine .o1 (tg rfl rfl rfl (fun _ _ k => k.eq1 1 87 rfl) fun _ w hn k => ⟨_, v_move rfl (k.eq1 11 97 rfl), rfl⟩) ?_
    refine .o1 (sk rfl rfl rfl (fun _ _ _ k => k.eq1 12 98 rfl) (fun _ => rfl)) ?_
    refine .o1 (sk rfl rfl rfl (fun _ _ _ k => k.eq1 12 98 rfl) (fun _ => rfl)) ?_
    refine .o1 (sk rfl rfl rfl (fun _ _ _ k => k.eq1 12 98 rfl) (fun _ => rfl)) ?_
    refine .o1 (tg rfl rfl rfl (fun _ _ k => k.eq1 1 87 rfl) fun _ w hn k => ⟨_, v_pickT rfl (k.eq1 12 98 rfl) rfl, rfl⟩) ?_
    refine .o1 (tk rfl rfl fun _ w hn k => ⟨_, v_pickT rfl (k.eq1 1 87 rfl) (k.eq1 16 102 rfl), rfl⟩) ?_
    refine .o1 (tk rfl rfl fun _ w hn k => ⟨_, v_move rfl (k.eq1 17 103 rfl), rfl⟩) ?_
    refine .o1 (tg rfl rfl rfl (fun _ _ k => k.eq1 18 104 rfl) fun _ w hn k => ⟨_, v_load rfl (k.fx 3 h272) (l_two Tryd.isAgg23 Tryd.sizeOf23 (hb277.new_ hn)), rfl⟩) ?_
    refine .o1 (tg rfl rfl rfl (fun _ _ k => k.eq1 18 104 rfl) fun _ w hn k => ⟨_, v_load rfl (k.fx 4 h273) (l_two Tryd.isAgg23 Tryd.sizeOf23 (hb278.new_ hn)), rfl⟩) ?_
    refine .o1 (cg rfl rfl rfl (fun _ _ k => k.eq1 18 104 rfl) rfl (fun _ w hn k => ⟨#[nv a, nv b], args2 (k.eq1 19 105 rfl) (k.eq1 20 106 rfl), fun _ => by kernel_rfl, less_c a b _⟩) fun _ => congrArg Value.bool ht281) ?_
    refine .o1 (tg rfl rfl rfl (fun _ _ k => k.eq1 18 104 rfl) fun _ w hn k => ⟨_, v_move rfl (k.eq1 21 107 rfl), rfl⟩) ?_
    refine .o1 (sk rfl rfl rfl (fun _ _ _ k => k.eq1 22 108 rfl) (fun _ => rfl)) ?_
    refine .o1 (sk rfl rfl rfl (fun _ _ _ k => k.eq1 22 108 rfl) (fun _ => rfl)) ?_
    refine .o1 (sk rfl rfl rfl (fun _ _ _ k => k.eq1 22 108 rfl) (fun _ => rfl)) ?_
    refine .o1 (tg rfl rfl rfl (fun _ _ k => k.eq1 18 104 rfl) fun _ w hn k => ⟨_, v_pickF rfl (k.eq1 22 108 rfl) rfl, rfl⟩) ?_
    refine .o1 (tg rfl rfl rfl (fun _ _ k => k.eq1 18 104 rfl) fun _ w hn k => ⟨_, v_not rfl (k.eq1 26 112 rfl), rfl⟩) ?_
    refine .o1 (tk rfl rfl fun _ w hn k => ⟨_, v_pickT rfl (k.eq1 18 104 rfl) (k.eq1 27 113 rfl), rfl⟩) ?_
    refine .o1 (tk rfl rfl fun _ w hn k => ⟨_, v_move rfl (k.eq1 28 114 rfl), rfl⟩) ?_
    refine .o1 (tg rfl rfl rfl (fun _ _ k => k.eq1 29 115 rfl) fun _ w hn k => ⟨_, v_load rfl (k.fx 3 h272) (l_two Tryd.isAgg23 Tryd.sizeOf23 (hb277.new_ hn)), rfl⟩) ?_
    refine .o1 (tg rfl rfl rfl (fun _ _ k => k.eq1 29 115 rfl) fun _ w hn k => ⟨_, v_load rfl (k.fx 4 h273) (l_two Tryd.isAgg23 Tryd.sizeOf23 (hb278.new_ hn)), rfl⟩) ?_
    refine .o1 (cg rfl rfl rfl (fun _ _ k => k.eq1 29 115 rfl) rfl (fun _ w hn k => ⟨#[nv a, nv b], args2 (k.eq1 30 116 rfl) (k.eq1 31 117 rfl), fun _ => by kernel_rfl, less_c a b _⟩) fun _ => congrArg Value.bool ht281) ?_
    refine .o1 (tg rfl rfl rfl (fun _ _ k => k.eq1 29 115 rfl) fun _ w hn k => ⟨_, v_move rfl (k.eq1 32 118 rfl), rfl⟩) ?_
    refine .o1 (sk rfl rfl rfl (fun _ _ _ k => k.eq1 33 119 rfl) (fun _ => rfl)) ?_
    refine .o1 (sk rfl rfl rfl (fun _ _ _ k => k.eq1 33 119 rfl) (fun _ => rfl)) ?_
    refine .o1 (sk rfl rfl rfl (fun _ _ _ k => k.eq1 33 119 rfl) (fun _ => rfl)) ?_
    refine .o1 (tg rfl rfl rfl (fun _ _ k => k.eq1 29 115 rfl) fun _ w hn k => ⟨_, v_pickF rfl (k.eq1 33 119 rfl) rfl, rfl⟩) ?_
    refine .o1 (tg rfl rfl rfl (fun _ _ k => k.eq1 29 115 rfl) fun _ w hn k => ⟨_, v_not rfl (k.eq1 37 123 rfl), rfl⟩) ?_
    refine .o1 (tk rfl rfl fun _ w hn k => ⟨_, v_pickT rfl (k.eq1 29 115 rfl) (k.eq1 38 124 rfl), rfl⟩) ?_
    refine .o1 (tk rfl rfl fun _ w hn k => ⟨_, v_assign rfl (k.eq1 39 125 rfl), rfl⟩) ?_
    exact .nil
  intro a304 w305 hn306 ha307
  have hs308 := ha307.size.trans hs270
  have hd309 := ha307.defers.trans hd271
  have h310 := ha307.ge 40 6 rfl
  have hN311 := hN280.transNew hn306
  clear hs270 hd271 h272 h273 h274 h275 h276 hb277 hq20 hb278 hq21 hb279 hq22 hN280 ha307 hn306
  refine st_nil ?_
  refine hK _ _ ?_
  clear hK K
  refine wp_ret (ret_k hd309 (v := .bool true) (res_t rfl h310 _) ?_)
  exact ⟨rfl, hN311⟩
end Go.Proofs.YtldakajmhfdfgaaDoor
