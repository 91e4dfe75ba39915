/- NumGroups: the walk -/
import Derived.Test.YtldakajmhfdfgaaDoorNumF
import Derived.Test.YtldakajmhfdfgaaDoorNumMath4
namespace Go.Proofs.YtldakajmhfdfgaaDoor
open Go.RowKit
set_option linter.unusedSimpArgs false
set_option linter.unusedVariables false
set_option maxHeartbeats 8000000 in
set_option maxRecDepth 100000 in
theorem groups_walk (a : Nm) (b : Nm) (c : Nm) (w : World) : Calls Tryd.prog 6 #[nv a, nv b, nv c] w (IsRet (.bool true) w) := by
  refine enter_abs Tryd.func6 rfl fun a0 hs0 hd0 hp => ?_
  have hs0 : a0.tmps.size = 111 := hs0
  have hN0 : New w w := Upd.refl _ _
  have hp0 : a0.eval (.tmp 0) = nv a := hp 0 _ rfl
  have hp1 : a0.eval (.tmp 1) = nv b := hp 1 _ rfl
  have hp2 : a0.eval (.tmp 2) = nv c := hp 2 _ rfl
  clear hp
  refine wp_seq_k fun K hK => ?_
  refine wp_g [true, true, true, true] [] [] 111
    [IsNew w 23 [iv a.k, iv a.n],
     IsNew w 23 [iv b.k, iv b.n],
     IsNew w 23 [iv c.k, iv c.n],
     ve (.bool false)]
    [0, 1, 2] (newsCons (fun v w h => IsNew.old h) (newsCons (fun v w h => IsNew.old h) (newsCons (fun v w h => IsNew.old h) newsNil))) hs0 (.nw (.nw (.nw (.eq (.nil))))) ?_ (fun i h => by cases h) ?_
  · skip
    refine .o2 (step_allocN (cs := [iv a.k, iv a.n]) (t := 23) rfl (noG rfl) (fun _ w hn k => v_box rfl (k.fx 0 hp0) (fun w => rfl)) (fun q _ hq hb => ⟨q, rfl, hq, hb⟩)) ?_
    refine .o2 (step_allocN (cs := [iv b.k, iv b.n]) (t := 23) rfl (noG rfl) (fun _ w hn k => v_box rfl (k.fx 1 hp1) (fun w => rfl)) (fun q _ hq hb => ⟨q, rfl, hq, hb⟩)) ?_
    refine .o2 (step_allocN (cs := [iv c.k, iv c.n]) (t := 23) rfl (noG rfl) (fun _ w hn k => v_box rfl (k.fx 2 hp2) (fun w => rfl)) (fun q _ hq hb => ⟨q, rfl, hq, hb⟩)) ?_
    refine .o1 (tk rfl rfl fun _ w hn k => ⟨_, v_assign rfl rfl, rfl⟩) ?_
    exact .nil
  intro a1 w2 hn3 ha4
  have hs5 := ha4.size.trans hs0
  have hd6 := ha4.defers.trans hd0
  obtain ⟨q8, h7, hq9, hb10⟩ : IsNew _ _ _ _ _ := ha4.got 0 3 rfl (by kernel_rfl)
  obtain ⟨q12, h11, hq13, hb14⟩ : IsNew _ _ _ _ _ := ha4.got 1 4 rfl (by kernel_rfl)
  obtain ⟨q16, h15, hq17, hb18⟩ : IsNew _ _ _ _ _ := ha4.got 2 5 rfl (by kernel_rfl)
  have h19 := ha4.ge 3 6 rfl
  have hq20 := Nat.le_trans hN0.size hq9
  have hq21 := Nat.le_trans hN0.size hq13
  have hq22 := Nat.le_trans hN0.size hq17
  have hN23 := hN0.transNew hn3
  clear hs0 hd0 hp0 hp1 hp2 hq9 hq13 hq17 hN0 ha4 hn3
  refine st_nil ?_
  refine hK _ _ ?_
  clear hK K
  refine wp_seq_k fun K hK => ?_
  refine wp_seq_k fun K hK => ?_
  refine wp_g0 [true, true] [] 111
    [ve (.bool true),
     ve (.bool false)] hs5 (.eq (.eq (.nil))) ?_ ?_
  · skip
    refine .o1 (ck rfl rfl rfl (fun _ w hn k => ⟨#[], rfl, fun _ => by kernel_rfl, first_c  _⟩) fun _ => rfl) ?_
    refine .o1 (tk rfl rfl fun _ w hn k => ⟨_, v_not rfl (k.eq1 0 23 rfl), rfl⟩) ?_
    exact .nil
  intro a24 w25 hn26 ha27
  have hs28 := ha27.size.trans hs5
  have hd29 := ha27.defers.trans hd6
  have h30 := ha27.fx 3 h7
  have h31 := ha27.fx 4 h11
  have h32 := ha27.fx 5 h15
  have h33 := ha27.fx 6 h19
  have h34 := ha27.ge 1 24 rfl
  have hb35 := hb10.new_ hn26
  have hb36 := hb14.new_ hn26
  have hb37 := hb18.new_ hn26
  have hN38 := hN23.transNew hn26
  clear hs5 hd6 h7 h11 h15 h19 hb10 hb14 hb18 hN23 ha27 hn26
  refine st_nil ?_
  refine hK _ _ ?_
  clear hK K
  refine wp_cond_false h34 ?_
  refine wp_skip ?_
  refine hK _ _ ?_
  clear hK K
  refine wp_seq_k fun K hK => ?_
  refine wp_g [true, true, true, true, true, true, true, false, false] [5] [(7, false), (8, true)] 111
    [ve (nv a),
     ve (nv b),
     ve (.tuple #[nv ((addM a b).1), .bool ((addM a b).2)]),
     ve (.tuple #[nv ((addM a b).1), .bool ((addM a b).2)]),
     ve (nv ((addM a b).1)),
     ve (.bool ((addM a b).2)),
     IsNew w25 23 [iv 0, iv 0],
     vt,
     vt]
    [6] (newsCons (fun v w h => IsNew.old h) newsNil) hs28 (.eq (.eq (.eq (.eq (.eq (.eq (.nw (.tt (.tt (.nil)))))))))) ?_ ?_ ?_
  · skip
    refine .o1 (tk rfl rfl fun _ w hn k => ⟨_, v_load rfl (k.fx 3 h30) (l_two Tryd.isAgg23 Tryd.sizeOf23 (hb35.new_ hn)), rfl⟩) ?_
    refine .o1 (tk rfl rfl fun _ w hn k => ⟨_, v_load rfl (k.fx 4 h31) (l_two Tryd.isAgg23 Tryd.sizeOf23 (hb36.new_ hn)), rfl⟩) ?_
    refine .o1 (ck rfl rfl rfl (fun _ w hn k => ⟨#[nv a, nv b], args2 (k.eq1 0 26 rfl) (k.eq1 1 27 rfl), fun _ => by kernel_rfl, add_c a b _⟩) fun _ => rfl) ?_
    refine .o1 (tk rfl rfl fun _ w hn k => ⟨_, v_move rfl (k.eq1 2 28 rfl), rfl⟩) ?_
    refine .o1 (tk rfl rfl fun _ w hn k => ⟨_, v_extract rfl (k.eq1 3 25 rfl) rfl, rfl⟩) ?_
    refine .o3 ?_
    refine .o2 (step_allocN (cs := [iv 0, iv 0]) (t := 23) rfl (noG rfl) (fun _ w hn k => rfl) (fun q _ hq hb => ⟨q, rfl, hq, hb⟩)) ?_
    refine .off ?_
    refine .off ?_
    exact .nil
  · skip
    intro i h
    simp only [List.contains_eq_mem, List.mem_cons, List.not_mem_nil, or_false, decide_eq_true_eq] at h
    subst h
    · exact eager_take rfl rfl fun _ w hn k => ⟨.bool ((addM a b).2), fun w => v_extract rfl (k.eq1 3 25 rfl) rfl, rfl⟩
  intro a39 w40 hn41 ha42
  have hs43 := ha42.size.trans hs28
  have hd44 := ha42.defers.trans hd29
  have h45 := ha42.fx 3 h30
  have h46 := ha42.fx 4 h31
  have h47 := ha42.fx 5 h32
  have h48 := ha42.fx 6 h33
  have h49 := ha42.ge 4 29 rfl
  have h50 := ha42.ge 5 30 rfl
  obtain ⟨q52, h51, hq53, hb54⟩ : IsNew _ _ _ _ _ := ha42.got 6 7 rfl (by kernel_rfl)
  have hb55 := hb35.new_ hn41
  have hb56 := hb36.new_ hn41
  have hb57 := hb37.new_ hn41
  have hne58 : q8 ≠ q52 := by have h1 := hb35.lt; have h2 := hq53; omega
  have hne59 : q12 ≠ q52 := by have h1 := hb36.lt; have h2 := hq53; omega
  have hne60 : q16 ≠ q52 := by have h1 := hb37.lt; have h2 := hq53; omega
  have hq61 := Nat.le_trans hN38.size hq53
  have hN62 := hN38.transNew hn41
  clear hs28 hd29 h30 h31 h32 h33 h34 hb35 hb36 hb37 hq53 hN38 ha42 hn41
  obtain ⟨w63, -, hst64, hb65, hu66, hf67⟩ := s_two (v0 := iv ((addM a b).1.k)) (v1 := iv ((addM a b).1.n)) Tryd.sizeOf23 rfl rfl rfl hb54
  refine st_act rfl rfl fun K68 hL69 => a_store' rfl h51 h49 hst64 (hL69 _ _ trivial ?_)
  have hb70 := hf67 _ _ _ (hne58) hb55
  have hb71 := hf67 _ _ _ (hne59) hb56
  have hb72 := hf67 _ _ _ (hne60) hb57
  have hN73 := hN62.trans hu66 (fun k hk hkb => by subst hkb; omega)
  clear hb54 hst64 K68 hL69 hN62 hb55 hb56 hb57 hu66 hf67
  refine st_take rfl rfl (y_assign (v := .bool ((addM a b).2)) rfl h50) rfl ?_
  obtain ⟨a74, ha75⟩ : ∃ a', a' = a39.put (some 8) (.bool ((addM a b).2)) := ⟨_, rfl⟩
  have hs76 : a74.tmps.size = 111 := by rw [ha75, put_size]; exact hs43
  have hd77 : a74.defers = [] := by rw [ha75, put_defers]; exact hd44
  have h78 : a74.eval (.tmp 3) = pv q8 := by rw [ha75, put_ne _ _ _ _ (by decide)]; exact h45
  have h79 : a74.eval (.tmp 4) = pv q12 := by rw [ha75, put_ne _ _ _ _ (by decide)]; exact h46
  have h80 : a74.eval (.tmp 5) = pv q16 := by rw [ha75, put_ne _ _ _ _ (by decide)]; exact h47
  have h81 : a74.eval (.tmp 6) = .bool false := by rw [ha75, put_ne _ _ _ _ (by decide)]; exact h48
  have h82 : a74.eval (.tmp 29) = nv ((addM a b).1) := by rw [ha75, put_ne _ _ _ _ (by decide)]; exact h49
  have h83 : a74.eval (.tmp 30) = .bool ((addM a b).2) := by rw [ha75, put_ne _ _ _ _ (by decide)]; exact h50
  have h84 : a74.eval (.tmp 7) = pv q52 := by rw [ha75, put_ne _ _ _ _ (by decide)]; exact h51
  have h85 : a74.eval (.tmp 8) = .bool ((addM a b).2) := by rw [ha75]; exact put_same _ _ _ (by rw [hs43]; decide)
  show stepsTo _ _ _ _ _ (a39.put (some 8) (.bool ((addM a b).2))) _
  rw [← ha75]
  clear ha75 hs43 hd44 h45 h46 h47 h48 h49 h50 h51
  clear hne58
  clear hne59
  clear hne60
  refine st_nil ?_
  clear h82 h83
  refine hK _ _ ?_
  clear hK K
  refine wp_seq_k fun K hK => ?_
  refine wp_g [true, true, true, true, true, true, true, false, false] [5] [(7, false), (8, true)] 111
    [ve (nv b),
     ve (nv c),
     ve (.tuple #[nv ((addM b c).1), .bool ((addM b c).2)]),
     ve (.tuple #[nv ((addM b c).1), .bool ((addM b c).2)]),
     ve (nv ((addM b c).1)),
     ve (.bool ((addM b c).2)),
     IsNew w63 23 [iv 0, iv 0],
     vt,
     vt]
    [6] (newsCons (fun v w h => IsNew.old h) newsNil) hs76 (.eq (.eq (.eq (.eq (.eq (.eq (.nw (.tt (.tt (.nil)))))))))) ?_ ?_ ?_
  · skip
    refine .o1 (tk rfl rfl fun _ w hn k => ⟨_, v_load rfl (k.fx 4 h79) (l_two Tryd.isAgg23 Tryd.sizeOf23 (hb71.new_ hn)), rfl⟩) ?_
    refine .o1 (tk rfl rfl fun _ w hn k => ⟨_, v_load rfl (k.fx 5 h80) (l_two Tryd.isAgg23 Tryd.sizeOf23 (hb72.new_ hn)), rfl⟩) ?_
    refine .o1 (ck rfl rfl rfl (fun _ w hn k => ⟨#[nv b, nv c], args2 (k.eq1 0 32 rfl) (k.eq1 1 33 rfl), fun _ => by kernel_rfl, add_c b c _⟩) fun _ => rfl) ?_
    refine .o1 (tk rfl rfl fun _ w hn k => ⟨_, v_move rfl (k.eq1 2 34 rfl), rfl⟩) ?_
    refine .o1 (tk rfl rfl fun _ w hn k => ⟨_, v_extract rfl (k.eq1 3 31 rfl) rfl, rfl⟩) ?_
    refine .o3 ?_
    refine .o2 (step_allocN (cs := [iv 0, iv 0]) (t := 23) rfl (noG rfl) (fun _ w hn k => rfl) (fun q _ hq hb => ⟨q, rfl, hq, hb⟩)) ?_
    refine .off ?_
    refine .off ?_
    exact .nil
  · skip
    intro i h
    simp only [List.contains_eq_mem, List.mem_cons, List.not_mem_nil, or_false, decide_eq_true_eq] at h
    subst h
    · exact eager_take rfl rfl fun _ w hn k => ⟨.bool ((addM b c).2), fun w => v_extract rfl (k.eq1 3 31 rfl) rfl, rfl⟩
  intro a86 w87 hn88 ha89
  have hs90 := ha89.size.trans hs76
  have hd91 := ha89.defers.trans hd77
  have h92 := ha89.fx 3 h78
  have h93 := ha89.fx 4 h79
  have h94 := ha89.fx 5 h80
  have h95 := ha89.fx 6 h81
  have h96 := ha89.fx 7 h84
  have h97 := ha89.fx 8 h85
  have h98 := ha89.ge 4 35 rfl
  have h99 := ha89.ge 5 36 rfl
  obtain ⟨q101, h100, hq102, hb103⟩ : IsNew _ _ _ _ _ := ha89.got 6 9 rfl (by kernel_rfl)
  have hb104 := hb70.new_ hn88
  have hb105 := hb71.new_ hn88
  have hb106 := hb72.new_ hn88
  have hb107 := hb65.new_ hn88
  have hne108 : q8 ≠ q101 := by have h1 := hb70.lt; have h2 := hq102; omega
  have hne109 : q12 ≠ q101 := by have h1 := hb71.lt; have h2 := hq102; omega
  have hne110 : q16 ≠ q101 := by have h1 := hb72.lt; have h2 := hq102; omega
  have hne111 : q52 ≠ q101 := by have h1 := hb65.lt; have h2 := hq102; omega
  have hq112 := Nat.le_trans hN73.size hq102
  have hN113 := hN73.transNew hn88
  clear hs76 hd77 h78 h79 h80 h81 h84 h85 hb70 hb71 hb72 hb65 hq102 hN73 ha89 hn88
  obtain ⟨w114, -, hst115, hb116, hu117, hf118⟩ := s_two (v0 := iv ((addM b c).1.k)) (v1 := iv ((addM b c).1.n)) Tryd.sizeOf23 rfl rfl rfl hb103
  refine st_act rfl rfl fun K119 hL120 => a_store' rfl h100 h98 hst115 (hL120 _ _ trivial ?_)
  have hb121 := hf118 _ _ _ (hne108) hb104
  have hb122 := hf118 _ _ _ (hne109) hb105
  have hb123 := hf118 _ _ _ (hne110) hb106
  have hb124 := hf118 _ _ _ (hne111) hb107
  have hN125 := hN113.trans hu117 (fun k hk hkb => by subst hkb; omega)
  clear hb103 hst115 K119 hL120 hN113 hb104 hb105 hb106 hb107 hu117 hf118
  refine st_take rfl rfl (y_assign (v := .bool ((addM b c).2)) rfl h99) rfl ?_
  obtain ⟨a126, ha127⟩ : ∃ a', a' = a86.put (some 10) (.bool ((addM b c).2)) := ⟨_, rfl⟩
  have hs128 : a126.tmps.size = 111 := by rw [ha127, put_size]; exact hs90
  have hd129 : a126.defers = [] := by rw [ha127, put_defers]; exact hd91
  have h130 : a126.eval (.tmp 3) = pv q8 := by rw [ha127, put_ne _ _ _ _ (by decide)]; exact h92
  have h131 : a126.eval (.tmp 4) = pv q12 := by rw [ha127, put_ne _ _ _ _ (by decide)]; exact h93
  have h132 : a126.eval (.tmp 5) = pv q16 := by rw [ha127, put_ne _ _ _ _ (by decide)]; exact h94
  have h133 : a126.eval (.tmp 6) = .bool false := by rw [ha127, put_ne _ _ _ _ (by decide)]; exact h95
  have h134 : a126.eval (.tmp 7) = pv q52 := by rw [ha127, put_ne _ _ _ _ (by decide)]; exact h96
  have h135 : a126.eval (.tmp 8) = .bool ((addM a b).2) := by rw [ha127, put_ne _ _ _ _ (by decide)]; exact h97
  have h136 : a126.eval (.tmp 35) = nv ((addM b c).1) := by rw [ha127, put_ne _ _ _ _ (by decide)]; exact h98
  have h137 : a126.eval (.tmp 36) = .bool ((addM b c).2) := by rw [ha127, put_ne _ _ _ _ (by decide)]; exact h99
  have h138 : a126.eval (.tmp 9) = pv q101 := by rw [ha127, put_ne _ _ _ _ (by decide)]; exact h100
  have h139 : a126.eval (.tmp 10) = .bool ((addM b c).2) := by rw [ha127]; exact put_same _ _ _ (by rw [hs90]; decide)
  show stepsTo _ _ _ _ _ (a86.put (some 10) (.bool ((addM b c).2))) _
  rw [← ha127]
  clear ha127 hs90 hd91 h92 h93 h94 h95 h96 h97 h98 h99 h100
  clear hne108
  clear hne109
  clear hne110
  clear hne111
  refine st_nil ?_
  clear h136 h137
  refine hK _ _ ?_
  clear hK K
  refine wp_seq_k fun K hK => ?_
  refine wp_g [true, true, true, true, true, true, true, false, false] [5] [(7, false), (8, true)] 111
    [ve (nv ((addM a b).1)),
     ve (nv c),
     ve (.tuple #[nv ((addM ((addM a b).1) c).1), .bool ((addM ((addM a b).1) c).2)]),
     ve (.tuple #[nv ((addM ((addM a b).1) c).1), .bool ((addM ((addM a b).1) c).2)]),
     ve (nv ((addM ((addM a b).1) c).1)),
     ve (.bool ((addM ((addM a b).1) c).2)),
     IsNew w114 23 [iv 0, iv 0],
     vt,
     vt]
    [6] (newsCons (fun v w h => IsNew.old h) newsNil) hs128 (.eq (.eq (.eq (.eq (.eq (.eq (.nw (.tt (.tt (.nil)))))))))) ?_ ?_ ?_
  · skip
    refine .o1 (tk rfl rfl fun _ w hn k => ⟨_, v_load rfl (k.fx 7 h134) (l_two Tryd.isAgg23 Tryd.sizeOf23 (hb124.new_ hn)), rfl⟩) ?_
    refine .o1 (tk rfl rfl fun _ w hn k => ⟨_, v_load rfl (k.fx 5 h132) (l_two Tryd.isAgg23 Tryd.sizeOf23 (hb123.new_ hn)), rfl⟩) ?_
    refine .o1 (ck rfl rfl rfl (fun _ w hn k => ⟨#[nv ((addM a b).1), nv c], args2 (k.eq1 0 38 rfl) (k.eq1 1 39 rfl), fun _ => by kernel_rfl, add_c ((addM a b).1) c _⟩) fun _ => rfl) ?_
    refine .o1 (tk rfl rfl fun _ w hn k => ⟨_, v_move rfl (k.eq1 2 40 rfl), rfl⟩) ?_
    refine .o1 (tk rfl rfl fun _ w hn k => ⟨_, v_extract rfl (k.eq1 3 37 rfl) rfl, rfl⟩) ?_
    refine .o3 ?_
    refine .o2 (step_allocN (cs := [iv 0, iv 0]) (t := 23) rfl (noG rfl) (fun _ w hn k => rfl) (fun q _ hq hb => ⟨q, rfl, hq, hb⟩)) ?_
    refine .off ?_
    refine .off ?_
    exact .nil
  · skip
    intro i h
    simp only [List.contains_eq_mem, List.mem_cons, List.not_mem_nil, or_false, decide_eq_true_eq] at h
    subst h
    · exact eager_take rfl rfl fun _ w hn k => ⟨.bool ((addM ((addM a b).1) c).2), fun w => v_extract rfl (k.eq1 3 37 rfl) rfl, rfl⟩
  intro a140 w141 hn142 ha143
  have hs144 := ha143.size.trans hs128
  have hd145 := ha143.defers.trans hd129
  have h146 := ha143.fx 3 h130
  have h147 := ha143.fx 4 h131
  have h148 := ha143.fx 5 h132
  have h149 := ha143.fx 6 h133
  have h150 := ha143.fx 8 h135
  have h151 := ha143.fx 9 h138
  have h152 := ha143.fx 10 h139
  have h153 := ha143.ge 4 41 rfl
  have h154 := ha143.ge 5 42 rfl
  obtain ⟨q156, h155, hq157, hb158⟩ : IsNew _ _ _ _ _ := ha143.got 6 11 rfl (by kernel_rfl)
  have hb159 := hb121.new_ hn142
  have hb160 := hb122.new_ hn142
  have hb161 := hb123.new_ hn142
  have hb162 := hb116.new_ hn142
  have hne163 : q8 ≠ q156 := by have h1 := hb121.lt; have h2 := hq157; omega
  have hne164 : q12 ≠ q156 := by have h1 := hb122.lt; have h2 := hq157; omega
  have hne165 : q16 ≠ q156 := by have h1 := hb123.lt; have h2 := hq157; omega
  have hne166 : q101 ≠ q156 := by have h1 := hb116.lt; have h2 := hq157; omega
  have hq167 := Nat.le_trans hN125.size hq157
  have hN168 := hN125.transNew hn142
  clear hs128 hd129 h130 h131 h132 h133 h134 h135 h138 h139 hb121 hb122 hb123 hb124 hq61 hb116 hq157 hN125 ha143 hn142
  obtain ⟨w169, -, hst170, hb171, hu172, hf173⟩ := s_two (v0 := iv ((addM ((addM a b).1) c).1.k)) (v1 := iv ((addM ((addM a b).1) c).1.n)) Tryd.sizeOf23 rfl rfl rfl hb158
  refine st_act rfl rfl fun K174 hL175 => a_store' rfl h155 h153 hst170 (hL175 _ _ trivial ?_)
  have hb176 := hf173 _ _ _ (hne163) hb159
  have hb177 := hf173 _ _ _ (hne164) hb160
  have hb178 := hf173 _ _ _ (hne165) hb161
  have hb179 := hf173 _ _ _ (hne166) hb162
  have hN180 := hN168.trans hu172 (fun k hk hkb => by subst hkb; omega)
  clear hb158 hst170 K174 hL175 hN168 hb159 hb160 hb161 hb162 hu172 hf173
  refine st_take rfl rfl (y_assign (v := .bool ((addM ((addM a b).1) c).2)) rfl h154) rfl ?_
  obtain ⟨a181, ha182⟩ : ∃ a', a' = a140.put (some 12) (.bool ((addM ((addM a b).1) c).2)) := ⟨_, rfl⟩
  have hs183 : a181.tmps.size = 111 := by rw [ha182, put_size]; exact hs144
  have hd184 : a181.defers = [] := by rw [ha182, put_defers]; exact hd145
  have h185 : a181.eval (.tmp 3) = pv q8 := by rw [ha182, put_ne _ _ _ _ (by decide)]; exact h146
  have h186 : a181.eval (.tmp 4) = pv q12 := by rw [ha182, put_ne _ _ _ _ (by decide)]; exact h147
  have h187 : a181.eval (.tmp 5) = pv q16 := by rw [ha182, put_ne _ _ _ _ (by decide)]; exact h148
  have h188 : a181.eval (.tmp 6) = .bool false := by rw [ha182, put_ne _ _ _ _ (by decide)]; exact h149
  have h189 : a181.eval (.tmp 8) = .bool ((addM a b).2) := by rw [ha182, put_ne _ _ _ _ (by decide)]; exact h150
  have h190 : a181.eval (.tmp 9) = pv q101 := by rw [ha182, put_ne _ _ _ _ (by decide)]; exact h151
  have h191 : a181.eval (.tmp 10) = .bool ((addM b c).2) := by rw [ha182, put_ne _ _ _ _ (by decide)]; exact h152
  have h192 : a181.eval (.tmp 41) = nv ((addM ((addM a b).1) c).1) := by rw [ha182, put_ne _ _ _ _ (by decide)]; exact h153
  have h193 : a181.eval (.tmp 42) = .bool ((addM ((addM a b).1) c).2) := by rw [ha182, put_ne _ _ _ _ (by decide)]; exact h154
  have h194 : a181.eval (.tmp 11) = pv q156 := by rw [ha182, put_ne _ _ _ _ (by decide)]; exact h155
  have h195 : a181.eval (.tmp 12) = .bool ((addM ((addM a b).1) c).2) := by rw [ha182]; exact put_same _ _ _ (by rw [hs144]; decide)
  show stepsTo _ _ _ _ _ (a140.put (some 12) (.bool ((addM ((addM a b).1) c).2))) _
  rw [← ha182]
  clear ha182 hs144 hd145 h146 h147 h148 h149 h150 h151 h152 h153 h154 h155
  clear hne163
  clear hne164
  clear hne165
  clear hne166
  refine st_nil ?_
  clear h192 h193
  refine hK _ _ ?_
  clear hK K
  refine wp_seq_k fun K hK => ?_
  refine wp_g [true, true, true, true, true, true, true, false, false] [5] [(7, false), (8, true)] 111
    [ve (nv a),
     ve (nv ((addM b c).1)),
     ve (.tuple #[nv ((addM a ((addM b c).1)).1), .bool ((addM a ((addM b c).1)).2)]),
     ve (.tuple #[nv ((addM a ((addM b c).1)).1), .bool ((addM a ((addM b c).1)).2)]),
     ve (nv ((addM a ((addM b c).1)).1)),
     ve (.bool ((addM a ((addM b c).1)).2)),
     IsNew w169 23 [iv 0, iv 0],
     vt,
     vt]
    [6] (newsCons (fun v w h => IsNew.old h) newsNil) hs183 (.eq (.eq (.eq (.eq (.eq (.eq (.nw (.tt (.tt (.nil)))))))))) ?_ ?_ ?_
  · skip
    refine .o1 (tk rfl rfl fun _ w hn k => ⟨_, v_load rfl (k.fx 3 h185) (l_two Tryd.isAgg23 Tryd.sizeOf23 (hb176.new_ hn)), rfl⟩) ?_
    refine .o1 (tk rfl rfl fun _ w hn k => ⟨_, v_load rfl (k.fx 9 h190) (l_two Tryd.isAgg23 Tryd.sizeOf23 (hb179.new_ hn)), rfl⟩) ?_
    refine .o1 (ck rfl rfl rfl (fun _ w hn k => ⟨#[nv a, nv ((addM b c).1)], args2 (k.eq1 0 44 rfl) (k.eq1 1 45 rfl), fun _ => by kernel_rfl, add_c a ((addM b c).1) _⟩) fun _ => rfl) ?_
    refine .o1 (tk rfl rfl fun _ w hn k => ⟨_, v_move rfl (k.eq1 2 46 rfl), rfl⟩) ?_
    refine .o1 (tk rfl rfl fun _ w hn k => ⟨_, v_extract rfl (k.eq1 3 43 rfl) rfl, rfl⟩) ?_
    refine .o3 ?_
    refine .o2 (step_allocN (cs := [iv 0, iv 0]) (t := 23) rfl (noG rfl) (fun _ w hn k => rfl) (fun q _ hq hb => ⟨q, rfl, hq, hb⟩)) ?_
    refine .off ?_
    refine .off ?_
    exact .nil
  · skip
    intro i h
    simp only [List.contains_eq_mem, List.mem_cons, List.not_mem_nil, or_false, decide_eq_true_eq] at h
    subst h
    · exact eager_take rfl rfl fun _ w hn k => ⟨.bool ((addM a ((addM b c).1)).2), fun w => v_extract rfl (k.eq1 3 43 rfl) rfl, rfl⟩
  intro a196 w197 hn198 ha199
  have hs200 := ha199.size.trans hs183
  have hd201 := ha199.defers.trans hd184
  have h202 := ha199.fx 3 h185
  have h203 := ha199.fx 4 h186
  have h204 := ha199.fx 5 h187
  have h205 := ha199.fx 6 h188
  have h206 := ha199.fx 8 h189
  have h207 := ha199.fx 10 h191
  have h208 := ha199.fx 11 h194
  have h209 := ha199.fx 12 h195
  have h210 := ha199.ge 4 47 rfl
  have h211 := ha199.ge 5 48 rfl
  obtain ⟨q213, h212, hq214, hb215⟩ : IsNew _ _ _ _ _ := ha199.got 6 13 rfl (by kernel_rfl)
  have hb216 := hb176.new_ hn198
  have hb217 := hb177.new_ hn198
  have hb218 := hb178.new_ hn198
  have hb219 := hb171.new_ hn198
  have hne220 : q8 ≠ q213 := by have h1 := hb176.lt; have h2 := hq214; omega
  have hne221 : q12 ≠ q213 := by have h1 := hb177.lt; have h2 := hq214; omega
  have hne222 : q16 ≠ q213 := by have h1 := hb178.lt; have h2 := hq214; omega
  have hne223 : q156 ≠ q213 := by have h1 := hb171.lt; have h2 := hq214; omega
  have hq224 := Nat.le_trans hN180.size hq214
  have hN225 := hN180.transNew hn198
  clear hs183 hd184 h185 h186 h187 h188 h189 h190 h191 h194 h195 hb176 hb177 hb178 hb179 hq112 hb171 hq214 hN180 ha199 hn198
  obtain ⟨w226, -, hst227, hb228, hu229, hf230⟩ := s_two (v0 := iv ((addM a ((addM b c).1)).1.k)) (v1 := iv ((addM a ((addM b c).1)).1.n)) Tryd.sizeOf23 rfl rfl rfl hb215
  refine st_act rfl rfl fun K231 hL232 => a_store' rfl h212 h210 hst227 (hL232 _ _ trivial ?_)
  have hb233 := hf230 _ _ _ (hne220) hb216
  have hb234 := hf230 _ _ _ (hne221) hb217
  have hb235 := hf230 _ _ _ (hne222) hb218
  have hb236 := hf230 _ _ _ (hne223) hb219
  have hN237 := hN225.trans hu229 (fun k hk hkb => by subst hkb; omega)
  clear hb215 hst227 K231 hL232 hN225 hb216 hb217 hb218 hb219 hu229 hf230
  refine st_take rfl rfl (y_assign (v := .bool ((addM a ((addM b c).1)).2)) rfl h211) rfl ?_
  obtain ⟨a238, ha239⟩ : ∃ a', a' = a196.put (some 14) (.bool ((addM a ((addM b c).1)).2)) := ⟨_, rfl⟩
  have hs240 : a238.tmps.size = 111 := by rw [ha239, put_size]; exact hs200
  have hd241 : a238.defers = [] := by rw [ha239, put_defers]; exact hd201
  have h242 : a238.eval (.tmp 3) = pv q8 := by rw [ha239, put_ne _ _ _ _ (by decide)]; exact h202
  have h243 : a238.eval (.tmp 4) = pv q12 := by rw [ha239, put_ne _ _ _ _ (by decide)]; exact h203
  have h244 : a238.eval (.tmp 5) = pv q16 := by rw [ha239, put_ne _ _ _ _ (by decide)]; exact h204
  have h245 : a238.eval (.tmp 6) = .bool false := by rw [ha239, put_ne _ _ _ _ (by decide)]; exact h205
  have h246 : a238.eval (.tmp 8) = .bool ((addM a b).2) := by rw [ha239, put_ne _ _ _ _ (by decide)]; exact h206
  have h247 : a238.eval (.tmp 10) = .bool ((addM b c).2) := by rw [ha239, put_ne _ _ _ _ (by decide)]; exact h207
  have h248 : a238.eval (.tmp 11) = pv q156 := by rw [ha239, put_ne _ _ _ _ (by decide)]; exact h208
  have h249 : a238.eval (.tmp 12) = .bool ((addM ((addM a b).1) c).2) := by rw [ha239, put_ne _ _ _ _ (by decide)]; exact h209
  have h250 : a238.eval (.tmp 47) = nv ((addM a ((addM b c).1)).1) := by rw [ha239, put_ne _ _ _ _ (by decide)]; exact h210
  have h251 : a238.eval (.tmp 48) = .bool ((addM a ((addM b c).1)).2) := by rw [ha239, put_ne _ _ _ _ (by decide)]; exact h211
  have h252 : a238.eval (.tmp 13) = pv q213 := by rw [ha239, put_ne _ _ _ _ (by decide)]; exact h212
  have h253 : a238.eval (.tmp 14) = .bool ((addM a ((addM b c).1)).2) := by rw [ha239]; exact put_same _ _ _ (by rw [hs200]; decide)
  show stepsTo _ _ _ _ _ (a196.put (some 14) (.bool ((addM a ((addM b c).1)).2))) _
  rw [← ha239]
  clear ha239 hs200 hd201 h202 h203 h204 h205 h206 h207 h208 h209 h210 h211 h212
  clear hne220
  clear hne221
  clear hne222
  clear hne223
  refine st_nil ?_
  clear h250 h251
  refine hK _ _ ?_
  clear hK K
  refine wp_seq_k fun K hK => ?_
  refine wp_seq_k fun K hK => ?_
  rcases Bool.eq_false_or_eq_true ((addM a b).2) with ht254 | ht254
  · skip
    have hv255 : a238.eval (.tmp 8) = .bool true := h246.trans (congrArg Value.bool ht254)
    clear h246
    rcases Bool.eq_false_or_eq_true ((addM b c).2) with ht256 | ht256
    · skip
      have hv257 : a238.eval (.tmp 10) = .bool true := h247.trans (congrArg Value.bool ht256)
      clear h247
      rcases Bool.eq_false_or_eq_true ((addM ((addM a b).1) c).2) with ht258 | ht258
      · skip
        have hv259 : a238.eval (.tmp 12) = .bool true := h249.trans (congrArg Value.bool ht258)
        clear h249
        rcases Bool.eq_false_or_eq_true ((addM a ((addM b c).1)).2) with ht260 | ht260
        · skip
          have hv261 : a238.eval (.tmp 14) = .bool true := h253.trans (congrArg Value.bool ht260)
          clear h253
          have ht262 : (sameM ((addM ((addM a b).1) c).1) ((addM a ((addM b c).1)).1)) = true := add_assoc ht254 ht256 ht258 ht260
          refine wp_g0 [true, true, true, true, true, true, true, true, true, true, true, true, true, true, true, true] [] 111
            [ve (.bool true),
             ve (.bool true),
             ve (.bool true),
             ve (.bool true),
             ve (.bool true),
             ve (.bool true),
             ve (.bool true),
             ve (.bool true),
             ve (.bool true),
             ve (.bool true),
             ve (.bool true),
             ve (nv ((addM ((addM a b).1) c).1)),
             ve (nv ((addM a ((addM b c).1)).1)),
             ve (.bool true),
             ve (.bool false),
             ve (.bool false)] hs240 (.eq (.eq (.eq (.eq (.eq (.eq (.eq (.eq (.eq (.eq (.eq (.eq (.eq (.eq (.eq (.eq (.nil))))))))))))))))) ?_ ?_
          · skip
            refine .o1 (tk rfl rfl fun _ w hn k => ⟨_, v_move rfl (k.fx 8 hv255), rfl⟩) ?_
            refine .o1 (tk rfl rfl fun _ w hn k => ⟨_, v_move rfl (k.eq1 0 49 rfl), rfl⟩) ?_
            refine .o1 (tg rfl rfl rfl (fun _ _ k => k.eq1 1 50 rfl) fun _ w hn k => ⟨_, v_move rfl (k.fx 10 hv257), rfl⟩) ?_
            refine .o1 (tk rfl rfl fun _ w hn k => ⟨_, v_pickT rfl (k.eq1 1 50 rfl) (k.eq1 2 51 rfl), rfl⟩) ?_
            refine .o1 (tk rfl rfl fun _ w hn k => ⟨_, v_move rfl (k.eq1 3 52 rfl), rfl⟩) ?_
            refine .o1 (tg rfl rfl rfl (fun _ _ k => k.eq1 4 53 rfl) fun _ w hn k => ⟨_, v_move rfl (k.fx 12 hv259), rfl⟩) ?_
            refine .o1 (tk rfl rfl fun _ w hn k => ⟨_, v_pickT rfl (k.eq1 4 53 rfl) (k.eq1 5 54 rfl), rfl⟩) ?_
            refine .o1 (tk rfl rfl fun _ w hn k => ⟨_, v_move rfl (k.eq1 6 55 rfl), rfl⟩) ?_
            refine .o1 (tg rfl rfl rfl (fun _ _ k => k.eq1 7 56 rfl) fun _ w hn k => ⟨_, v_move rfl (k.fx 14 hv261), rfl⟩) ?_
            refine .o1 (tk rfl rfl fun _ w hn k => ⟨_, v_pickT rfl (k.eq1 7 56 rfl) (k.eq1 8 57 rfl), rfl⟩) ?_
            refine .o1 (tk rfl rfl fun _ w hn k => ⟨_, v_move rfl (k.eq1 9 58 rfl), rfl⟩) ?_
            refine .o1 (tg rfl rfl rfl (fun _ _ k => k.eq1 10 59 rfl) fun _ w hn k => ⟨_, v_load rfl (k.fx 11 h248) (l_two Tryd.isAgg23 Tryd.sizeOf23 (hb236.new_ hn)), rfl⟩) ?_
            refine .o1 (tg rfl rfl rfl (fun _ _ k => k.eq1 10 59 rfl) fun _ w hn k => ⟨_, v_load rfl (k.fx 13 h252) (l_two Tryd.isAgg23 Tryd.sizeOf23 (hb228.new_ hn)), rfl⟩) ?_
            refine .o1 (cg rfl rfl rfl (fun _ _ k => k.eq1 10 59 rfl) rfl (fun _ w hn k => ⟨#[nv ((addM ((addM a b).1) c).1), nv ((addM a ((addM b c).1)).1)], args2 (k.eq1 11 60 rfl) (k.eq1 12 61 rfl), fun _ => by kernel_rfl, same_c ((addM ((addM a b).1) c).1) ((addM a ((addM b c).1)).1) _⟩) fun _ => congrArg Value.bool ht262) ?_
            refine .o1 (tg rfl rfl rfl (fun _ _ k => k.eq1 10 59 rfl) fun _ w hn k => ⟨_, v_not rfl (k.eq1 13 62 rfl), rfl⟩) ?_
            refine .o1 (tk rfl rfl fun _ w hn k => ⟨_, v_pickT rfl (k.eq1 10 59 rfl) (k.eq1 14 63 rfl), rfl⟩) ?_
            exact .nil
          intro a263 w264 hn265 ha266
          have hs267 := ha266.size.trans hs240
          have hd268 := ha266.defers.trans hd241
          have h269 := ha266.fx 3 h242
          have h270 := ha266.fx 4 h243
          have h271 := ha266.fx 5 h244
          have h272 := ha266.fx 6 h245
          have h273 := ha266.ge 15 64 rfl
          have hb274 := hb233.new_ hn265
          have hb275 := hb234.new_ hn265
          have hb276 := hb235.new_ hn265
          have hN277 := hN237.transNew hn265
          clear hs240 hd241 h242 h243 h244 h245 hv255 hv257 h248 hv259 h252 hv261 hb233 hb234 hb235 hb236 hq167 hb228 hq224 hN237 ha266 hn265
          refine st_nil ?_
          refine hK _ _ ?_
          clear hK K
          refine wp_cond_false h273 ?_
          refine wp_skip ?_
          refine hK _ _ ?_
          clear hK K
          refine wp_seq_k fun K hK => ?_
          refine wp_g [true, true, true, true, true, true, true, false, false] [5] [(7, false), (8, true)] 111
            [ve (nv a),
             ve (nv b),
             ve (.tuple #[nv ((mulM a b).1), .bool ((mulM a b).2)]),
             ve (.tuple #[nv ((mulM a b).1), .bool ((mulM a b).2)]),
             ve (nv ((mulM a b).1)),
             ve (.bool ((mulM a b).2)),
             IsNew w264 23 [iv 0, iv 0],
             vt,
             vt]
            [6] (newsCons (fun v w h => IsNew.old h) newsNil) hs267 (.eq (.eq (.eq (.eq (.eq (.eq (.nw (.tt (.tt (.nil)))))))))) ?_ ?_ ?_
          · skip
            refine .o1 (tk rfl rfl fun _ w hn k => ⟨_, v_load rfl (k.fx 3 h269) (l_two Tryd.isAgg23 Tryd.sizeOf23 (hb274.new_ hn)), rfl⟩) ?_
            refine .o1 (tk rfl rfl fun _ w hn k => ⟨_, v_load rfl (k.fx 4 h270) (l_two Tryd.isAgg23 Tryd.sizeOf23 (hb275.new_ hn)), rfl⟩) ?_
            refine .o1 (ck rfl rfl rfl (fun _ w hn k => ⟨#[nv a, nv b], args2 (k.eq1 0 66 rfl) (k.eq1 1 67 rfl), fun _ => by kernel_rfl, mul_c a b _⟩) fun _ => rfl) ?_
            refine .o1 (tk rfl rfl fun _ w hn k => ⟨_, v_move rfl (k.eq1 2 68 rfl), rfl⟩) ?_
            refine .o1 (tk rfl rfl fun _ w hn k => ⟨_, v_extract rfl (k.eq1 3 65 rfl) rfl, rfl⟩) ?_
            refine .o3 ?_
            refine .o2 (step_allocN (cs := [iv 0, iv 0]) (t := 23) rfl (noG rfl) (fun _ w hn k => rfl) (fun q _ hq hb => ⟨q, rfl, hq, hb⟩)) ?_
            refine .off ?_
            refine .off ?_
            exact .nil
          · skip
            intro i h
            simp only [List.contains_eq_mem, List.mem_cons, List.not_mem_nil, or_false, decide_eq_true_eq] at h
            subst h
            · exact eager_take rfl rfl fun _ w hn k => ⟨.bool ((mulM a b).2), fun w => v_extract rfl (k.eq1 3 65 rfl) rfl, rfl⟩
          intro a278 w279 hn280 ha281
          have hs282 := ha281.size.trans hs267
          have hd283 := ha281.defers.trans hd268
          have h284 := ha281.fx 3 h269
          have h285 := ha281.fx 4 h270
          have h286 := ha281.fx 5 h271
          have h287 := ha281.fx 6 h272
          have h288 := ha281.ge 4 69 rfl
          have h289 := ha281.ge 5 70 rfl
          obtain ⟨q291, h290, hq292, hb293⟩ : IsNew _ _ _ _ _ := ha281.got 6 15 rfl (by kernel_rfl)
          have hb294 := hb274.new_ hn280
          have hb295 := hb275.new_ hn280
          have hb296 := hb276.new_ hn280
          have hne297 : q8 ≠ q291 := by have h1 := hb274.lt; have h2 := hq292; omega
          have hne298 : q12 ≠ q291 := by have h1 := hb275.lt; have h2 := hq292; omega
          have hne299 : q16 ≠ q291 := by have h1 := hb276.lt; have h2 := hq292; omega
          have hq300 := Nat.le_trans hN277.size hq292
          have hN301 := hN277.transNew hn280
          clear hs267 hd268 h269 h270 h271 h272 h273 hb274 hb275 hb276 hq292 hN277 ha281 hn280
          obtain ⟨w302, -, hst303, hb304, hu305, hf306⟩ := s_two (v0 := iv ((mulM a b).1.k)) (v1 := iv ((mulM a b).1.n)) Tryd.sizeOf23 rfl rfl rfl hb293
          refine st_act rfl rfl fun K307 hL308 => a_store' rfl h290 h288 hst303 (hL308 _ _ trivial ?_)
          have hb309 := hf306 _ _ _ (hne297) hb294
          have hb310 := hf306 _ _ _ (hne298) hb295
          have hb311 := hf306 _ _ _ (hne299) hb296
          have hN312 := hN301.trans hu305 (fun k hk hkb => by subst hkb; omega)
          clear hb293 hst303 K307 hL308 hN301 hb294 hb295 hb296 hu305 hf306
          refine st_take rfl rfl (y_assign (v := .bool ((mulM a b).2)) rfl h289) rfl ?_
          obtain ⟨a313, ha314⟩ : ∃ a', a' = a278.put (some 16) (.bool ((mulM a b).2)) := ⟨_, rfl⟩
          have hs315 : a313.tmps.size = 111 := by rw [ha314, put_size]; exact hs282
          have hd316 : a313.defers = [] := by rw [ha314, put_defers]; exact hd283
          have h317 : a313.eval (.tmp 3) = pv q8 := by rw [ha314, put_ne _ _ _ _ (by decide)]; exact h284
          have h318 : a313.eval (.tmp 4) = pv q12 := by rw [ha314, put_ne _ _ _ _ (by decide)]; exact h285
          have h319 : a313.eval (.tmp 5) = pv q16 := by rw [ha314, put_ne _ _ _ _ (by decide)]; exact h286
          have h320 : a313.eval (.tmp 6) = .bool false := by rw [ha314, put_ne _ _ _ _ (by decide)]; exact h287
          have h321 : a313.eval (.tmp 69) = nv ((mulM a b).1) := by rw [ha314, put_ne _ _ _ _ (by decide)]; exact h288
          have h322 : a313.eval (.tmp 70) = .bool ((mulM a b).2) := by rw [ha314, put_ne _ _ _ _ (by decide)]; exact h289
          have h323 : a313.eval (.tmp 15) = pv q291 := by rw [ha314, put_ne _ _ _ _ (by decide)]; exact h290
          have h324 : a313.eval (.tmp 16) = .bool ((mulM a b).2) := by rw [ha314]; exact put_same _ _ _ (by rw [hs282]; decide)
          show stepsTo _ _ _ _ _ (a278.put (some 16) (.bool ((mulM a b).2))) _
          rw [← ha314]
          clear ha314 hs282 hd283 h284 h285 h286 h287 h288 h289 h290
          clear hne297
          clear hne298
          clear hne299
          refine st_nil ?_
          clear h321 h322
          refine hK _ _ ?_
          clear hK K
          refine wp_seq_k fun K hK => ?_
          refine wp_g [true, true, true, true, true, true, true, false, false] [5] [(7, false), (8, true)] 111
            [ve (nv b),
             ve (nv c),
             ve (.tuple #[nv ((mulM b c).1), .bool ((mulM b c).2)]),
             ve (.tuple #[nv ((mulM b c).1), .bool ((mulM b c).2)]),
             ve (nv ((mulM b c).1)),
             ve (.bool ((mulM b c).2)),
             IsNew w302 23 [iv 0, iv 0],
             vt,
             vt]
            [6] (newsCons (fun v w h => IsNew.old h) newsNil) hs315 (.eq (.eq (.eq (.eq (.eq (.eq (.nw (.tt (.tt (.nil)))))))))) ?_ ?_ ?_
          · skip
            refine .o1 (tk rfl rfl fun _ w hn k => ⟨_, v_load rfl (k.fx 4 h318) (l_two Tryd.isAgg23 Tryd.sizeOf23 (hb310.new_ hn)), rfl⟩) ?_
            refine .o1 (tk rfl rfl fun _ w hn k => ⟨_, v_load rfl (k.fx 5 h319) (l_two Tryd.isAgg23 Tryd.sizeOf23 (hb311.new_ hn)), rfl⟩) ?_
            refine .o1 (ck rfl rfl rfl (fun _ w hn k => ⟨#[nv b, nv c], args2 (k.eq1 0 72 rfl) (k.eq1 1 73 rfl), fun _ => by kernel_rfl, mul_c b c _⟩) fun _ => rfl) ?_
            refine .o1 (tk rfl rfl fun _ w hn k => ⟨_, v_move rfl (k.eq1 2 74 rfl), rfl⟩) ?_
            refine .o1 (tk rfl rfl fun _ w hn k => ⟨_, v_extract rfl (k.eq1 3 71 rfl) rfl, rfl⟩) ?_
            refine .o3 ?_
            refine .o2 (step_allocN (cs := [iv 0, iv 0]) (t := 23) rfl (noG rfl) (fun _ w hn k => rfl) (fun q _ hq hb => ⟨q, rfl, hq, hb⟩)) ?_
            refine .off ?_
            refine .off ?_
            exact .nil
          · skip
            intro i h
            simp only [List.contains_eq_mem, List.mem_cons, List.not_mem_nil, or_false, decide_eq_true_eq] at h
            subst h
            · exact eager_take rfl rfl fun _ w hn k => ⟨.bool ((mulM b c).2), fun w => v_extract rfl (k.eq1 3 71 rfl) rfl, rfl⟩
          intro a325 w326 hn327 ha328
          have hs329 := ha328.size.trans hs315
          have hd330 := ha328.defers.trans hd316
          have h331 := ha328.fx 3 h317
          have h332 := ha328.fx 5 h319
          have h333 := ha328.fx 6 h320
          have h334 := ha328.fx 15 h323
          have h335 := ha328.fx 16 h324
          have h336 := ha328.ge 4 75 rfl
          have h337 := ha328.ge 5 76 rfl
          obtain ⟨q339, h338, hq340, hb341⟩ : IsNew _ _ _ _ _ := ha328.got 6 17 rfl (by kernel_rfl)
          have hb342 := hb309.new_ hn327
          have hb343 := hb311.new_ hn327
          have hb344 := hb304.new_ hn327
          have hne345 : q8 ≠ q339 := by have h1 := hb309.lt; have h2 := hq340; omega
          have hne346 : q16 ≠ q339 := by have h1 := hb311.lt; have h2 := hq340; omega
          have hne347 : q291 ≠ q339 := by have h1 := hb304.lt; have h2 := hq340; omega
          have hq348 := Nat.le_trans hN312.size hq340
          have hN349 := hN312.transNew hn327
          clear hs315 hd316 h317 h318 h319 h320 h323 h324 hb309 hb310 hq21 hb311 hb304 hq340 hN312 ha328 hn327
          obtain ⟨w350, -, hst351, hb352, hu353, hf354⟩ := s_two (v0 := iv ((mulM b c).1.k)) (v1 := iv ((mulM b c).1.n)) Tryd.sizeOf23 rfl rfl rfl hb341
          refine st_act rfl rfl fun K355 hL356 => a_store' rfl h338 h336 hst351 (hL356 _ _ trivial ?_)
          have hb357 := hf354 _ _ _ (hne345) hb342
          have hb358 := hf354 _ _ _ (hne346) hb343
          have hb359 := hf354 _ _ _ (hne347) hb344
          have hN360 := hN349.trans hu353 (fun k hk hkb => by subst hkb; omega)
          clear hb341 hst351 K355 hL356 hN349 hb342 hb343 hb344 hu353 hf354
          refine st_take rfl rfl (y_assign (v := .bool ((mulM b c).2)) rfl h337) rfl ?_
          obtain ⟨a361, ha362⟩ : ∃ a', a' = a325.put (some 18) (.bool ((mulM b c).2)) := ⟨_, rfl⟩
          have hs363 : a361.tmps.size = 111 := by rw [ha362, put_size]; exact hs329
          have hd364 : a361.defers = [] := by rw [ha362, put_defers]; exact hd330
          have h365 : a361.eval (.tmp 3) = pv q8 := by rw [ha362, put_ne _ _ _ _ (by decide)]; exact h331
          have h366 : a361.eval (.tmp 5) = pv q16 := by rw [ha362, put_ne _ _ _ _ (by decide)]; exact h332
          have h367 : a361.eval (.tmp 6) = .bool false := by rw [ha362, put_ne _ _ _ _ (by decide)]; exact h333
          have h368 : a361.eval (.tmp 15) = pv q291 := by rw [ha362, put_ne _ _ _ _ (by decide)]; exact h334
          have h369 : a361.eval (.tmp 16) = .bool ((mulM a b).2) := by rw [ha362, put_ne _ _ _ _ (by decide)]; exact h335
          have h370 : a361.eval (.tmp 75) = nv ((mulM b c).1) := by rw [ha362, put_ne _ _ _ _ (by decide)]; exact h336
          have h371 : a361.eval (.tmp 76) = .bool ((mulM b c).2) := by rw [ha362, put_ne _ _ _ _ (by decide)]; exact h337
          have h372 : a361.eval (.tmp 17) = pv q339 := by rw [ha362, put_ne _ _ _ _ (by decide)]; exact h338
          have h373 : a361.eval (.tmp 18) = .bool ((mulM b c).2) := by rw [ha362]; exact put_same _ _ _ (by rw [hs329]; decide)
          show stepsTo _ _ _ _ _ (a325.put (some 18) (.bool ((mulM b c).2))) _
          rw [← ha362]
          clear ha362 hs329 hd330 h331 h332 h333 h334 h335 h336 h337 h338
          clear hne345
          clear hne346
          clear hne347
          refine st_nil ?_
          clear h370 h371
          refine hK _ _ ?_
          clear hK K
          refine wp_seq_k fun K hK => ?_
          refine wp_g [true, true, true, true, true, true, true, false, false] [5] [(7, false), (8, true)] 111
            [ve (nv ((mulM a b).1)),
             ve (nv c),
             ve (.tuple #[nv ((mulM ((mulM a b).1) c).1), .bool ((mulM ((mulM a b).1) c).2)]),
             ve (.tuple #[nv ((mulM ((mulM a b).1) c).1), .bool ((mulM ((mulM a b).1) c).2)]),
             ve (nv ((mulM ((mulM a b).1) c).1)),
             ve (.bool ((mulM ((mulM a b).1) c).2)),
             IsNew w350 23 [iv 0, iv 0],
             vt,
             vt]
            [6] (newsCons (fun v w h => IsNew.old h) newsNil) hs363 (.eq (.eq (.eq (.eq (.eq (.eq (.nw (.tt (.tt (.nil)))))))))) ?_ ?_ ?_
          · skip
            refine .o1 (tk rfl rfl fun _ w hn k => ⟨_, v_load rfl (k.fx 15 h368) (l_two Tryd.isAgg23 Tryd.sizeOf23 (hb359.new_ hn)), rfl⟩) ?_
            refine .o1 (tk rfl rfl fun _ w hn k => ⟨_, v_load rfl (k.fx 5 h366) (l_two Tryd.isAgg23 Tryd.sizeOf23 (hb358.new_ hn)), rfl⟩) ?_
            refine .o1 (ck rfl rfl rfl (fun _ w hn k => ⟨#[nv ((mulM a b).1), nv c], args2 (k.eq1 0 78 rfl) (k.eq1 1 79 rfl), fun _ => by kernel_rfl, mul_c ((mulM a b).1) c _⟩) fun _ => rfl) ?_
            refine .o1 (tk rfl rfl fun _ w hn k => ⟨_, v_move rfl (k.eq1 2 80 rfl), rfl⟩) ?_
            refine .o1 (tk rfl rfl fun _ w hn k => ⟨_, v_extract rfl (k.eq1 3 77 rfl) rfl, rfl⟩) ?_
            refine .o3 ?_
            refine .o2 (step_allocN (cs := [iv 0, iv 0]) (t := 23) rfl (noG rfl) (fun _ w hn k => rfl) (fun q _ hq hb => ⟨q, rfl, hq, hb⟩)) ?_
            refine .off ?_
            refine .off ?_
            exact .nil
          · skip
            intro i h
            simp only [List.contains_eq_mem, List.mem_cons, List.not_mem_nil, or_false, decide_eq_true_eq] at h
            subst h
            · exact eager_take rfl rfl fun _ w hn k => ⟨.bool ((mulM ((mulM a b).1) c).2), fun w => v_extract rfl (k.eq1 3 77 rfl) rfl, rfl⟩
          intro a374 w375 hn376 ha377
          have hs378 := ha377.size.trans hs363
          have hd379 := ha377.defers.trans hd364
          have h380 := ha377.fx 3 h365
          have h381 := ha377.fx 6 h367
          have h382 := ha377.fx 16 h369
          have h383 := ha377.fx 17 h372
          have h384 := ha377.fx 18 h373
          have h385 := ha377.ge 4 81 rfl
          have h386 := ha377.ge 5 82 rfl
          obtain ⟨q388, h387, hq389, hb390⟩ : IsNew _ _ _ _ _ := ha377.got 6 19 rfl (by kernel_rfl)
          have hb391 := hb357.new_ hn376
          have hb392 := hb352.new_ hn376
          have hne393 : q8 ≠ q388 := by have h1 := hb357.lt; have h2 := hq389; omega
          have hne394 : q339 ≠ q388 := by have h1 := hb352.lt; have h2 := hq389; omega
          have hq395 := Nat.le_trans hN360.size hq389
          have hN396 := hN360.transNew hn376
          clear hs363 hd364 h365 h366 h367 h368 h369 h372 h373 hb357 hb358 hq22 hb359 hq300 hb352 hq389 hN360 ha377 hn376
          obtain ⟨w397, -, hst398, hb399, hu400, hf401⟩ := s_two (v0 := iv ((mulM ((mulM a b).1) c).1.k)) (v1 := iv ((mulM ((mulM a b).1) c).1.n)) Tryd.sizeOf23 rfl rfl rfl hb390
          refine st_act rfl rfl fun K402 hL403 => a_store' rfl h387 h385 hst398 (hL403 _ _ trivial ?_)
          have hb404 := hf401 _ _ _ (hne393) hb391
          have hb405 := hf401 _ _ _ (hne394) hb392
          have hN406 := hN396.trans hu400 (fun k hk hkb => by subst hkb; omega)
          clear hb390 hst398 K402 hL403 hN396 hb391 hb392 hu400 hf401
          refine st_take rfl rfl (y_assign (v := .bool ((mulM ((mulM a b).1) c).2)) rfl h386) rfl ?_
          obtain ⟨a407, ha408⟩ : ∃ a', a' = a374.put (some 20) (.bool ((mulM ((mulM a b).1) c).2)) := ⟨_, rfl⟩
          have hs409 : a407.tmps.size = 111 := by rw [ha408, put_size]; exact hs378
          have hd410 : a407.defers = [] := by rw [ha408, put_defers]; exact hd379
          have h411 : a407.eval (.tmp 3) = pv q8 := by rw [ha408, put_ne _ _ _ _ (by decide)]; exact h380
          have h412 : a407.eval (.tmp 6) = .bool false := by rw [ha408, put_ne _ _ _ _ (by decide)]; exact h381
          have h413 : a407.eval (.tmp 16) = .bool ((mulM a b).2) := by rw [ha408, put_ne _ _ _ _ (by decide)]; exact h382
          have h414 : a407.eval (.tmp 17) = pv q339 := by rw [ha408, put_ne _ _ _ _ (by decide)]; exact h383
          have h415 : a407.eval (.tmp 18) = .bool ((mulM b c).2) := by rw [ha408, put_ne _ _ _ _ (by decide)]; exact h384
          have h416 : a407.eval (.tmp 81) = nv ((mulM ((mulM a b).1) c).1) := by rw [ha408, put_ne _ _ _ _ (by decide)]; exact h385
          have h417 : a407.eval (.tmp 82) = .bool ((mulM ((mulM a b).1) c).2) := by rw [ha408, put_ne _ _ _ _ (by decide)]; exact h386
          have h418 : a407.eval (.tmp 19) = pv q388 := by rw [ha408, put_ne _ _ _ _ (by decide)]; exact h387
          have h419 : a407.eval (.tmp 20) = .bool ((mulM ((mulM a b).1) c).2) := by rw [ha408]; exact put_same _ _ _ (by rw [hs378]; decide)
          show stepsTo _ _ _ _ _ (a374.put (some 20) (.bool ((mulM ((mulM a b).1) c).2))) _
          rw [← ha408]
          clear ha408 hs378 hd379 h380 h381 h382 h383 h384 h385 h386 h387
          clear hne393
          clear hne394
          refine st_nil ?_
          clear h416 h417
          refine hK _ _ ?_
          clear hK K
          refine wp_seq_k fun K hK => ?_
          refine wp_g [true, true, true, true, true, true, true, false, false] [5] [(7, false), (8, true)] 111
            [ve (nv a),
             ve (nv ((mulM b c).1)),
             ve (.tuple #[nv ((mulM a ((mulM b c).1)).1), .bool ((mulM a ((mulM b c).1)).2)]),
             ve (.tuple #[nv ((mulM a ((mulM b c).1)).1), .bool ((mulM a ((mulM b c).1)).2)]),
             ve (nv ((mulM a ((mulM b c).1)).1)),
             ve (.bool ((mulM a ((mulM b c).1)).2)),
             IsNew w397 23 [iv 0, iv 0],
             vt,
             vt]
            [6] (newsCons (fun v w h => IsNew.old h) newsNil) hs409 (.eq (.eq (.eq (.eq (.eq (.eq (.nw (.tt (.tt (.nil)))))))))) ?_ ?_ ?_
          · skip
            refine .o1 (tk rfl rfl fun _ w hn k => ⟨_, v_load rfl (k.fx 3 h411) (l_two Tryd.isAgg23 Tryd.sizeOf23 (hb404.new_ hn)), rfl⟩) ?_
            refine .o1 (tk rfl rfl fun _ w hn k => ⟨_, v_load rfl (k.fx 17 h414) (l_two Tryd.isAgg23 Tryd.sizeOf23 (hb405.new_ hn)), rfl⟩) ?_
            refine .o1 (ck rfl rfl rfl (fun _ w hn k => ⟨#[nv a, nv ((mulM b c).1)], args2 (k.eq1 0 84 rfl) (k.eq1 1 85 rfl), fun _ => by kernel_rfl, mul_c a ((mulM b c).1) _⟩) fun _ => rfl) ?_
            refine .o1 (tk rfl rfl fun _ w hn k => ⟨_, v_move rfl (k.eq1 2 86 rfl), rfl⟩) ?_
            refine .o1 (tk rfl rfl fun _ w hn k => ⟨_, v_extract rfl (k.eq1 3 83 rfl) rfl, rfl⟩) ?_
            refine .o3 ?_
            refine .o2 (step_allocN (cs := [iv 0, iv 0]) (t := 23) rfl (noG rfl) (fun _ w hn k => rfl) (fun q _ hq hb => ⟨q, rfl, hq, hb⟩)) ?_
            refine .off ?_
            refine .off ?_
            exact .nil
          · skip
            intro i h
            simp only [List.contains_eq_mem, List.mem_cons, List.not_mem_nil, or_false, decide_eq_true_eq] at h
            subst h
            · exact eager_take rfl rfl fun _ w hn k => ⟨.bool ((mulM a ((mulM b c).1)).2), fun w => v_extract rfl (k.eq1 3 83 rfl) rfl, rfl⟩
          intro a420 w421 hn422 ha423
          have hs424 := ha423.size.trans hs409
          have hd425 := ha423.defers.trans hd410
          have h426 := ha423.fx 6 h412
          have h427 := ha423.fx 16 h413
          have h428 := ha423.fx 18 h415
          have h429 := ha423.fx 19 h418
          have h430 := ha423.fx 20 h419
          have h431 := ha423.ge 4 87 rfl
          have h432 := ha423.ge 5 88 rfl
          obtain ⟨q434, h433, hq435, hb436⟩ : IsNew _ _ _ _ _ := ha423.got 6 21 rfl (by kernel_rfl)
          have hb437 := hb399.new_ hn422
          have hne438 : q388 ≠ q434 := by have h1 := hb399.lt; have h2 := hq435; omega
          have hq439 := Nat.le_trans hN406.size hq435
          have hN440 := hN406.transNew hn422
          clear hs409 hd410 h411 h412 h413 h414 h415 h418 h419 hb404 hq20 hb405 hq348 hb399 hq435 hN406 ha423 hn422
          obtain ⟨w441, -, hst442, hb443, hu444, hf445⟩ := s_two (v0 := iv ((mulM a ((mulM b c).1)).1.k)) (v1 := iv ((mulM a ((mulM b c).1)).1.n)) Tryd.sizeOf23 rfl rfl rfl hb436
          refine st_act rfl rfl fun K446 hL447 => a_store' rfl h433 h431 hst442 (hL447 _ _ trivial ?_)
          have hb448 := hf445 _ _ _ (hne438) hb437
          have hN449 := hN440.trans hu444 (fun k hk hkb => by subst hkb; omega)
          clear hb436 hst442 K446 hL447 hN440 hb437 hu444 hf445
          refine st_take rfl rfl (y_assign (v := .bool ((mulM a ((mulM b c).1)).2)) rfl h432) rfl ?_
          obtain ⟨a450, ha451⟩ : ∃ a', a' = a420.put (some 22) (.bool ((mulM a ((mulM b c).1)).2)) := ⟨_, rfl⟩
          have hs452 : a450.tmps.size = 111 := by rw [ha451, put_size]; exact hs424
          have hd453 : a450.defers = [] := by rw [ha451, put_defers]; exact hd425
          have h454 : a450.eval (.tmp 6) = .bool false := by rw [ha451, put_ne _ _ _ _ (by decide)]; exact h426
          have h455 : a450.eval (.tmp 16) = .bool ((mulM a b).2) := by rw [ha451, put_ne _ _ _ _ (by decide)]; exact h427
          have h456 : a450.eval (.tmp 18) = .bool ((mulM b c).2) := by rw [ha451, put_ne _ _ _ _ (by decide)]; exact h428
          have h457 : a450.eval (.tmp 19) = pv q388 := by rw [ha451, put_ne _ _ _ _ (by decide)]; exact h429
          have h458 : a450.eval (.tmp 20) = .bool ((mulM ((mulM a b).1) c).2) := by rw [ha451, put_ne _ _ _ _ (by decide)]; exact h430
          have h459 : a450.eval (.tmp 87) = nv ((mulM a ((mulM b c).1)).1) := by rw [ha451, put_ne _ _ _ _ (by decide)]; exact h431
          have h460 : a450.eval (.tmp 88) = .bool ((mulM a ((mulM b c).1)).2) := by rw [ha451, put_ne _ _ _ _ (by decide)]; exact h432
          have h461 : a450.eval (.tmp 21) = pv q434 := by rw [ha451, put_ne _ _ _ _ (by decide)]; exact h433
          have h462 : a450.eval (.tmp 22) = .bool ((mulM a ((mulM b c).1)).2) := by rw [ha451]; exact put_same _ _ _ (by rw [hs424]; decide)
          show stepsTo _ _ _ _ _ (a420.put (some 22) (.bool ((mulM a ((mulM b c).1)).2))) _
          rw [← ha451]
          clear ha451 hs424 hd425 h426 h427 h428 h429 h430 h431 h432 h433
          clear hne438
          refine st_nil ?_
          clear h459 h460
          refine hK _ _ ?_
          clear hK K
          refine wp_seq_k fun K hK => ?_
          rcases Bool.eq_false_or_eq_true ((mulM a b).2) with ht463 | ht463
          · skip
            have hv464 : a450.eval (.tmp 16) = .bool true := h455.trans (congrArg Value.bool ht463)
            clear h455
            rcases Bool.eq_false_or_eq_true ((mulM b c).2) with ht465 | ht465
            · skip
              have hv466 : a450.eval (.tmp 18) = .bool true := h456.trans (congrArg Value.bool ht465)
              clear h456
              rcases Bool.eq_false_or_eq_true ((mulM ((mulM a b).1) c).2) with ht467 | ht467
              · skip
                have hv468 : a450.eval (.tmp 20) = .bool true := h458.trans (congrArg Value.bool ht467)
                clear h458
                rcases Bool.eq_false_or_eq_true ((mulM a ((mulM b c).1)).2) with ht469 | ht469
                · skip
                  have hv470 : a450.eval (.tmp 22) = .bool true := h462.trans (congrArg Value.bool ht469)
                  clear h462
                  refine wp_g0 [true, true, true, true, true, true, true, true, true, true, true, true, true, true, true, true, true, true, true, true, true, true, true] [] 111
                    [ve (.bool true),
                     ve (.bool true),
                     ve (.bool true),
                     ve (.bool false),
                     ve (.bool false),
                     ve (.bool true),
                     ve (.bool false),
                     ve (.bool false),
                     ve (.bool false),
                     ve (.bool true),
                     ve (.bool false),
                     ve (.bool false),
                     ve (.bool false),
                     ve (.bool true),
                     ve (.bool false),
                     ve (.bool false),
                     ve (.bool false),
                     ve (nv ((mulM ((mulM a b).1) c).1)),
                     ve (nv ((mulM a ((mulM b c).1)).1)),
                     ve (.bool (sameM ((mulM ((mulM a b).1) c).1) ((mulM a ((mulM b c).1)).1))),
                     ve (.bool (sameM ((mulM ((mulM a b).1) c).1) ((mulM a ((mulM b c).1)).1))),
                     ve (.bool (sameM ((mulM ((mulM a b).1) c).1) ((mulM a ((mulM b c).1)).1))),
                     ve (.bool (sameM ((mulM ((mulM a b).1) c).1) ((mulM a ((mulM b c).1)).1)))] hs452 (.eq (.eq (.eq (.eq (.eq (.eq (.eq (.eq (.eq (.eq (.eq (.eq (.eq (.eq (.eq (.eq (.eq (.eq (.eq (.eq (.eq (.eq (.eq (.nil)))))))))))))))))))))))) ?_ ?_
                  · skip
                    refine .o1 (ck rfl rfl rfl (fun _ w hn k => ⟨#[], rfl, fun _ => by kernel_rfl, first_c  _⟩) fun _ => rfl) ?_
                    refine .o1 (tk rfl rfl fun _ w hn k => ⟨_, v_move rfl (k.eq1 0 89 rfl), rfl⟩) ?_
                    refine .o1 (tg rfl rfl rfl (fun _ _ k => k.eq1 1 90 rfl) fun _ w hn k => ⟨_, v_move rfl (k.fx 16 hv464), rfl⟩) ?_
                    refine .o1 (tg rfl rfl rfl (fun _ _ k => k.eq1 1 90 rfl) fun _ w hn k => ⟨_, v_not rfl (k.eq1 2 91 rfl), rfl⟩) ?_
                    refine .o1 (tg rfl rfl rfl (fun _ _ k => k.eq1 1 90 rfl) fun _ w hn k => ⟨_, v_move rfl (k.eq1 3 92 rfl), rfl⟩) ?_
                    refine .o1 (tg rfl rfl rfl (fun _ _ k => k.eq1 4 93 rfl) fun _ w hn k => ⟨_, v_move rfl (k.fx 18 hv466), rfl⟩) ?_
                    refine .o1 (tg rfl rfl rfl (fun _ _ k => k.eq1 4 93 rfl) fun _ w hn k => ⟨_, v_not rfl (k.eq1 5 94 rfl), rfl⟩) ?_
                    refine .o1 (tg rfl rfl rfl (fun _ _ k => k.eq1 1 90 rfl) fun _ w hn k => ⟨_, v_pickF rfl (k.eq1 4 93 rfl) (k.eq1 6 95 rfl), rfl⟩) ?_
                    refine .o1 (tg rfl rfl rfl (fun _ _ k => k.eq1 1 90 rfl) fun _ w hn k => ⟨_, v_move rfl (k.eq1 7 96 rfl), rfl⟩) ?_
                    refine .o1 (tg rfl rfl rfl (fun _ _ k => k.eq1 8 97 rfl) fun _ w hn k => ⟨_, v_move rfl (k.fx 20 hv468), rfl⟩) ?_
                    refine .o1 (tg rfl rfl rfl (fun _ _ k => k.eq1 8 97 rfl) fun _ w hn k => ⟨_, v_not rfl (k.eq1 9 98 rfl), rfl⟩) ?_
                    refine .o1 (tg rfl rfl rfl (fun _ _ k => k.eq1 1 90 rfl) fun _ w hn k => ⟨_, v_pickF rfl (k.eq1 8 97 rfl) (k.eq1 10 99 rfl), rfl⟩) ?_
                    refine .o1 (tg rfl rfl rfl (fun _ _ k => k.eq1 1 90 rfl) fun _ w hn k => ⟨_, v_move rfl (k.eq1 11 100 rfl), rfl⟩) ?_
                    refine .o1 (tg rfl rfl rfl (fun _ _ k => k.eq1 12 101 rfl) fun _ w hn k => ⟨_, v_move rfl (k.fx 22 hv470), rfl⟩) ?_
                    refine .o1 (tg rfl rfl rfl (fun _ _ k => k.eq1 12 101 rfl) fun _ w hn k => ⟨_, v_not rfl (k.eq1 13 102 rfl), rfl⟩) ?_
                    refine .o1 (tg rfl rfl rfl (fun _ _ k => k.eq1 1 90 rfl) fun _ w hn k => ⟨_, v_pickF rfl (k.eq1 12 101 rfl) (k.eq1 14 103 rfl), rfl⟩) ?_
                    refine .o1 (tg rfl rfl rfl (fun _ _ k => k.eq1 1 90 rfl) fun _ w hn k => ⟨_, v_move rfl (k.eq1 15 104 rfl), rfl⟩) ?_
                    refine .o1 (tg rfl rfl rfl (fun _ _ k => k.eq1 16 105 rfl) fun _ w hn k => ⟨_, v_load rfl (k.fx 19 h457) (l_two Tryd.isAgg23 Tryd.sizeOf23 (hb448.new_ hn)), rfl⟩) ?_
                    refine .o1 (tg rfl rfl rfl (fun _ _ k => k.eq1 16 105 rfl) fun _ w hn k => ⟨_, v_load rfl (k.fx 21 h461) (l_two Tryd.isAgg23 Tryd.sizeOf23 (hb443.new_ hn)), rfl⟩) ?_
                    refine .o1 (cg rfl rfl rfl (fun _ _ k => k.eq1 16 105 rfl) rfl (fun _ w hn k => ⟨#[nv ((mulM ((mulM a b).1) c).1), nv ((mulM a ((mulM b c).1)).1)], args2 (k.eq1 17 106 rfl) (k.eq1 18 107 rfl), fun _ => by kernel_rfl, same_c ((mulM ((mulM a b).1) c).1) ((mulM a ((mulM b c).1)).1) _⟩) fun _ => rfl) ?_
                    refine .o1 (tg rfl rfl rfl (fun _ _ k => k.eq1 1 90 rfl) fun _ w hn k => ⟨_, v_pickF rfl (k.eq1 16 105 rfl) (k.eq1 19 108 rfl), rfl⟩) ?_
                    refine .o1 (tk rfl rfl fun _ w hn k => ⟨_, v_pickT rfl (k.eq1 1 90 rfl) (k.eq1 20 109 rfl), rfl⟩) ?_
                    refine .o1 (tk rfl rfl fun _ w hn k => ⟨_, v_assign rfl (k.eq1 21 110 rfl), rfl⟩) ?_
                    exact .nil
                  intro a471 w472 hn473 ha474
                  have hs475 := ha474.size.trans hs452
                  have hd476 := ha474.defers.trans hd453
                  have h477 := ha474.ge 22 6 rfl
                  have hN478 := hN449.transNew hn473
                  clear hs452 hd453 h454 hv464 hv466 h457 hv468 h461 hv470 hb448 hq395 hb443 hq439 hN449 ha474 hn473
                  refine st_nil ?_
                  refine hK _ _ ?_
                  clear hK K
                  refine wp_ret (ret_k hd476 (v := .bool (sameM ((mulM ((mulM a b).1) c).1) ((mulM a ((mulM b c).1)).1))) (res_t rfl h477 _) ?_)
                  exact ⟨congrArg (fun b => Ending.returned (.bool b)) (mul_assoc ht463 ht465 ht467 ht469), hN478⟩
                have hv479 : a450.eval (.tmp 22) = .bool false := h462.trans (congrArg Value.bool ht469)
                clear h462
                refine wp_g0 [true, true, true, true, true, true, true, true, true, true, true, true, true, true, true, true, true, true, true, true, true, true, true] [] 111
                  [ve (.bool true),
                   ve (.bool true),
                   ve (.bool true),
                   ve (.bool false),
                   ve (.bool false),
                   ve (.bool true),
                   ve (.bool false),
                   ve (.bool false),
                   ve (.bool false),
                   ve (.bool true),
                   ve (.bool false),
                   ve (.bool false),
                   ve (.bool false),
                   ve (.bool false),
                   ve (.bool true),
                   ve (.bool true),
                   ve (.bool true),
                   ve undef,
                   ve undef,
                   ve undef,
                   ve (.bool true),
                   ve (.bool true),
                   ve (.bool true)] hs452 (.eq (.eq (.eq (.eq (.eq (.eq (.eq (.eq (.eq (.eq (.eq (.eq (.eq (.eq (.eq (.eq (.eq (.eq (.eq (.eq (.eq (.eq (.eq (.nil)))))))))))))))))))))))) ?_ ?_
                · skip
                  refine .o1 (ck rfl rfl rfl (fun _ w hn k => ⟨#[], rfl, fun _ => by kernel_rfl, first_c  _⟩) fun _ => rfl) ?_
                  refine .o1 (tk rfl rfl fun _ w hn k => ⟨_, v_move rfl (k.eq1 0 89 rfl), rfl⟩) ?_
                  refine .o1 (tg rfl rfl rfl (fun _ _ k => k.eq1 1 90 rfl) fun _ w hn k => ⟨_, v_move rfl (k.fx 16 hv464), rfl⟩) ?_
                  refine .o1 (tg rfl rfl rfl (fun _ _ k => k.eq1 1 90 rfl) fun _ w hn k => ⟨_, v_not rfl (k.eq1 2 91 rfl), rfl⟩) ?_
                  refine .o1 (tg rfl rfl rfl (fun _ _ k => k.eq1 1 90 rfl) fun _ w hn k => ⟨_, v_move rfl (k.eq1 3 92 rfl), rfl⟩) ?_
                  refine .o1 (tg rfl rfl rfl (fun _ _ k => k.eq1 4 93 rfl) fun _ w hn k => ⟨_, v_move rfl (k.fx 18 hv466), rfl⟩) ?_
                  refine .o1 (tg rfl rfl rfl (fun _ _ k => k.eq1 4 93 rfl) fun _ w hn k => ⟨_, v_not rfl (k.eq1 5 94 rfl), rfl⟩) ?_
                  refine .o1 (tg rfl rfl rfl (fun _ _ k => k.eq1 1 90 rfl) fun _ w hn k => ⟨_, v_pickF rfl (k.eq1 4 93 rfl) (k.eq1 6 95 rfl), rfl⟩) ?_
                  refine .o1 (tg rfl rfl rfl (fun _ _ k => k.eq1 1 90 rfl) fun _ w hn k => ⟨_, v_move rfl (k.eq1 7 96 rfl), rfl⟩) ?_
                  refine .o1 (tg rfl rfl rfl (fun _ _ k => k.eq1 8 97 rfl) fun _ w hn k => ⟨_, v_move rfl (k.fx 20 hv468), rfl⟩) ?_
                  refine .o1 (tg rfl rfl rfl (fun _ _ k => k.eq1 8 97 rfl) fun _ w hn k => ⟨_, v_not rfl (k.eq1 9 98 rfl), rfl⟩) ?_
                  refine .o1 (tg rfl rfl rfl (fun _ _ k => k.eq1 1 90 rfl) fun _ w hn k => ⟨_, v_pickF rfl (k.eq1 8 97 rfl) (k.eq1 10 99 rfl), rfl⟩) ?_
                  refine .o1 (tg rfl rfl rfl (fun _ _ k => k.eq1 1 90 rfl) fun _ w hn k => ⟨_, v_move rfl (k.eq1 11 100 rfl), rfl⟩) ?_
                  refine .o1 (tg rfl rfl rfl (fun _ _ k => k.eq1 12 101 rfl) fun _ w hn k => ⟨_, v_move rfl (k.fx 22 hv479), rfl⟩) ?_
                  refine .o1 (tg rfl rfl rfl (fun _ _ k => k.eq1 12 101 rfl) fun _ w hn k => ⟨_, v_not rfl (k.eq1 13 102 rfl), rfl⟩) ?_
                  refine .o1 (tg rfl rfl rfl (fun _ _ k => k.eq1 1 90 rfl) fun _ w hn k => ⟨_, v_pickF rfl (k.eq1 12 101 rfl) (k.eq1 14 103 rfl), rfl⟩) ?_
                  refine .o1 (tg rfl rfl rfl (fun _ _ k => k.eq1 1 90 rfl) fun _ w hn k => ⟨_, v_move rfl (k.eq1 15 104 rfl), rfl⟩) ?_
                  refine .o1 (sk rfl rfl rfl (fun _ _ _ k => k.eq1 16 105 rfl) (fun _ => rfl)) ?_
                  refine .o1 (sk rfl rfl rfl (fun _ _ _ k => k.eq1 16 105 rfl) (fun _ => rfl)) ?_
                  refine .o1 (sk rfl rfl rfl (fun _ _ _ k => k.eq1 16 105 rfl) (fun _ => rfl)) ?_
                  refine .o1 (tg rfl rfl rfl (fun _ _ k => k.eq1 1 90 rfl) fun _ w hn k => ⟨_, v_pickT rfl (k.eq1 16 105 rfl) rfl, rfl⟩) ?_
                  refine .o1 (tk rfl rfl fun _ w hn k => ⟨_, v_pickT rfl (k.eq1 1 90 rfl) (k.eq1 20 109 rfl), rfl⟩) ?_
                  refine .o1 (tk rfl rfl fun _ w hn k => ⟨_, v_assign rfl (k.eq1 21 110 rfl), rfl⟩) ?_
                  exact .nil
                intro a480 w481 hn482 ha483
                have hs484 := ha483.size.trans hs452
                have hd485 := ha483.defers.trans hd453
                have h486 := ha483.ge 22 6 rfl
                have hN487 := hN449.transNew hn482
                clear hs452 hd453 h454 hv464 hv466 h457 hv468 h461 hv479 hb448 hq395 hb443 hq439 hN449 ha483 hn482
                refine st_nil ?_
                refine hK _ _ ?_
                clear hK K
                refine wp_ret (ret_k hd485 (v := .bool true) (res_t rfl h486 _) ?_)
                exact ⟨rfl, hN487⟩
              have hv488 : a450.eval (.tmp 20) = .bool false := h458.trans (congrArg Value.bool ht467)
              clear h458
              refine wp_g0 [true, true, true, true, true, true, true, true, true, true, true, true, true, true, true, true, true, true, true, true, true, true, true] [] 111
                [ve (.bool true),
                 ve (.bool true),
                 ve (.bool true),
                 ve (.bool false),
                 ve (.bool false),
                 ve (.bool true),
                 ve (.bool false),
                 ve (.bool false),
                 ve (.bool false),
                 ve (.bool false),
                 ve (.bool true),
                 ve (.bool true),
                 ve (.bool true),
                 ve undef,
                 ve undef,
                 ve (.bool true),
                 ve (.bool true),
                 ve undef,
                 ve undef,
                 ve undef,
                 ve (.bool true),
                 ve (.bool true),
                 ve (.bool true)] hs452 (.eq (.eq (.eq (.eq (.eq (.eq (.eq (.eq (.eq (.eq (.eq (.eq (.eq (.eq (.eq (.eq (.eq (.eq (.eq (.eq (.eq (.eq (.eq (.nil)))))))))))))))))))))))) ?_ ?_
              · skip
                refine .o1 (ck rfl rfl rfl (fun _ w hn k => ⟨#[], rfl, fun _ => by kernel_rfl, first_c  _⟩) fun _ => rfl) ?_
                refine .o1 (tk rfl rfl fun _ w hn k => ⟨_, v_move rfl (k.eq1 0 89 rfl), rfl⟩) ?_
                refine .o1 (tg rfl rfl rfl (fun _ _ k => k.eq1 1 90 rfl) fun _ w hn k => ⟨_, v_move rfl (k.fx 16 hv464), rfl⟩) ?_
                refine .o1 (tg rfl rfl rfl (fun _ _ k => k.eq1 1 90 rfl) fun _ w hn k => ⟨_, v_not rfl (k.eq1 2 91 rfl), rfl⟩) ?_
                refine .o1 (tg rfl rfl rfl (fun _ _ k => k.eq1 1 90 rfl) fun _ w hn k => ⟨_, v_move rfl (k.eq1 3 92 rfl), rfl⟩) ?_
                refine .o1 (tg rfl rfl rfl (fun _ _ k => k.eq1 4 93 rfl) fun _ w hn k => ⟨_, v_move rfl (k.fx 18 hv466), rfl⟩) ?_
                refine .o1 (tg rfl rfl rfl (fun _ _ k => k.eq1 4 93 rfl) fun _ w hn k => ⟨_, v_not rfl (k.eq1 5 94 rfl), rfl⟩) ?_
                refine .o1 (tg rfl rfl rfl (fun _ _ k => k.eq1 1 90 rfl) fun _ w hn k => ⟨_, v_pickF rfl (k.eq1 4 93 rfl) (k.eq1 6 95 rfl), rfl⟩) ?_
                refine .o1 (tg rfl rfl rfl (fun _ _ k => k.eq1 1 90 rfl) fun _ w hn k => ⟨_, v_move rfl (k.eq1 7 96 rfl), rfl⟩) ?_
                refine .o1 (tg rfl rfl rfl (fun _ _ k => k.eq1 8 97 rfl) fun _ w hn k => ⟨_, v_move rfl (k.fx 20 hv488), rfl⟩) ?_
                refine .o1 (tg rfl rfl rfl (fun _ _ k => k.eq1 8 97 rfl) fun _ w hn k => ⟨_, v_not rfl (k.eq1 9 98 rfl), rfl⟩) ?_
                refine .o1 (tg rfl rfl rfl (fun _ _ k => k.eq1 1 90 rfl) fun _ w hn k => ⟨_, v_pickF rfl (k.eq1 8 97 rfl) (k.eq1 10 99 rfl), rfl⟩) ?_
                refine .o1 (tg rfl rfl rfl (fun _ _ k => k.eq1 1 90 rfl) fun _ w hn k => ⟨_, v_move rfl (k.eq1 11 100 rfl), rfl⟩) ?_
                refine .o1 (sk rfl rfl rfl (fun _ _ _ k => k.eq1 12 101 rfl) (fun _ => rfl)) ?_
                refine .o1 (sk rfl rfl rfl (fun _ _ _ k => k.eq1 12 101 rfl) (fun _ => rfl)) ?_
                refine .o1 (tg rfl rfl rfl (fun _ _ k => k.eq1 1 90 rfl) fun _ w hn k => ⟨_, v_pickT rfl (k.eq1 12 101 rfl) rfl, rfl⟩) ?_
                refine .o1 (tg rfl rfl rfl (fun _ _ k => k.eq1 1 90 rfl) fun _ w hn k => ⟨_, v_move rfl (k.eq1 15 104 rfl), rfl⟩) ?_
                refine .o1 (sk rfl rfl rfl (fun _ _ _ k => k.eq1 16 105 rfl) (fun _ => rfl)) ?_
                refine .o1 (sk rfl rfl rfl (fun _ _ _ k => k.eq1 16 105 rfl) (fun _ => rfl)) ?_
                refine .o1 (sk rfl rfl rfl (fun _ _ _ k => k.eq1 16 105 rfl) (fun _ => rfl)) ?_
                refine .o1 (tg rfl rfl rfl (fun _ _ k => k.eq1 1 90 rfl) fun _ w hn k => ⟨_, v_pickT rfl (k.eq1 16 105 rfl) rfl, rfl⟩) ?_
                refine .o1 (tk rfl rfl fun _ w hn k => ⟨_, v_pickT rfl (k.eq1 1 90 rfl) (k.eq1 20 109 rfl), rfl⟩) ?_
                refine .o1 (tk rfl rfl fun _ w hn k => ⟨_, v_assign rfl (k.eq1 21 110 rfl), rfl⟩) ?_
                exact .nil
              intro a489 w490 hn491 ha492
              have hs493 := ha492.size.trans hs452
              have hd494 := ha492.defers.trans hd453
              have h495 := ha492.ge 22 6 rfl
              have hN496 := hN449.transNew hn491
              clear hs452 hd453 h454 hv464 hv466 h457 hv488 h461 h462 hb448 hq395 hb443 hq439 hN449 ha492 hn491
              refine st_nil ?_
              refine hK _ _ ?_
              clear hK K
              refine wp_ret (ret_k hd494 (v := .bool true) (res_t rfl h495 _) ?_)
              exact ⟨rfl, hN496⟩
            have hv497 : a450.eval (.tmp 18) = .bool false := h456.trans (congrArg Value.bool ht465)
            clear h456
            refine wp_g0 [true, true, true, true, true, true, true, true, true, true, true, true, true, true, true, true, true, true, true, true, true, true, true] [] 111
              [ve (.bool true),
               ve (.bool true),
               ve (.bool true),
               ve (.bool false),
               ve (.bool false),
               ve (.bool false),
               ve (.bool true),
               ve (.bool true),
               ve (.bool true),
               ve undef,
               ve undef,
               ve (.bool true),
               ve (.bool true),
               ve undef,
               ve undef,
               ve (.bool true),
               ve (.bool true),
               ve undef,
               ve undef,
               ve undef,
               ve (.bool true),
               ve (.bool true),
               ve (.bool true)] hs452 (.eq (.eq (.eq (.eq (.eq (.eq (.eq (.eq (.eq (.eq (.eq (.eq (.eq (.eq (.eq (.eq (.eq (.eq (.eq (.eq (.eq (.eq (.eq (.nil)))))))))))))))))))))))) ?_ ?_
            · skip
              refine .o1 (ck rfl rfl rfl (fun _ w hn k => ⟨#[], rfl, fun _ => by kernel_rfl, first_c  _⟩) fun _ => rfl) ?_
              refine .o1 (tk rfl rfl fun _ w hn k => ⟨_, v_move rfl (k.eq1 0 89 rfl), rfl⟩) ?_
              refine .o1 (tg rfl rfl rfl (fun _ _ k => k.eq1 1 90 rfl) fun _ w hn k => ⟨_, v_move rfl (k.fx 16 hv464), rfl⟩) ?_
              refine .o1 (tg rfl rfl rfl (fun _ _ k => k.eq1 1 90 rfl) fun _ w hn k => ⟨_, v_not rfl (k.eq1 2 91 rfl), rfl⟩) ?_
              refine .o1 (tg rfl rfl rfl (fun _ _ k => k.eq1 1 90 rfl) fun _ w hn k => ⟨_, v_move rfl (k.eq1 3 92 rfl), rfl⟩) ?_
              refine .o1 (tg rfl rfl rfl (fun _ _ k => k.eq1 4 93 rfl) fun _ w hn k => ⟨_, v_move rfl (k.fx 18 hv497), rfl⟩) ?_
              refine .o1 (tg rfl rfl rfl (fun _ _ k => k.eq1 4 93 rfl) fun _ w hn k => ⟨_, v_not rfl (k.eq1 5 94 rfl), rfl⟩) ?_
              refine .o1 (tg rfl rfl rfl (fun _ _ k => k.eq1 1 90 rfl) fun _ w hn k => ⟨_, v_pickF rfl (k.eq1 4 93 rfl) (k.eq1 6 95 rfl), rfl⟩) ?_
              refine .o1 (tg rfl rfl rfl (fun _ _ k => k.eq1 1 90 rfl) fun _ w hn k => ⟨_, v_move rfl (k.eq1 7 96 rfl), rfl⟩) ?_
              refine .o1 (sk rfl rfl rfl (fun _ _ _ k => k.eq1 8 97 rfl) (fun _ => rfl)) ?_
              refine .o1 (sk rfl rfl rfl (fun _ _ _ k => k.eq1 8 97 rfl) (fun _ => rfl)) ?_
              refine .o1 (tg rfl rfl rfl (fun _ _ k => k.eq1 1 90 rfl) fun _ w hn k => ⟨_, v_pickT rfl (k.eq1 8 97 rfl) rfl, rfl⟩) ?_
              refine .o1 (tg rfl rfl rfl (fun _ _ k => k.eq1 1 90 rfl) fun _ w hn k => ⟨_, v_move rfl (k.eq1 11 100 rfl), rfl⟩) ?_
              refine .o1 (sk rfl rfl rfl (fun _ _ _ k => k.eq1 12 101 rfl) (fun _ => rfl)) ?_
              refine .o1 (sk rfl rfl rfl (fun _ _ _ k => k.eq1 12 101 rfl) (fun _ => rfl)) ?_
              refine .o1 (tg rfl rfl rfl (fun _ _ k => k.eq1 1 90 rfl) fun _ w hn k => ⟨_, v_pickT rfl (k.eq1 12 101 rfl) rfl, rfl⟩) ?_
              refine .o1 (tg rfl rfl rfl (fun _ _ k => k.eq1 1 90 rfl) fun _ w hn k => ⟨_, v_move rfl (k.eq1 15 104 rfl), rfl⟩) ?_
              refine .o1 (sk rfl rfl rfl (fun _ _ _ k => k.eq1 16 105 rfl) (fun _ => rfl)) ?_
              refine .o1 (sk rfl rfl rfl (fun _ _ _ k => k.eq1 16 105 rfl) (fun _ => rfl)) ?_
              refine .o1 (sk rfl rfl rfl (fun _ _ _ k => k.eq1 16 105 rfl) (fun _ => rfl)) ?_
              refine .o1 (tg rfl rfl rfl (fun _ _ k => k.eq1 1 90 rfl) fun _ w hn k => ⟨_, v_pickT rfl (k.eq1 16 105 rfl) rfl, rfl⟩) ?_
              refine .o1 (tk rfl rfl fun _ w hn k => ⟨_, v_pickT rfl (k.eq1 1 90 rfl) (k.eq1 20 109 rfl), rfl⟩) ?_
              refine .o1 (tk rfl rfl fun _ w hn k => ⟨_, v_assign rfl (k.eq1 21 110 rfl), rfl⟩) ?_
              exact .nil
            intro a498 w499 hn500 ha501
            have hs502 := ha501.size.trans hs452
            have hd503 := ha501.defers.trans hd453
            have h504 := ha501.ge 22 6 rfl
            have hN505 := hN449.transNew hn500
            clear hs452 hd453 h454 hv464 hv497 h457 h458 h461 h462 hb448 hq395 hb443 hq439 hN449 ha501 hn500
            refine st_nil ?_
            refine hK _ _ ?_
            clear hK K
            refine wp_ret (ret_k hd503 (v := .bool true) (res_t rfl h504 _) ?_)
            exact ⟨rfl, hN505⟩
          have hv506 : a450.eval (.tmp 16) = .bool false := h455.trans (congrArg Value.bool ht463)
          clear h455
          refine wp_g0 [true, true, true, true, true, true, true, true, true, true, true, true, true, true, true, true, true, true, true, true, true, true, true] [] 111
            [ve (.bool true),
             ve (.bool true),
             ve (.bool false),
             ve (.bool true),
             ve (.bool true),
             ve undef,
             ve undef,
             ve (.bool true),
             ve (.bool true),
             ve undef,
             ve undef,
             ve (.bool true),
             ve (.bool true),
             ve undef,
             ve undef,
             ve (.bool true),
             ve (.bool true),
             ve undef,
             ve undef,
             ve undef,
             ve (.bool true),
             ve (.bool true),
             ve (.bool true)] hs452 (.eq (.eq (.eq (.eq (.eq (.eq (.eq (.eq (.eq (.eq (.eq (.eq (.eq (.eq (.eq (.eq (.eq (.eq (.eq (.eq (.eq (.eq (.eq (.nil)))))))))))))))))))))))) ?_ ?_
          · skip
            refine .o1 (ck rfl rfl rfl (fun _ w hn k => ⟨#[], rfl, fun _ => by kernel_rfl, first_c  _⟩) fun _ => rfl) ?_
            refine .o1 (tk rfl rfl fun _ w hn k => ⟨_, v_move rfl (k.eq1 0 89 rfl), rfl⟩) ?_
            refine .o1 (tg rfl rfl rfl (fun _ _ k => k.eq1 1 90 rfl) fun _ w hn k => ⟨_, v_move rfl (k.fx 16 hv506), rfl⟩) ?_
            refine .o1 (tg rfl rfl rfl (fun _ _ k => k.eq1 1 90 rfl) fun _ w hn k => ⟨_, v_not rfl (k.eq1 2 91 rfl), rfl⟩) ?_
            refine .o1 (tg rfl rfl rfl (fun _ _ k => k.eq1 1 90 rfl) fun _ w hn k => ⟨_, v_move rfl (k.eq1 3 92 rfl), rfl⟩) ?_
            refine .o1 (sk rfl rfl rfl (fun _ _ _ k => k.eq1 4 93 rfl) (fun _ => rfl)) ?_
            refine .o1 (sk rfl rfl rfl (fun _ _ _ k => k.eq1 4 93 rfl) (fun _ => rfl)) ?_
            refine .o1 (tg rfl rfl rfl (fun _ _ k => k.eq1 1 90 rfl) fun _ w hn k => ⟨_, v_pickT rfl (k.eq1 4 93 rfl) rfl, rfl⟩) ?_
            refine .o1 (tg rfl rfl rfl (fun _ _ k => k.eq1 1 90 rfl) fun _ w hn k => ⟨_, v_move rfl (k.eq1 7 96 rfl), rfl⟩) ?_
            refine .o1 (sk rfl rfl rfl (fun _ _ _ k => k.eq1 8 97 rfl) (fun _ => rfl)) ?_
            refine .o1 (sk rfl rfl rfl (fun _ _ _ k => k.eq1 8 97 rfl) (fun _ => rfl)) ?_
            refine .o1 (tg rfl rfl rfl (fun _ _ k => k.eq1 1 90 rfl) fun _ w hn k => ⟨_, v_pickT rfl (k.eq1 8 97 rfl) rfl, rfl⟩) ?_
            refine .o1 (tg rfl rfl rfl (fun _ _ k => k.eq1 1 90 rfl) fun _ w hn k => ⟨_, v_move rfl (k.eq1 11 100 rfl), rfl⟩) ?_
            refine .o1 (sk rfl rfl rfl (fun _ _ _ k => k.eq1 12 101 rfl) (fun _ => rfl)) ?_
            refine .o1 (sk rfl rfl rfl (fun _ _ _ k => k.eq1 12 101 rfl) (fun _ => rfl)) ?_
            refine .o1 (tg rfl rfl rfl (fun _ _ k => k.eq1 1 90 rfl) fun _ w hn k => ⟨_, v_pickT rfl (k.eq1 12 101 rfl) rfl, rfl⟩) ?_
            refine .o1 (tg rfl rfl rfl (fun _ _ k => k.eq1 1 90 rfl) fun _ w hn k => ⟨_, v_move rfl (k.eq1 15 104 rfl), rfl⟩) ?_
            refine .o1 (sk rfl rfl rfl (fun _ _ _ k => k.eq1 16 105 rfl) (fun _ => rfl)) ?_
            refine .o1 (sk rfl rfl rfl (fun _ _ _ k => k.eq1 16 105 rfl) (fun _ => rfl)) ?_
            refine .o1 (sk rfl rfl rfl (fun _ _ _ k => k.eq1 16 105 rfl) (fun _ => rfl)) ?_
            refine .o1 (tg rfl rfl rfl (fun _ _ k => k.eq1 1 90 rfl) fun _ w hn k => ⟨_, v_pickT rfl (k.eq1 16 105 rfl) rfl, rfl⟩) ?_
            refine .o1 (tk rfl rfl fun _ w hn k => ⟨_, v_pickT rfl (k.eq1 1 90 rfl) (k.eq1 20 109 rfl), rfl⟩) ?_
            refine .o1 (tk rfl rfl fun _ w hn k => ⟨_, v_assign rfl (k.eq1 21 110 rfl), rfl⟩) ?_
            exact .nil
          intro a507 w508 hn509 ha510
          have hs511 := ha510.size.trans hs452
          have hd512 := ha510.defers.trans hd453
          have h513 := ha510.ge 22 6 rfl
          have hN514 := hN449.transNew hn509
          clear hs452 hd453 h454 hv506 h456 h457 h458 h461 h462 hb448 hq395 hb443 hq439 hN449 ha510 hn509
          refine st_nil ?_
          refine hK _ _ ?_
          clear hK K
          refine wp_ret (ret_k hd512 (v := .bool true) (res_t rfl h513 _) ?_)
          exact ⟨rfl, hN514⟩
        have hv515 : a238.eval (.tmp 14) = .bool false := h253.trans (congrArg Value.bool ht260)
        clear h253
        refine wp_g0 [true, true, true, true, true, true, true, true, true, true, true, true, true, true, true, true] [] 111
          [ve (.bool true),
           ve (.bool true),
           ve (.bool true),
           ve (.bool true),
           ve (.bool true),
           ve (.bool true),
           ve (.bool true),
           ve (.bool true),
           ve (.bool false),
           ve (.bool false),
           ve (.bool false),
           ve undef,
           ve undef,
           ve undef,
           ve undef,
           ve (.bool false)] hs240 (.eq (.eq (.eq (.eq (.eq (.eq (.eq (.eq (.eq (.eq (.eq (.eq (.eq (.eq (.eq (.eq (.nil))))))))))))))))) ?_ ?_
        · skip
          refine .o1 (tk rfl rfl fun _ w hn k => ⟨_, v_move rfl (k.fx 8 hv255), rfl⟩) ?_
          refine .o1 (tk rfl rfl fun _ w hn k => ⟨_, v_move rfl (k.eq1 0 49 rfl), rfl⟩) ?_
          refine .o1 (tg rfl rfl rfl (fun _ _ k => k.eq1 1 50 rfl) fun _ w hn k => ⟨_, v_move rfl (k.fx 10 hv257), rfl⟩) ?_
          refine .o1 (tk rfl rfl fun _ w hn k => ⟨_, v_pickT rfl (k.eq1 1 50 rfl) (k.eq1 2 51 rfl), rfl⟩) ?_
          refine .o1 (tk rfl rfl fun _ w hn k => ⟨_, v_move rfl (k.eq1 3 52 rfl), rfl⟩) ?_
          refine .o1 (tg rfl rfl rfl (fun _ _ k => k.eq1 4 53 rfl) fun _ w hn k => ⟨_, v_move rfl (k.fx 12 hv259), rfl⟩) ?_
          refine .o1 (tk rfl rfl fun _ w hn k => ⟨_, v_pickT rfl (k.eq1 4 53 rfl) (k.eq1 5 54 rfl), rfl⟩) ?_
          refine .o1 (tk rfl rfl fun _ w hn k => ⟨_, v_move rfl (k.eq1 6 55 rfl), rfl⟩) ?_
          refine .o1 (tg rfl rfl rfl (fun _ _ k => k.eq1 7 56 rfl) fun _ w hn k => ⟨_, v_move rfl (k.fx 14 hv515), rfl⟩) ?_
          refine .o1 (tk rfl rfl fun _ w hn k => ⟨_, v_pickT rfl (k.eq1 7 56 rfl) (k.eq1 8 57 rfl), rfl⟩) ?_
          refine .o1 (tk rfl rfl fun _ w hn k => ⟨_, v_move rfl (k.eq1 9 58 rfl), rfl⟩) ?_
          refine .o1 (sk rfl rfl rfl (fun _ _ _ k => k.eq1 10 59 rfl) (fun _ => rfl)) ?_
          refine .o1 (sk rfl rfl rfl (fun _ _ _ k => k.eq1 10 59 rfl) (fun _ => rfl)) ?_
          refine .o1 (sk rfl rfl rfl (fun _ _ _ k => k.eq1 10 59 rfl) (fun _ => rfl)) ?_
          refine .o1 (sk rfl rfl rfl (fun _ _ _ k => k.eq1 10 59 rfl) (fun _ => rfl)) ?_
          refine .o1 (tk rfl rfl fun _ w hn k => ⟨_, v_pickF rfl (k.eq1 10 59 rfl) rfl, rfl⟩) ?_
          exact .nil
        intro a516 w517 hn518 ha519
        have hs520 := ha519.size.trans hs240
        have hd521 := ha519.defers.trans hd241
        have h522 := ha519.fx 3 h242
        have h523 := ha519.fx 4 h243
        have h524 := ha519.fx 5 h244
        have h525 := ha519.fx 6 h245
        have h526 := ha519.ge 15 64 rfl
        have hb527 := hb233.new_ hn518
        have hb528 := hb234.new_ hn518
        have hb529 := hb235.new_ hn518
        have hN530 := hN237.transNew hn518
        clear hs240 hd241 h242 h243 h244 h245 hv255 hv257 h248 hv259 h252 hv515 hb233 hb234 hb235 hb236 hq167 hb228 hq224 hN237 ha519 hn518
        refine st_nil ?_
        refine hK _ _ ?_
        clear hK K
        refine wp_cond_false h526 ?_
        refine wp_skip ?_
        refine hK _ _ ?_
        clear hK K
        refine wp_seq_k fun K hK => ?_
        refine wp_g [true, true, true, true, true, true, true, false, false] [5] [(7, false), (8, true)] 111
          [ve (nv a),
           ve (nv b),
           ve (.tuple #[nv ((mulM a b).1), .bool ((mulM a b).2)]),
           ve (.tuple #[nv ((mulM a b).1), .bool ((mulM a b).2)]),
           ve (nv ((mulM a b).1)),
           ve (.bool ((mulM a b).2)),
           IsNew w517 23 [iv 0, iv 0],
           vt,
           vt]
          [6] (newsCons (fun v w h => IsNew.old h) newsNil) hs520 (.eq (.eq (.eq (.eq (.eq (.eq (.nw (.tt (.tt (.nil)))))))))) ?_ ?_ ?_
        · skip
          refine .o1 (tk rfl rfl fun _ w hn k => ⟨_, v_load rfl (k.fx 3 h522) (l_two Tryd.isAgg23 Tryd.sizeOf23 (hb527.new_ hn)), rfl⟩) ?_
          refine .o1 (tk rfl rfl fun _ w hn k => ⟨_, v_load rfl (k.fx 4 h523) (l_two Tryd.isAgg23 Tryd.sizeOf23 (hb528.new_ hn)), rfl⟩) ?_
          refine .o1 (ck rfl rfl rfl (fun _ w hn k => ⟨#[nv a, nv b], args2 (k.eq1 0 66 rfl) (k.eq1 1 67 rfl), fun _ => by kernel_rfl, mul_c a b _⟩) fun _ => rfl) ?_
          refine .o1 (tk rfl rfl fun _ w hn k => ⟨_, v_move rfl (k.eq1 2 68 rfl), rfl⟩) ?_
          refine .o1 (tk rfl rfl fun _ w hn k => ⟨_, v_extract rfl (k.eq1 3 65 rfl) rfl, rfl⟩) ?_
          refine .o3 ?_
          refine .o2 (step_allocN (cs := [iv 0, iv 0]) (t := 23) rfl (noG rfl) (fun _ w hn k => rfl) (fun q _ hq hb => ⟨q, rfl, hq, hb⟩)) ?_
          refine .off ?_
          refine .off ?_
          exact .nil
        · skip
          intro i h
          simp only [List.contains_eq_mem, List.mem_cons, List.not_mem_nil, or_false, decide_eq_true_eq] at h
          subst h
          · exact eager_take rfl rfl fun _ w hn k => ⟨.bool ((mulM a b).2), fun w => v_extract rfl (k.eq1 3 65 rfl) rfl, rfl⟩
        intro a531 w532 hn533 ha534
        have hs535 := ha534.size.trans hs520
        have hd536 := ha534.defers.trans hd521
        have h537 := ha534.fx 3 h522
        have h538 := ha534.fx 4 h523
        have h539 := ha534.fx 5 h524
        have h540 := ha534.fx 6 h525
        have h541 := ha534.ge 4 69 rfl
        have h542 := ha534.ge 5 70 rfl
        obtain ⟨q544, h543, hq545, hb546⟩ : IsNew _ _ _ _ _ := ha534.got 6 15 rfl (by kernel_rfl)
        have hb547 := hb527.new_ hn533
        have hb548 := hb528.new_ hn533
        have hb549 := hb529.new_ hn533
        have hne550 : q8 ≠ q544 := by have h1 := hb527.lt; have h2 := hq545; omega
        have hne551 : q12 ≠ q544 := by have h1 := hb528.lt; have h2 := hq545; omega
        have hne552 : q16 ≠ q544 := by have h1 := hb529.lt; have h2 := hq545; omega
        have hq553 := Nat.le_trans hN530.size hq545
        have hN554 := hN530.transNew hn533
        clear hs520 hd521 h522 h523 h524 h525 h526 hb527 hb528 hb529 hq545 hN530 ha534 hn533
        obtain ⟨w555, -, hst556, hb557, hu558, hf559⟩ := s_two (v0 := iv ((mulM a b).1.k)) (v1 := iv ((mulM a b).1.n)) Tryd.sizeOf23 rfl rfl rfl hb546
        refine st_act rfl rfl fun K560 hL561 => a_store' rfl h543 h541 hst556 (hL561 _ _ trivial ?_)
        have hb562 := hf559 _ _ _ (hne550) hb547
        have hb563 := hf559 _ _ _ (hne551) hb548
        have hb564 := hf559 _ _ _ (hne552) hb549
        have hN565 := hN554.trans hu558 (fun k hk hkb => by subst hkb; omega)
        clear hb546 hst556 K560 hL561 hN554 hb547 hb548 hb549 hu558 hf559
        refine st_take rfl rfl (y_assign (v := .bool ((mulM a b).2)) rfl h542) rfl ?_
        obtain ⟨a566, ha567⟩ : ∃ a', a' = a531.put (some 16) (.bool ((mulM a b).2)) := ⟨_, rfl⟩
        have hs568 : a566.tmps.size = 111 := by rw [ha567, put_size]; exact hs535
        have hd569 : a566.defers = [] := by rw [ha567, put_defers]; exact hd536
        have h570 : a566.eval (.tmp 3) = pv q8 := by rw [ha567, put_ne _ _ _ _ (by decide)]; exact h537
        have h571 : a566.eval (.tmp 4) = pv q12 := by rw [ha567, put_ne _ _ _ _ (by decide)]; exact h538
        have h572 : a566.eval (.tmp 5) = pv q16 := by rw [ha567, put_ne _ _ _ _ (by decide)]; exact h539
        have h573 : a566.eval (.tmp 6) = .bool false := by rw [ha567, put_ne _ _ _ _ (by decide)]; exact h540
        have h574 : a566.eval (.tmp 69) = nv ((mulM a b).1) := by rw [ha567, put_ne _ _ _ _ (by decide)]; exact h541
        have h575 : a566.eval (.tmp 70) = .bool ((mulM a b).2) := by rw [ha567, put_ne _ _ _ _ (by decide)]; exact h542
        have h576 : a566.eval (.tmp 15) = pv q544 := by rw [ha567, put_ne _ _ _ _ (by decide)]; exact h543
        have h577 : a566.eval (.tmp 16) = .bool ((mulM a b).2) := by rw [ha567]; exact put_same _ _ _ (by rw [hs535]; decide)
        show stepsTo _ _ _ _ _ (a531.put (some 16) (.bool ((mulM a b).2))) _
        rw [← ha567]
        clear ha567 hs535 hd536 h537 h538 h539 h540 h541 h542 h543
        clear hne550
        clear hne551
        clear hne552
        refine st_nil ?_
        clear h574 h575
        refine hK _ _ ?_
        clear hK K
        refine wp_seq_k fun K hK => ?_
        refine wp_g [true, true, true, true, true, true, true, false, false] [5] [(7, false), (8, true)] 111
          [ve (nv b),
           ve (nv c),
           ve (.tuple #[nv ((mulM b c).1), .bool ((mulM b c).2)]),
           ve (.tuple #[nv ((mulM b c).1), .bool ((mulM b c).2)]),
           ve (nv ((mulM b c).1)),
           ve (.bool ((mulM b c).2)),
           IsNew w555 23 [iv 0, iv 0],
           vt,
           vt]
          [6] (newsCons (fun v w h => IsNew.old h) newsNil) hs568 (.eq (.eq (.eq (.eq (.eq (.eq (.nw (.tt (.tt (.nil)))))))))) ?_ ?_ ?_
        · skip
          refine .o1 (tk rfl rfl fun _ w hn k => ⟨_, v_load rfl (k.fx 4 h571) (l_two Tryd.isAgg23 Tryd.sizeOf23 (hb563.new_ hn)), rfl⟩) ?_
          refine .o1 (tk rfl rfl fun _ w hn k => ⟨_, v_load rfl (k.fx 5 h572) (l_two Tryd.isAgg23 Tryd.sizeOf23 (hb564.new_ hn)), rfl⟩) ?_
          refine .o1 (ck rfl rfl rfl (fun _ w hn k => ⟨#[nv b, nv c], args2 (k.eq1 0 72 rfl) (k.eq1 1 73 rfl), fun _ => by kernel_rfl, mul_c b c _⟩) fun _ => rfl) ?_
          refine .o1 (tk rfl rfl fun _ w hn k => ⟨_, v_move rfl (k.eq1 2 74 rfl), rfl⟩) ?_
          refine .o1 (tk rfl rfl fun _ w hn k => ⟨_, v_extract rfl (k.eq1 3 71 rfl) rfl, rfl⟩) ?_
          refine .o3 ?_
          refine .o2 (step_allocN (cs := [iv 0, iv 0]) (t := 23) rfl (noG rfl) (fun _ w hn k => rfl) (fun q _ hq hb => ⟨q, rfl, hq, hb⟩)) ?_
          refine .off ?_
          refine .off ?_
          exact .nil
        · skip
          intro i h
          simp only [List.contains_eq_mem, List.mem_cons, List.not_mem_nil, or_false, decide_eq_true_eq] at h
          subst h
          · exact eager_take rfl rfl fun _ w hn k => ⟨.bool ((mulM b c).2), fun w => v_extract rfl (k.eq1 3 71 rfl) rfl, rfl⟩
        intro a578 w579 hn580 ha581
        have hs582 := ha581.size.trans hs568
        have hd583 := ha581.defers.trans hd569
        have h584 := ha581.fx 3 h570
        have h585 := ha581.fx 5 h572
        have h586 := ha581.fx 6 h573
        have h587 := ha581.fx 15 h576
        have h588 := ha581.fx 16 h577
        have h589 := ha581.ge 4 75 rfl
        have h590 := ha581.ge 5 76 rfl
        obtain ⟨q592, h591, hq593, hb594⟩ : IsNew _ _ _ _ _ := ha581.got 6 17 rfl (by kernel_rfl)
        have hb595 := hb562.new_ hn580
        have hb596 := hb564.new_ hn580
        have hb597 := hb557.new_ hn580
        have hne598 : q8 ≠ q592 := by have h1 := hb562.lt; have h2 := hq593; omega
        have hne599 : q16 ≠ q592 := by have h1 := hb564.lt; have h2 := hq593; omega
        have hne600 : q544 ≠ q592 := by have h1 := hb557.lt; have h2 := hq593; omega
        have hq601 := Nat.le_trans hN565.size hq593
        have hN602 := hN565.transNew hn580
        clear hs568 hd569 h570 h571 h572 h573 h576 h577 hb562 hb563 hq21 hb564 hb557 hq593 hN565 ha581 hn580
        obtain ⟨w603, -, hst604, hb605, hu606, hf607⟩ := s_two (v0 := iv ((mulM b c).1.k)) (v1 := iv ((mulM b c).1.n)) Tryd.sizeOf23 rfl rfl rfl hb594
        refine st_act rfl rfl fun K608 hL609 => a_store' rfl h591 h589 hst604 (hL609 _ _ trivial ?_)
        have hb610 := hf607 _ _ _ (hne598) hb595
        have hb611 := hf607 _ _ _ (hne599) hb596
        have hb612 := hf607 _ _ _ (hne600) hb597
        have hN613 := hN602.trans hu606 (fun k hk hkb => by subst hkb; omega)
        clear hb594 hst604 K608 hL609 hN602 hb595 hb596 hb597 hu606 hf607
        refine st_take rfl rfl (y_assign (v := .bool ((mulM b c).2)) rfl h590) rfl ?_
        obtain ⟨a614, ha615⟩ : ∃ a', a' = a578.put (some 18) (.bool ((mulM b c).2)) := ⟨_, rfl⟩
        have hs616 : a614.tmps.size = 111 := by rw [ha615, put_size]; exact hs582
        have hd617 : a614.defers = [] := by rw [ha615, put_defers]; exact hd583
        have h618 : a614.eval (.tmp 3) = pv q8 := by rw [ha615, put_ne _ _ _ _ (by decide)]; exact h584
        have h619 : a614.eval (.tmp 5) = pv q16 := by rw [ha615, put_ne _ _ _ _ (by decide)]; exact h585
        have h620 : a614.eval (.tmp 6) = .bool false := by rw [ha615, put_ne _ _ _ _ (by decide)]; exact h586
        have h621 : a614.eval (.tmp 15) = pv q544 := by rw [ha615, put_ne _ _ _ _ (by decide)]; exact h587
        have h622 : a614.eval (.tmp 16) = .bool ((mulM a b).2) := by rw [ha615, put_ne _ _ _ _ (by decide)]; exact h588
        have h623 : a614.eval (.tmp 75) = nv ((mulM b c).1) := by rw [ha615, put_ne _ _ _ _ (by decide)]; exact h589
        have h624 : a614.eval (.tmp 76) = .bool ((mulM b c).2) := by rw [ha615, put_ne _ _ _ _ (by decide)]; exact h590
        have h625 : a614.eval (.tmp 17) = pv q592 := by rw [ha615, put_ne _ _ _ _ (by decide)]; exact h591
        have h626 : a614.eval (.tmp 18) = .bool ((mulM b c).2) := by rw [ha615]; exact put_same _ _ _ (by rw [hs582]; decide)
        show stepsTo _ _ _ _ _ (a578.put (some 18) (.bool ((mulM b c).2))) _
        rw [← ha615]
        clear ha615 hs582 hd583 h584 h585 h586 h587 h588 h589 h590 h591
        clear hne598
        clear hne599
        clear hne600
        refine st_nil ?_
        clear h623 h624
        refine hK _ _ ?_
        clear hK K
        refine wp_seq_k fun K hK => ?_
        refine wp_g [true, true, true, true, true, true, true, false, false] [5] [(7, false), (8, true)] 111
          [ve (nv ((mulM a b).1)),
           ve (nv c),
           ve (.tuple #[nv ((mulM ((mulM a b).1) c).1), .bool ((mulM ((mulM a b).1) c).2)]),
           ve (.tuple #[nv ((mulM ((mulM a b).1) c).1), .bool ((mulM ((mulM a b).1) c).2)]),
           ve (nv ((mulM ((mulM a b).1) c).1)),
           ve (.bool ((mulM ((mulM a b).1) c).2)),
           IsNew w603 23 [iv 0, iv 0],
           vt,
           vt]
          [6] (newsCons (fun v w h => IsNew.old h) newsNil) hs616 (.eq (.eq (.eq (.eq (.eq (.eq (.nw (.tt (.tt (.nil)))))))))) ?_ ?_ ?_
        · skip
          refine .o1 (tk rfl rfl fun _ w hn k => ⟨_, v_load rfl (k.fx 15 h621) (l_two Tryd.isAgg23 Tryd.sizeOf23 (hb612.new_ hn)), rfl⟩) ?_
          refine .o1 (tk rfl rfl fun _ w hn k => ⟨_, v_load rfl (k.fx 5 h619) (l_two Tryd.isAgg23 Tryd.sizeOf23 (hb611.new_ hn)), rfl⟩) ?_
          refine .o1 (ck rfl rfl rfl (fun _ w hn k => ⟨#[nv ((mulM a b).1), nv c], args2 (k.eq1 0 78 rfl) (k.eq1 1 79 rfl), fun _ => by kernel_rfl, mul_c ((mulM a b).1) c _⟩) fun _ => rfl) ?_
          refine .o1 (tk rfl rfl fun _ w hn k => ⟨_, v_move rfl (k.eq1 2 80 rfl), rfl⟩) ?_
          refine .o1 (tk rfl rfl fun _ w hn k => ⟨_, v_extract rfl (k.eq1 3 77 rfl) rfl, rfl⟩) ?_
          refine .o3 ?_
          refine .o2 (step_allocN (cs := [iv 0, iv 0]) (t := 23) rfl (noG rfl) (fun _ w hn k => rfl) (fun q _ hq hb => ⟨q, rfl, hq, hb⟩)) ?_
          refine .off ?_
          refine .off ?_
          exact .nil
        · skip
          intro i h
          simp only [List.contains_eq_mem, List.mem_cons, List.not_mem_nil, or_false, decide_eq_true_eq] at h
          subst h
          · exact eager_take rfl rfl fun _ w hn k => ⟨.bool ((mulM ((mulM a b).1) c).2), fun w => v_extract rfl (k.eq1 3 77 rfl) rfl, rfl⟩
        intro a627 w628 hn629 ha630
        have hs631 := ha630.size.trans hs616
        have hd632 := ha630.defers.trans hd617
        have h633 := ha630.fx 3 h618
        have h634 := ha630.fx 6 h620
        have h635 := ha630.fx 16 h622
        have h636 := ha630.fx 17 h625
        have h637 := ha630.fx 18 h626
        have h638 := ha630.ge 4 81 rfl
        have h639 := ha630.ge 5 82 rfl
        obtain ⟨q641, h640, hq642, hb643⟩ : IsNew _ _ _ _ _ := ha630.got 6 19 rfl (by kernel_rfl)
        have hb644 := hb610.new_ hn629
        have hb645 := hb605.new_ hn629
        have hne646 : q8 ≠ q641 := by have h1 := hb610.lt; have h2 := hq642; omega
        have hne647 : q592 ≠ q641 := by have h1 := hb605.lt; have h2 := hq642; omega
        have hq648 := Nat.le_trans hN613.size hq642
        have hN649 := hN613.transNew hn629
        clear hs616 hd617 h618 h619 h620 h621 h622 h625 h626 hb610 hb611 hq22 hb612 hq553 hb605 hq642 hN613 ha630 hn629
        obtain ⟨w650, -, hst651, hb652, hu653, hf654⟩ := s_two (v0 := iv ((mulM ((mulM a b).1) c).1.k)) (v1 := iv ((mulM ((mulM a b).1) c).1.n)) Tryd.sizeOf23 rfl rfl rfl hb643
        refine st_act rfl rfl fun K655 hL656 => a_store' rfl h640 h638 hst651 (hL656 _ _ trivial ?_)
        have hb657 := hf654 _ _ _ (hne646) hb644
        have hb658 := hf654 _ _ _ (hne647) hb645
        have hN659 := hN649.trans hu653 (fun k hk hkb => by subst hkb; omega)
        clear hb643 hst651 K655 hL656 hN649 hb644 hb645 hu653 hf654
        refine st_take rfl rfl (y_assign (v := .bool ((mulM ((mulM a b).1) c).2)) rfl h639) rfl ?_
        obtain ⟨a660, ha661⟩ : ∃ a', a' = a627.put (some 20) (.bool ((mulM ((mulM a b).1) c).2)) := ⟨_, rfl⟩
        have hs662 : a660.tmps.size = 111 := by rw [ha661, put_size]; exact hs631
        have hd663 : a660.defers = [] := by rw [ha661, put_defers]; exact hd632
        have h664 : a660.eval (.tmp 3) = pv q8 := by rw [ha661, put_ne _ _ _ _ (by decide)]; exact h633
        have h665 : a660.eval (.tmp 6) = .bool false := by rw [ha661, put_ne _ _ _ _ (by decide)]; exact h634
        have h666 : a660.eval (.tmp 16) = .bool ((mulM a b).2) := by rw [ha661, put_ne _ _ _ _ (by decide)]; exact h635
        have h667 : a660.eval (.tmp 17) = pv q592 := by rw [ha661, put_ne _ _ _ _ (by decide)]; exact h636
        have h668 : a660.eval (.tmp 18) = .bool ((mulM b c).2) := by rw [ha661, put_ne _ _ _ _ (by decide)]; exact h637
        have h669 : a660.eval (.tmp 81) = nv ((mulM ((mulM a b).1) c).1) := by rw [ha661, put_ne _ _ _ _ (by decide)]; exact h638
        have h670 : a660.eval (.tmp 82) = .bool ((mulM ((mulM a b).1) c).2) := by rw [ha661, put_ne _ _ _ _ (by decide)]; exact h639
        have h671 : a660.eval (.tmp 19) = pv q641 := by rw [ha661, put_ne _ _ _ _ (by decide)]; exact h640
        have h672 : a660.eval (.tmp 20) = .bool ((mulM ((mulM a b).1) c).2) := by rw [ha661]; exact put_same _ _ _ (by rw [hs631]; decide)
        show stepsTo _ _ _ _ _ (a627.put (some 20) (.bool ((mulM ((mulM a b).1) c).2))) _
        rw [← ha661]
        clear ha661 hs631 hd632 h633 h634 h635 h636 h637 h638 h639 h640
        clear hne646
        clear hne647
        refine st_nil ?_
        clear h669 h670
        refine hK _ _ ?_
        clear hK K
        refine wp_seq_k fun K hK => ?_
        refine wp_g [true, true, true, true, true, true, true, false, false] [5] [(7, false), (8, true)] 111
          [ve (nv a),
           ve (nv ((mulM b c).1)),
           ve (.tuple #[nv ((mulM a ((mulM b c).1)).1), .bool ((mulM a ((mulM b c).1)).2)]),
           ve (.tuple #[nv ((mulM a ((mulM b c).1)).1), .bool ((mulM a ((mulM b c).1)).2)]),
           ve (nv ((mulM a ((mulM b c).1)).1)),
           ve (.bool ((mulM a ((mulM b c).1)).2)),
           IsNew w650 23 [iv 0, iv 0],
           vt,
           vt]
          [6] (newsCons (fun v w h => IsNew.old h) newsNil) hs662 (.eq (.eq (.eq (.eq (.eq (.eq (.nw (.tt (.tt (.nil)))))))))) ?_ ?_ ?_
        · skip
          refine .o1 (tk rfl rfl fun _ w hn k => ⟨_, v_load rfl (k.fx 3 h664) (l_two Tryd.isAgg23 Tryd.sizeOf23 (hb657.new_ hn)), rfl⟩) ?_
          refine .o1 (tk rfl rfl fun _ w hn k => ⟨_, v_load rfl (k.fx 17 h667) (l_two Tryd.isAgg23 Tryd.sizeOf23 (hb658.new_ hn)), rfl⟩) ?_
          refine .o1 (ck rfl rfl rfl (fun _ w hn k => ⟨#[nv a, nv ((mulM b c).1)], args2 (k.eq1 0 84 rfl) (k.eq1 1 85 rfl), fun _ => by kernel_rfl, mul_c a ((mulM b c).1) _⟩) fun _ => rfl) ?_
          refine .o1 (tk rfl rfl fun _ w hn k => ⟨_, v_move rfl (k.eq1 2 86 rfl), rfl⟩) ?_
          refine .o1 (tk rfl rfl fun _ w hn k => ⟨_, v_extract rfl (k.eq1 3 83 rfl) rfl, rfl⟩) ?_
          refine .o3 ?_
          refine .o2 (step_allocN (cs := [iv 0, iv 0]) (t := 23) rfl (noG rfl) (fun _ w hn k => rfl) (fun q _ hq hb => ⟨q, rfl, hq, hb⟩)) ?_
          refine .off ?_
          refine .off ?_
          exact .nil
        · skip
          intro i h
          simp only [List.contains_eq_mem, List.mem_cons, List.not_mem_nil, or_false, decide_eq_true_eq] at h
          subst h
          · exact eager_take rfl rfl fun _ w hn k => ⟨.bool ((mulM a ((mulM b c).1)).2), fun w => v_extract rfl (k.eq1 3 83 rfl) rfl, rfl⟩
        intro a673 w674 hn675 ha676
        have hs677 := ha676.size.trans hs662
        have hd678 := ha676.defers.trans hd663
        have h679 := ha676.fx 6 h665
        have h680 := ha676.fx 16 h666
        have h681 := ha676.fx 18 h668
        have h682 := ha676.fx 19 h671
        have h683 := ha676.fx 20 h672
        have h684 := ha676.ge 4 87 rfl
        have h685 := ha676.ge 5 88 rfl
        obtain ⟨q687, h686, hq688, hb689⟩ : IsNew _ _ _ _ _ := ha676.got 6 21 rfl (by kernel_rfl)
        have hb690 := hb652.new_ hn675
        have hne691 : q641 ≠ q687 := by have h1 := hb652.lt; have h2 := hq688; omega
        have hq692 := Nat.le_trans hN659.size hq688
        have hN693 := hN659.transNew hn675
        clear hs662 hd663 h664 h665 h666 h667 h668 h671 h672 hb657 hq20 hb658 hq601 hb652 hq688 hN659 ha676 hn675
        obtain ⟨w694, -, hst695, hb696, hu697, hf698⟩ := s_two (v0 := iv ((mulM a ((mulM b c).1)).1.k)) (v1 := iv ((mulM a ((mulM b c).1)).1.n)) Tryd.sizeOf23 rfl rfl rfl hb689
        refine st_act rfl rfl fun K699 hL700 => a_store' rfl h686 h684 hst695 (hL700 _ _ trivial ?_)
        have hb701 := hf698 _ _ _ (hne691) hb690
        have hN702 := hN693.trans hu697 (fun k hk hkb => by subst hkb; omega)
        clear hb689 hst695 K699 hL700 hN693 hb690 hu697 hf698
        refine st_take rfl rfl (y_assign (v := .bool ((mulM a ((mulM b c).1)).2)) rfl h685) rfl ?_
        obtain ⟨a703, ha704⟩ : ∃ a', a' = a673.put (some 22) (.bool ((mulM a ((mulM b c).1)).2)) := ⟨_, rfl⟩
        have hs705 : a703.tmps.size = 111 := by rw [ha704, put_size]; exact hs677
        have hd706 : a703.defers = [] := by rw [ha704, put_defers]; exact hd678
        have h707 : a703.eval (.tmp 6) = .bool false := by rw [ha704, put_ne _ _ _ _ (by decide)]; exact h679
        have h708 : a703.eval (.tmp 16) = .bool ((mulM a b).2) := by rw [ha704, put_ne _ _ _ _ (by decide)]; exact h680
        have h709 : a703.eval (.tmp 18) = .bool ((mulM b c).2) := by rw [ha704, put_ne _ _ _ _ (by decide)]; exact h681
        have h710 : a703.eval (.tmp 19) = pv q641 := by rw [ha704, put_ne _ _ _ _ (by decide)]; exact h682
        have h711 : a703.eval (.tmp 20) = .bool ((mulM ((mulM a b).1) c).2) := by rw [ha704, put_ne _ _ _ _ (by decide)]; exact h683
        have h712 : a703.eval (.tmp 87) = nv ((mulM a ((mulM b c).1)).1) := by rw [ha704, put_ne _ _ _ _ (by decide)]; exact h684
        have h713 : a703.eval (.tmp 88) = .bool ((mulM a ((mulM b c).1)).2) := by rw [ha704, put_ne _ _ _ _ (by decide)]; exact h685
        have h714 : a703.eval (.tmp 21) = pv q687 := by rw [ha704, put_ne _ _ _ _ (by decide)]; exact h686
        have h715 : a703.eval (.tmp 22) = .bool ((mulM a ((mulM b c).1)).2) := by rw [ha704]; exact put_same _ _ _ (by rw [hs677]; decide)
        show stepsTo _ _ _ _ _ (a673.put (some 22) (.bool ((mulM a ((mulM b c).1)).2))) _
        rw [← ha704]
        clear ha704 hs677 hd678 h679 h680 h681 h682 h683 h684 h685 h686
        clear hne691
        refine st_nil ?_
        clear h712 h713
        refine hK _ _ ?_
        clear hK K
        refine wp_seq_k fun K hK => ?_
        rcases Bool.eq_false_or_eq_true ((mulM a b).2) with ht716 | ht716
        · skip
          have hv717 : a703.eval (.tmp 16) = .bool true := h708.trans (congrArg Value.bool ht716)
          clear h708
          rcases Bool.eq_false_or_eq_true ((mulM b c).2) with ht718 | ht718
          · skip
            have hv719 : a703.eval (.tmp 18) = .bool true := h709.trans (congrArg Value.bool ht718)
            clear h709
            rcases Bool.eq_false_or_eq_true ((mulM ((mulM a b).1) c).2) with ht720 | ht720
            · skip
              have hv721 : a703.eval (.tmp 20) = .bool true := h711.trans (congrArg Value.bool ht720)
              clear h711
              rcases Bool.eq_false_or_eq_true ((mulM a ((mulM b c).1)).2) with ht722 | ht722
              · skip
                have hv723 : a703.eval (.tmp 22) = .bool true := h715.trans (congrArg Value.bool ht722)
                clear h715
                refine wp_g0 [true, true, true, true, true, true, true, true, true, true, true, true, true, true, true, true, true, true, true, true, true, true, true] [] 111
                  [ve (.bool true),
                   ve (.bool true),
                   ve (.bool true),
                   ve (.bool false),
                   ve (.bool false),
                   ve (.bool true),
                   ve (.bool false),
                   ve (.bool false),
                   ve (.bool false),
                   ve (.bool true),
                   ve (.bool false),
                   ve (.bool false),
                   ve (.bool false),
                   ve (.bool true),
                   ve (.bool false),
                   ve (.bool false),
                   ve (.bool false),
                   ve (nv ((mulM ((mulM a b).1) c).1)),
                   ve (nv ((mulM a ((mulM b c).1)).1)),
                   ve (.bool (sameM ((mulM ((mulM a b).1) c).1) ((mulM a ((mulM b c).1)).1))),
                   ve (.bool (sameM ((mulM ((mulM a b).1) c).1) ((mulM a ((mulM b c).1)).1))),
                   ve (.bool (sameM ((mulM ((mulM a b).1) c).1) ((mulM a ((mulM b c).1)).1))),
                   ve (.bool (sameM ((mulM ((mulM a b).1) c).1) ((mulM a ((mulM b c).1)).1)))] hs705 (.eq (.eq (.eq (.eq (.eq (.eq (.eq (.eq (.eq (.eq (.eq (.eq (.eq (.eq (.eq (.eq (.eq (.eq (.eq (.eq (.eq (.eq (.eq (.nil)))))))))))))))))))))))) ?_ ?_
                · skip
                  refine .o1 (ck rfl rfl rfl (fun _ w hn k => ⟨#[], rfl, fun _ => by kernel_rfl, first_c  _⟩) fun _ => rfl) ?_
                  refine .o1 (tk rfl rfl fun _ w hn k => ⟨_, v_move rfl (k.eq1 0 89 rfl), rfl⟩) ?_
                  refine .o1 (tg rfl rfl rfl (fun _ _ k => k.eq1 1 90 rfl) fun _ w hn k => ⟨_, v_move rfl (k.fx 16 hv717), rfl⟩) ?_
                  refine .o1 (tg rfl rfl rfl (fun _ _ k => k.eq1 1 90 rfl) fun _ w hn k => ⟨_, v_not rfl (k.eq1 2 91 rfl), rfl⟩) ?_
                  refine .o1 (tg rfl rfl rfl (fun _ _ k => k.eq1 1 90 rfl) fun _ w hn k => ⟨_, v_move rfl (k.eq1 3 92 rfl), rfl⟩) ?_
                  refine .o1 (tg rfl rfl rfl (fun _ _ k => k.eq1 4 93 rfl) fun _ w hn k => ⟨_, v_move rfl (k.fx 18 hv719), rfl⟩) ?_
                  refine .o1 (tg rfl rfl rfl (fun _ _ k => k.eq1 4 93 rfl) fun _ w hn k => ⟨_, v_not rfl (k.eq1 5 94 rfl), rfl⟩) ?_
                  refine .o1 (tg rfl rfl rfl (fun _ _ k => k.eq1 1 90 rfl) fun _ w hn k => ⟨_, v_pickF rfl (k.eq1 4 93 rfl) (k.eq1 6 95 rfl), rfl⟩) ?_
                  refine .o1 (tg rfl rfl rfl (fun _ _ k => k.eq1 1 90 rfl) fun _ w hn k => ⟨_, v_move rfl (k.eq1 7 96 rfl), rfl⟩) ?_
                  refine .o1 (tg rfl rfl rfl (fun _ _ k => k.eq1 8 97 rfl) fun _ w hn k => ⟨_, v_move rfl (k.fx 20 hv721), rfl⟩) ?_
                  refine .o1 (tg rfl rfl rfl (fun _ _ k => k.eq1 8 97 rfl) fun _ w hn k => ⟨_, v_not rfl (k.eq1 9 98 rfl), rfl⟩) ?_
                  refine .o1 (tg rfl rfl rfl (fun _ _ k => k.eq1 1 90 rfl) fun _ w hn k => ⟨_, v_pickF rfl (k.eq1 8 97 rfl) (k.eq1 10 99 rfl), rfl⟩) ?_
                  refine .o1 (tg rfl rfl rfl (fun _ _ k => k.eq1 1 90 rfl) fun _ w hn k => ⟨_, v_move rfl (k.eq1 11 100 rfl), rfl⟩) ?_
                  refine .o1 (tg rfl rfl rfl (fun _ _ k => k.eq1 12 101 rfl) fun _ w hn k => ⟨_, v_move rfl (k.fx 22 hv723), rfl⟩) ?_
                  refine .o1 (tg rfl rfl rfl (fun _ _ k => k.eq1 12 101 rfl) fun _ w hn k => ⟨_, v_not rfl (k.eq1 13 102 rfl), rfl⟩) ?_
                  refine .o1 (tg rfl rfl rfl (fun _ _ k => k.eq1 1 90 rfl) fun _ w hn k => ⟨_, v_pickF rfl (k.eq1 12 101 rfl) (k.eq1 14 103 rfl), rfl⟩) ?_
                  refine .o1 (tg rfl rfl rfl (fun _ _ k => k.eq1 1 90 rfl) fun _ w hn k => ⟨_, v_move rfl (k.eq1 15 104 rfl), rfl⟩) ?_
                  refine .o1 (tg rfl rfl rfl (fun _ _ k => k.eq1 16 105 rfl) fun _ w hn k => ⟨_, v_load rfl (k.fx 19 h710) (l_two Tryd.isAgg23 Tryd.sizeOf23 (hb701.new_ hn)), rfl⟩) ?_
                  refine .o1 (tg rfl rfl rfl (fun _ _ k => k.eq1 16 105 rfl) fun _ w hn k => ⟨_, v_load rfl (k.fx 21 h714) (l_two Tryd.isAgg23 Tryd.sizeOf23 (hb696.new_ hn)), rfl⟩) ?_
                  refine .o1 (cg rfl rfl rfl (fun _ _ k => k.eq1 16 105 rfl) rfl (fun _ w hn k => ⟨#[nv ((mulM ((mulM a b).1) c).1), nv ((mulM a ((mulM b c).1)).1)], args2 (k.eq1 17 106 rfl) (k.eq1 18 107 rfl), fun _ => by kernel_rfl, same_c ((mulM ((mulM a b).1) c).1) ((mulM a ((mulM b c).1)).1) _⟩) fun _ => rfl) ?_
                  refine .o1 (tg rfl rfl rfl (fun _ _ k => k.eq1 1 90 rfl) fun _ w hn k => ⟨_, v_pickF rfl (k.eq1 16 105 rfl) (k.eq1 19 108 rfl), rfl⟩) ?_
                  refine .o1 (tk rfl rfl fun _ w hn k => ⟨_, v_pickT rfl (k.eq1 1 90 rfl) (k.eq1 20 109 rfl), rfl⟩) ?_
                  refine .o1 (tk rfl rfl fun _ w hn k => ⟨_, v_assign rfl (k.eq1 21 110 rfl), rfl⟩) ?_
                  exact .nil
                intro a724 w725 hn726 ha727
                have hs728 := ha727.size.trans hs705
                have hd729 := ha727.defers.trans hd706
                have h730 := ha727.ge 22 6 rfl
                have hN731 := hN702.transNew hn726
                clear hs705 hd706 h707 hv717 hv719 h710 hv721 h714 hv723 hb701 hq648 hb696 hq692 hN702 ha727 hn726
                refine st_nil ?_
                refine hK _ _ ?_
                clear hK K
                refine wp_ret (ret_k hd729 (v := .bool (sameM ((mulM ((mulM a b).1) c).1) ((mulM a ((mulM b c).1)).1))) (res_t rfl h730 _) ?_)
                exact ⟨congrArg (fun b => Ending.returned (.bool b)) (mul_assoc ht716 ht718 ht720 ht722), hN731⟩
              have hv732 : a703.eval (.tmp 22) = .bool false := h715.trans (congrArg Value.bool ht722)
              clear h715
              refine wp_g0 [true, true, true, true, true, true, true, true, true, true, true, true, true, true, true, true, true, true, true, true, true, true, true] [] 111
                [ve (.bool true),
                 ve (.bool true),
                 ve (.bool true),
                 ve (.bool false),
                 ve (.bool false),
                 ve (.bool true),
                 ve (.bool false),
                 ve (.bool false),
                 ve (.bool false),
                 ve (.bool true),
                 ve (.bool false),
                 ve (.bool false),
                 ve (.bool false),
                 ve (.bool false),
                 ve (.bool true),
                 ve (.bool true),
                 ve (.bool true),
                 ve undef,
                 ve undef,
                 ve undef,
                 ve (.bool true),
                 ve (.bool true),
                 ve (.bool true)] hs705 (.eq (.eq (.eq (.eq (.eq (.eq (.eq (.eq (.eq (.eq (.eq (.eq (.eq (.eq (.eq (.eq (.eq (.eq (.eq (.eq (.eq (.eq (.eq (.nil)))))))))))))))))))))))) ?_ ?_
              · skip
                refine .o1 (ck rfl rfl rfl (fun _ w hn k => ⟨#[], rfl, fun _ => by kernel_rfl, first_c  _⟩) fun _ => rfl) ?_
                refine .o1 (tk rfl rfl fun _ w hn k => ⟨_, v_move rfl (k.eq1 0 89 rfl), rfl⟩) ?_
                refine .o1 (tg rfl rfl rfl (fun _ _ k => k.eq1 1 90 rfl) fun _ w hn k => ⟨_, v_move rfl (k.fx 16 hv717), rfl⟩) ?_
                refine .o1 (tg rfl rfl rfl (fun _ _ k => k.eq1 1 90 rfl) fun _ w hn k => ⟨_, v_not rfl (k.eq1 2 91 rfl), rfl⟩) ?_
                refine .o1 (tg rfl rfl rfl (fun _ _ k => k.eq1 1 90 rfl) fun _ w hn k => ⟨_, v_move rfl (k.eq1 3 92 rfl), rfl⟩) ?_
                refine .o1 (tg rfl rfl rfl (fun _ _ k => k.eq1 4 93 rfl) fun _ w hn k => ⟨_, v_move rfl (k.fx 18 hv719), rfl⟩) ?_
                refine .o1 (tg rfl rfl rfl (fun _ _ k => k.eq1 4 93 rfl) fun _ w hn k => ⟨_, v_not rfl (k.eq1 5 94 rfl), rfl⟩) ?_
                refine .o1 (tg rfl rfl rfl (fun _ _ k => k.eq1 1 90 rfl) fun _ w hn k => ⟨_, v_pickF rfl (k.eq1 4 93 rfl) (k.eq1 6 95 rfl), rfl⟩) ?_
                refine .o1 (tg rfl rfl rfl (fun _ _ k => k.eq1 1 90 rfl) fun _ w hn k => ⟨_, v_move rfl (k.eq1 7 96 rfl), rfl⟩) ?_
                refine .o1 (tg rfl rfl rfl (fun _ _ k => k.eq1 8 97 rfl) fun _ w hn k => ⟨_, v_move rfl (k.fx 20 hv721), rfl⟩) ?_
                refine .o1 (tg rfl rfl rfl (fun _ _ k => k.eq1 8 97 rfl) fun _ w hn k => ⟨_, v_not rfl (k.eq1 9 98 rfl), rfl⟩) ?_
                refine .o1 (tg rfl rfl rfl (fun _ _ k => k.eq1 1 90 rfl) fun _ w hn k => ⟨_, v_pickF rfl (k.eq1 8 97 rfl) (k.eq1 10 99 rfl), rfl⟩) ?_
                refine .o1 (tg rfl rfl rfl (fun _ _ k => k.eq1 1 90 rfl) fun _ w hn k => ⟨_, v_move rfl (k.eq1 11 100 rfl), rfl⟩) ?_
                refine .o1 (tg rfl rfl rfl (fun _ _ k => k.eq1 12 101 rfl) fun _ w hn k => ⟨_, v_move rfl (k.fx 22 hv732), rfl⟩) ?_
                refine .o1 (tg rfl rfl rfl (fun _ _ k => k.eq1 12 101 rfl) fun _ w hn k => ⟨_, v_not rfl (k.eq1 13 102 rfl), rfl⟩) ?_
                refine .o1 (tg rfl rfl rfl (fun _ _ k => k.eq1 1 90 rfl) fun _ w hn k => ⟨_, v_pickF rfl (k.eq1 12 101 rfl) (k.eq1 14 103 rfl), rfl⟩) ?_
                refine .o1 (tg rfl rfl rfl (fun _ _ k => k.eq1 1 90 rfl) fun _ w hn k => ⟨_, v_move rfl (k.eq1 15 104 rfl), rfl⟩) ?_
                refine .o1 (sk rfl rfl rfl (fun _ _ _ k => k.eq1 16 105 rfl) (fun _ => rfl)) ?_
                refine .o1 (sk rfl rfl rfl (fun _ _ _ k => k.eq1 16 105 rfl) (fun _ => rfl)) ?_
                refine .o1 (sk rfl rfl rfl (fun _ _ _ k => k.eq1 16 105 rfl) (fun _ => rfl)) ?_
                refine .o1 (tg rfl rfl rfl (fun _ _ k => k.eq1 1 90 rfl) fun _ w hn k => ⟨_, v_pickT rfl (k.eq1 16 105 rfl) rfl, rfl⟩) ?_
                refine .o1 (tk rfl rfl fun _ w hn k => ⟨_, v_pickT rfl (k.eq1 1 90 rfl) (k.eq1 20 109 rfl), rfl⟩) ?_
                refine .o1 (tk rfl rfl fun _ w hn k => ⟨_, v_assign rfl (k.eq1 21 110 rfl), rfl⟩) ?_
                exact .nil
              intro a733 w734 hn735 ha736
              have hs737 := ha736.size.trans hs705
              have hd738 := ha736.defers.trans hd706
              have h739 := ha736.ge 22 6 rfl
              have hN740 := hN702.transNew hn735
              clear hs705 hd706 h707 hv717 hv719 h710 hv721 h714 hv732 hb701 hq648 hb696 hq692 hN702 ha736 hn735
              refine st_nil ?_
              refine hK _ _ ?_
              clear hK K
              refine wp_ret (ret_k hd738 (v := .bool true) (res_t rfl h739 _) ?_)
              exact ⟨rfl, hN740⟩
            have hv741 : a703.eval (.tmp 20) = .bool false := h711.trans (congrArg Value.bool ht720)
            clear h711
            refine wp_g0 [true, true, true, true, true, true, true, true, true, true, true, true, true, true, true, true, true, true, true, true, true, true, true] [] 111
              [ve (.bool true),
               ve (.bool true),
               ve (.bool true),
               ve (.bool false),
               ve (.bool false),
               ve (.bool true),
               ve (.bool false),
               ve (.bool false),
               ve (.bool false),
               ve (.bool false),
               ve (.bool true),
               ve (.bool true),
               ve (.bool true),
               ve undef,
               ve undef,
               ve (.bool true),
               ve (.bool true),
               ve undef,
               ve undef,
               ve undef,
               ve (.bool true),
               ve (.bool true),
               ve (.bool true)] hs705 (.eq (.eq (.eq (.eq (.eq (.eq (.eq (.eq (.eq (.eq (.eq (.eq (.eq (.eq (.eq (.eq (.eq (.eq (.eq (.eq (.eq (.eq (.eq (.nil)))))))))))))))))))))))) ?_ ?_
            · skip
              refine .o1 (ck rfl rfl rfl (fun _ w hn k => ⟨#[], rfl, fun _ => by kernel_rfl, first_c  _⟩) fun _ => rfl) ?_
              refine .o1 (tk rfl rfl fun _ w hn k => ⟨_, v_move rfl (k.eq1 0 89 rfl), rfl⟩) ?_
              refine .o1 (tg rfl rfl rfl (fun _ _ k => k.eq1 1 90 rfl) fun _ w hn k => ⟨_, v_move rfl (k.fx 16 hv717), rfl⟩) ?_
              refine .o1 (tg rfl rfl rfl (fun _ _ k => k.eq1 1 90 rfl) fun _ w hn k => ⟨_, v_not rfl (k.eq1 2 91 rfl), rfl⟩) ?_
              refine .o1 (tg rfl rfl rfl (fun _ _ k => k.eq1 1 90 rfl) fun _ w hn k => ⟨_, v_move rfl (k.eq1 3 92 rfl), rfl⟩) ?_
              refine .o1 (tg rfl rfl rfl (fun _ _ k => k.eq1 4 93 rfl) fun _ w hn k => ⟨_, v_move rfl (k.fx 18 hv719), rfl⟩) ?_
              refine .o1 (tg rfl rfl rfl (fun _ _ k => k.eq1 4 93 rfl) fun _ w hn k => ⟨_, v_not rfl (k.eq1 5 94 rfl), rfl⟩) ?_
              refine .o1 (tg rfl rfl rfl (fun _ _ k => k.eq1 1 90 rfl) fun _ w hn k => ⟨_, v_pickF rfl (k.eq1 4 93 rfl) (k.eq1 6 95 rfl), rfl⟩) ?_
              refine .o1 (tg rfl rfl rfl (fun _ _ k => k.eq1 1 90 rfl) fun _ w hn k => ⟨_, v_move rfl (k.eq1 7 96 rfl), rfl⟩) ?_
              refine .o1 (tg rfl rfl rfl (fun _ _ k => k.eq1 8 97 rfl) fun _ w hn k => ⟨_, v_move rfl (k.fx 20 hv741), rfl⟩) ?_
              refine .o1 (tg rfl rfl rfl (fun _ _ k => k.eq1 8 97 rfl) fun _ w hn k => ⟨_, v_not rfl (k.eq1 9 98 rfl), rfl⟩) ?_
              refine .o1 (tg rfl rfl rfl (fun _ _ k => k.eq1 1 90 rfl) fun _ w hn k => ⟨_, v_pickF rfl (k.eq1 8 97 rfl) (k.eq1 10 99 rfl), rfl⟩) ?_
              refine .o1 (tg rfl rfl rfl (fun _ _ k => k.eq1 1 90 rfl) fun _ w hn k => ⟨_, v_move rfl (k.eq1 11 100 rfl), rfl⟩) ?_
              refine .o1 (sk rfl rfl rfl (fun _ _ _ k => k.eq1 12 101 rfl) (fun _ => rfl)) ?_
              refine .o1 (sk rfl rfl rfl (fun _ _ _ k => k.eq1 12 101 rfl) (fun _ => rfl)) ?_
              refine .o1 (tg rfl rfl rfl (fun _ _ k => k.eq1 1 90 rfl) fun _ w hn k => ⟨_, v_pickT rfl (k.eq1 12 101 rfl) rfl, rfl⟩) ?_
              refine .o1 (tg rfl rfl rfl (fun _ _ k => k.eq1 1 90 rfl) fun _ w hn k => ⟨_, v_move rfl (k.eq1 15 104 rfl), rfl⟩) ?_
              refine .o1 (sk rfl rfl rfl (fun _ _ _ k => k.eq1 16 105 rfl) (fun _ => rfl)) ?_
              refine .o1 (sk rfl rfl rfl (fun _ _ _ k => k.eq1 16 105 rfl) (fun _ => rfl)) ?_
              refine .o1 (sk rfl rfl rfl (fun _ _ _ k => k.eq1 16 105 rfl) (fun _ => rfl)) ?_
              refine .o1 (tg rfl rfl rfl (fun _ _ k => k.eq1 1 90 rfl) fun _ w hn k => ⟨_, v_pickT rfl (k.eq1 16 105 rfl) rfl, rfl⟩) ?_
              refine .o1 (tk rfl rfl fun _ w hn k => ⟨_, v_pickT rfl (k.eq1 1 90 rfl) (k.eq1 20 109 rfl), rfl⟩) ?_
              refine .o1 (tk rfl rfl fun _ w hn k => ⟨_, v_assign rfl (k.eq1 21 110 rfl), rfl⟩) ?_
              exact .nil
            intro a742 w743 hn744 ha745
            have hs746 := ha745.size.trans hs705
            have hd747 := ha745.defers.trans hd706
            have h748 := ha745.ge 22 6 rfl
            have hN749 := hN702.transNew hn744
            clear hs705 hd706 h707 hv717 hv719 h710 hv741 h714 h715 hb701 hq648 hb696 hq692 hN702 ha745 hn744
            refine st_nil ?_
            refine hK _ _ ?_
            clear hK K
            refine wp_ret (ret_k hd747 (v := .bool true) (res_t rfl h748 _) ?_)
            exact ⟨rfl, hN749⟩
          have hv750 : a703.eval (.tmp 18) = .bool false := h709.trans (congrArg Value.bool ht718)
          clear h709
          refine wp_g0 [true, true, true, true, true, true, true, true, true, true, true, true, true, true, true, true, true, true, true, true, true, true, true] [] 111
            [ve (.bool true),
             ve (.bool true),
             ve (.bool true),
             ve (.bool false),
             ve (.bool false),
             ve (.bool false),
             ve (.bool true),
             ve (.bool true),
             ve (.bool true),
             ve undef,
             ve undef,
             ve (.bool true),
             ve (.bool true),
             ve undef,
             ve undef,
             ve (.bool true),
             ve (.bool true),
             ve undef,
             ve undef,
             ve undef,
             ve (.bool true),
             ve (.bool true),
             ve (.bool true)] hs705 (.eq (.eq (.eq (.eq (.eq (.eq (.eq (.eq (.eq (.eq (.eq (.eq (.eq (.eq (.eq (.eq (.eq (.eq (.eq (.eq (.eq (.eq (.eq (.nil)))))))))))))))))))))))) ?_ ?_
          · skip
            refine .o1 (ck rfl rfl rfl (fun _ w hn k => ⟨#[], rfl, fun _ => by kernel_rfl, first_c  _⟩) fun _ => rfl) ?_
            refine .o1 (tk rfl rfl fun _ w hn k => ⟨_, v_move rfl (k.eq1 0 89 rfl), rfl⟩) ?_
            refine .o1 (tg rfl rfl rfl (fun _ _ k => k.eq1 1 90 rfl) fun _ w hn k => ⟨_, v_move rfl (k.fx 16 hv717), rfl⟩) ?_
            refine .o1 (tg rfl rfl rfl (fun _ _ k => k.eq1 1 90 rfl) fun _ w hn k => ⟨_, v_not rfl (k.eq1 2 91 rfl), rfl⟩) ?_
            refine .o1 (tg rfl rfl rfl (fun _ _ k => k.eq1 1 90 rfl) fun _ w hn k => ⟨_, v_move rfl (k.eq1 3 92 rfl), rfl⟩) ?_
            refine .o1 (tg rfl rfl rfl (fun _ _ k => k.eq1 4 93 rfl) fun _ w hn k => ⟨_, v_move rfl (k.fx 18 hv750), rfl⟩) ?_
            refine .o1 (tg rfl rfl rfl (fun _ _ k => k.eq1 4 93 rfl) fun _ w hn k => ⟨_, v_not rfl (k.eq1 5 94 rfl), rfl⟩) ?_
            refine .o1 (tg rfl rfl rfl (fun _ _ k => k.eq1 1 90 rfl) fun _ w hn k => ⟨_, v_pickF rfl (k.eq1 4 93 rfl) (k.eq1 6 95 rfl), rfl⟩) ?_
            refine .o1 (tg rfl rfl rfl (fun _ _ k => k.eq1 1 90 rfl) fun _ w hn k => ⟨_, v_move rfl (k.eq1 7 96 rfl), rfl⟩) ?_
            refine .o1 (sk rfl rfl rfl (fun _ _ _ k => k.eq1 8 97 rfl) (fun _ => rfl)) ?_
            refine .o1 (sk rfl rfl rfl (fun _ _ _ k => k.eq1 8 97 rfl) (fun _ => rfl)) ?_
            refine .o1 (tg rfl rfl rfl (fun _ _ k => k.eq1 1 90 rfl) fun _ w hn k => ⟨_, v_pickT rfl (k.eq1 8 97 rfl) rfl, rfl⟩) ?_
            refine .o1 (tg rfl rfl rfl (fun _ _ k => k.eq1 1 90 rfl) fun _ w hn k => ⟨_, v_move rfl (k.eq1 11 100 rfl), rfl⟩) ?_
            refine .o1 (sk rfl rfl rfl (fun _ _ _ k => k.eq1 12 101 rfl) (fun _ => rfl)) ?_
            refine .o1 (sk rfl rfl rfl (fun _ _ _ k => k.eq1 12 101 rfl) (fun _ => rfl)) ?_
            refine .o1 (tg rfl rfl rfl (fun _ _ k => k.eq1 1 90 rfl) fun _ w hn k => ⟨_, v_pickT rfl (k.eq1 12 101 rfl) rfl, rfl⟩) ?_
            refine .o1 (tg rfl rfl rfl (fun _ _ k => k.eq1 1 90 rfl) fun _ w hn k => ⟨_, v_move rfl (k.eq1 15 104 rfl), rfl⟩) ?_
            refine .o1 (sk rfl rfl rfl (fun _ _ _ k => k.eq1 16 105 rfl) (fun _ => rfl)) ?_
            refine .o1 (sk rfl rfl rfl (fun _ _ _ k => k.eq1 16 105 rfl) (fun _ => rfl)) ?_
            refine .o1 (sk rfl rfl rfl (fun _ _ _ k => k.eq1 16 105 rfl) (fun _ => rfl)) ?_
            refine .o1 (tg rfl rfl rfl (fun _ _ k => k.eq1 1 90 rfl) fun _ w hn k => ⟨_, v_pickT rfl (k.eq1 16 105 rfl) rfl, rfl⟩) ?_
            refine .o1 (tk rfl rfl fun _ w hn k => ⟨_, v_pickT rfl (k.eq1 1 90 rfl) (k.eq1 20 109 rfl), rfl⟩) ?_
            refine .o1 (tk rfl rfl fun _ w hn k => ⟨_, v_assign rfl (k.eq1 21 110 rfl), rfl⟩) ?_
            exact .nil
          intro a751 w752 hn753 ha754
          have hs755 := ha754.size.trans hs705
          have hd756 := ha754.defers.trans hd706
          have h757 := ha754.ge 22 6 rfl
          have hN758 := hN702.transNew hn753
          clear hs705 hd706 h707 hv717 hv750 h710 h711 h714 h715 hb701 hq648 hb696 hq692 hN702 ha754 hn753
          refine st_nil ?_
          refine hK _ _ ?_
          clear hK K
          refine wp_ret (ret_k hd756 (v := .bool true) (res_t rfl h757 _) ?_)
          exact ⟨rfl, hN758⟩
        have hv759 : a703.eval (.tmp 16) = .bool false := h708.trans (congrArg Value.bool ht716)
        clear h708
        refine wp_g0 [true, true, true, true, true, true, true, true, true, true, true, true, true, true, true, true, true, true, true, true, true, true, true] [] 111
          [ve (.bool true),
           ve (.bool true),
           ve (.bool false),
           ve (.bool true),
           ve (.bool true),
           ve undef,
           ve undef,
           ve (.bool true),
           ve (.bool true),
           ve undef,
           ve undef,
           ve (.bool true),
           ve (.bool true),
           ve undef,
           ve undef,
           ve (.bool true),
           ve (.bool true),
           ve undef,
           ve undef,
           ve undef,
           ve (.bool true),
           ve (.bool true),
           ve (.bool true)] hs705 (.eq (.eq (.eq (.eq (.eq (.eq (.eq (.eq (.eq (.eq (.eq (.eq (.eq (.eq (.eq (.eq (.eq (.eq (.eq (.eq (.eq (.eq (.eq (.nil)))))))))))))))))))))))) ?_ ?_
        · skip
          refine .o1 (ck rfl rfl rfl (fun _ w hn k => ⟨#[], rfl, fun _ => by kernel_rfl, first_c  _⟩) fun _ => rfl) ?_
          refine .o1 (tk rfl rfl fun _ w hn k => ⟨_, v_move rfl (k.eq1 0 89 rfl), rfl⟩) ?_
          refine .o1 (tg rfl rfl rfl (fun _ _ k => k.eq1 1 90 rfl) fun _ w hn k => ⟨_, v_move rfl (k.fx 16 hv759), rfl⟩) ?_
          refine .o1 (tg rfl rfl rfl (fun _ _ k => k.eq1 1 90 rfl) fun _ w hn k => ⟨_, v_not rfl (k.eq1 2 91 rfl), rfl⟩) ?_
          refine .o1 (tg rfl rfl rfl (fun _ _ k => k.eq1 1 90 rfl) fun _ w hn k => ⟨_, v_move rfl (k.eq1 3 92 rfl), rfl⟩) ?_
          refine .o1 (sk rfl rfl rfl (fun _ _ _ k => k.eq1 4 93 rfl) (fun _ => rfl)) ?_
          refine .o1 (sk rfl rfl rfl (fun _ _ _ k => k.eq1 4 93 rfl) (fun _ => rfl)) ?_
          refine .o1 (tg rfl rfl rfl (fun _ _ k => k.eq1 1 90 rfl) fun _ w hn k => ⟨_, v_pickT rfl (k.eq1 4 93 rfl) rfl, rfl⟩) ?_
          refine .o1 (tg rfl rfl rfl (fun _ _ k => k.eq1 1 90 rfl) fun _ w hn k => ⟨_, v_move rfl (k.eq1 7 96 rfl), rfl⟩) ?_
          refine .o1 (sk rfl rfl rfl (fun _ _ _ k => k.eq1 8 97 rfl) (fun _ => rfl)) ?_
          refine .o1 (sk rfl rfl rfl (fun _ _ _ k => k.eq1 8 97 rfl) (fun _ => rfl)) ?_
          refine .o1 (tg rfl rfl rfl (fun _ _ k => k.eq1 1 90 rfl) fun _ w hn k => ⟨_, v_pickT rfl (k.eq1 8 97 rfl) rfl, rfl⟩) ?_
          refine .o1 (tg rfl rfl rfl (fun _ _ k => k.eq1 1 90 rfl) fun _ w hn k => ⟨_, v_move rfl (k.eq1 11 100 rfl), rfl⟩) ?_
          refine .o1 (sk rfl rfl rfl (fun _ _ _ k => k.eq1 12 101 rfl) (fun _ => rfl)) ?_
          refine .o1 (sk rfl rfl rfl (fun _ _ _ k => k.eq1 12 101 rfl) (fun _ => rfl)) ?_
          refine .o1 (tg rfl rfl rfl (fun _ _ k => k.eq1 1 90 rfl) fun _ w hn k => ⟨_, v_pickT rfl (k.eq1 12 101 rfl) rfl, rfl⟩) ?_
          refine .o1 (tg rfl rfl rfl (fun _ _ k => k.eq1 1 90 rfl) fun _ w hn k => ⟨_, v_move rfl (k.eq1 15 104 rfl), rfl⟩) ?_
          refine .o1 (sk rfl rfl rfl (fun _ _ _ k => k.eq1 16 105 rfl) (fun _ => rfl)) ?_
          refine .o1 (sk rfl rfl rfl (fun _ _ _ k => k.eq1 16 105 rfl) (fun _ => rfl)) ?_
          refine .o1 (sk rfl rfl rfl (fun _ _ _ k => k.eq1 16 105 rfl) (fun _ => rfl)) ?_
          refine .o1 (tg rfl rfl rfl (fun _ _ k => k.eq1 1 90 rfl) fun _ w hn k => ⟨_, v_pickT rfl (k.eq1 16 105 rfl) rfl, rfl⟩) ?_
          refine .o1 (tk rfl rfl fun _ w hn k => ⟨_, v_pickT rfl (k.eq1 1 90 rfl) (k.eq1 20 109 rfl), rfl⟩) ?_
          refine .o1 (tk rfl rfl fun _ w hn k => ⟨_, v_assign rfl (k.eq1 21 110 rfl), rfl⟩) ?_
          exact .nil
        intro a760 w761 hn762 ha763
        have hs764 := ha763.size.trans hs705
        have hd765 := ha763.defers.trans hd706
        have h766 := ha763.ge 22 6 rfl
        have hN767 := hN702.transNew hn762
        clear hs705 hd706 h707 hv759 h709 h710 h711 h714 h715 hb701 hq648 hb696 hq692 hN702 ha763 hn762
        refine st_nil ?_
        refine hK _ _ ?_
        clear hK K
        refine wp_ret (ret_k hd765 (v := .bool true) (res_t rfl h766 _) ?_)
        exact ⟨rfl, hN767⟩
      have hv768 : a238.eval (.tmp 12) = .bool false := h249.trans (congrArg Value.bool ht258)
      clear h249
      refine wp_g0 [true, true, true, true, true, true, true, true, true, true, true, true, true, true, true, true] [] 111
        [ve (.bool true),
         ve (.bool true),
         ve (.bool true),
         ve (.bool true),
         ve (.bool true),
         ve (.bool false),
         ve (.bool false),
         ve (.bool false),
         ve undef,
         ve (.bool false),
         ve (.bool false),
         ve undef,
         ve undef,
         ve undef,
         ve undef,
         ve (.bool false)] hs240 (.eq (.eq (.eq (.eq (.eq (.eq (.eq (.eq (.eq (.eq (.eq (.eq (.eq (.eq (.eq (.eq (.nil))))))))))))))))) ?_ ?_
      · skip
        refine .o1 (tk rfl rfl fun _ w hn k => ⟨_, v_move rfl (k.fx 8 hv255), rfl⟩) ?_
        refine .o1 (tk rfl rfl fun _ w hn k => ⟨_, v_move rfl (k.eq1 0 49 rfl), rfl⟩) ?_
        refine .o1 (tg rfl rfl rfl (fun _ _ k => k.eq1 1 50 rfl) fun _ w hn k => ⟨_, v_move rfl (k.fx 10 hv257), rfl⟩) ?_
        refine .o1 (tk rfl rfl fun _ w hn k => ⟨_, v_pickT rfl (k.eq1 1 50 rfl) (k.eq1 2 51 rfl), rfl⟩) ?_
        refine .o1 (tk rfl rfl fun _ w hn k => ⟨_, v_move rfl (k.eq1 3 52 rfl), rfl⟩) ?_
        refine .o1 (tg rfl rfl rfl (fun _ _ k => k.eq1 4 53 rfl) fun _ w hn k => ⟨_, v_move rfl (k.fx 12 hv768), rfl⟩) ?_
        refine .o1 (tk rfl rfl fun _ w hn k => ⟨_, v_pickT rfl (k.eq1 4 53 rfl) (k.eq1 5 54 rfl), rfl⟩) ?_
        refine .o1 (tk rfl rfl fun _ w hn k => ⟨_, v_move rfl (k.eq1 6 55 rfl), rfl⟩) ?_
        refine .o1 (sk rfl rfl rfl (fun _ _ _ k => k.eq1 7 56 rfl) (fun _ => rfl)) ?_
        refine .o1 (tk rfl rfl fun _ w hn k => ⟨_, v_pickF rfl (k.eq1 7 56 rfl) rfl, rfl⟩) ?_
        refine .o1 (tk rfl rfl fun _ w hn k => ⟨_, v_move rfl (k.eq1 9 58 rfl), rfl⟩) ?_
        refine .o1 (sk rfl rfl rfl (fun _ _ _ k => k.eq1 10 59 rfl) (fun _ => rfl)) ?_
        refine .o1 (sk rfl rfl rfl (fun _ _ _ k => k.eq1 10 59 rfl) (fun _ => rfl)) ?_
        refine .o1 (sk rfl rfl rfl (fun _ _ _ k => k.eq1 10 59 rfl) (fun _ => rfl)) ?_
        refine .o1 (sk rfl rfl rfl (fun _ _ _ k => k.eq1 10 59 rfl) (fun _ => rfl)) ?_
        refine .o1 (tk rfl rfl fun _ w hn k => ⟨_, v_pickF rfl (k.eq1 10 59 rfl) rfl, rfl⟩) ?_
        exact .nil
      intro a769 w770 hn771 ha772
      have hs773 := ha772.size.trans hs240
      have hd774 := ha772.defers.trans hd241
      have h775 := ha772.fx 3 h242
      have h776 := ha772.fx 4 h243
      have h777 := ha772.fx 5 h244
      have h778 := ha772.fx 6 h245
      have h779 := ha772.ge 15 64 rfl
      have hb780 := hb233.new_ hn771
      have hb781 := hb234.new_ hn771
      have hb782 := hb235.new_ hn771
      have hN783 := hN237.transNew hn771
      clear hs240 hd241 h242 h243 h244 h245 hv255 hv257 h248 hv768 h252 h253 hb233 hb234 hb235 hb236 hq167 hb228 hq224 hN237 ha772 hn771
      refine st_nil ?_
      refine hK _ _ ?_
      clear hK K
      refine wp_cond_false h779 ?_
      refine wp_skip ?_
      refine hK _ _ ?_
      clear hK K
      refine wp_seq_k fun K hK => ?_
      refine wp_g [true, true, true, true, true, true, true, false, false] [5] [(7, false), (8, true)] 111
        [ve (nv a),
         ve (nv b),
         ve (.tuple #[nv ((mulM a b).1), .bool ((mulM a b).2)]),
         ve (.tuple #[nv ((mulM a b).1), .bool ((mulM a b).2)]),
         ve (nv ((mulM a b).1)),
         ve (.bool ((mulM a b).2)),
         IsNew w770 23 [iv 0, iv 0],
         vt,
         vt]
        [6] (newsCons (fun v w h => IsNew.old h) newsNil) hs773 (.eq (.eq (.eq (.eq (.eq (.eq (.nw (.tt (.tt (.nil)))))))))) ?_ ?_ ?_
      · skip
        refine .o1 (tk rfl rfl fun _ w hn k => ⟨_, v_load rfl (k.fx 3 h775) (l_two Tryd.isAgg23 Tryd.sizeOf23 (hb780.new_ hn)), rfl⟩) ?_
        refine .o1 (tk rfl rfl fun _ w hn k => ⟨_, v_load rfl (k.fx 4 h776) (l_two Tryd.isAgg23 Tryd.sizeOf23 (hb781.new_ hn)), rfl⟩) ?_
        refine .o1 (ck rfl rfl rfl (fun _ w hn k => ⟨#[nv a, nv b], args2 (k.eq1 0 66 rfl) (k.eq1 1 67 rfl), fun _ => by kernel_rfl, mul_c a b _⟩) fun _ => rfl) ?_
        refine .o1 (tk rfl rfl fun _ w hn k => ⟨_, v_move rfl (k.eq1 2 68 rfl), rfl⟩) ?_
        refine .o1 (tk rfl rfl fun _ w hn k => ⟨_, v_extract rfl (k.eq1 3 65 rfl) rfl, rfl⟩) ?_
        refine .o3 ?_
        refine .o2 (step_allocN (cs := [iv 0, iv 0]) (t := 23) rfl (noG rfl) (fun _ w hn k => rfl) (fun q _ hq hb => ⟨q, rfl, hq, hb⟩)) ?_
        refine .off ?_
        refine .off ?_
        exact .nil
      · skip
        intro i h
        simp only [List.contains_eq_mem, List.mem_cons, List.not_mem_nil, or_false, decide_eq_true_eq] at h
        subst h
        · exact eager_take rfl rfl fun _ w hn k => ⟨.bool ((mulM a b).2), fun w => v_extract rfl (k.eq1 3 65 rfl) rfl, rfl⟩
      intro a784 w785 hn786 ha787
      have hs788 := ha787.size.trans hs773
      have hd789 := ha787.defers.trans hd774
      have h790 := ha787.fx 3 h775
      have h791 := ha787.fx 4 h776
      have h792 := ha787.fx 5 h777
      have h793 := ha787.fx 6 h778
      have h794 := ha787.ge 4 69 rfl
      have h795 := ha787.ge 5 70 rfl
      obtain ⟨q797, h796, hq798, hb799⟩ : IsNew _ _ _ _ _ := ha787.got 6 15 rfl (by kernel_rfl)
      have hb800 := hb780.new_ hn786
      have hb801 := hb781.new_ hn786
      have hb802 := hb782.new_ hn786
      have hne803 : q8 ≠ q797 := by have h1 := hb780.lt; have h2 := hq798; omega
      have hne804 : q12 ≠ q797 := by have h1 := hb781.lt; have h2 := hq798; omega
      have hne805 : q16 ≠ q797 := by have h1 := hb782.lt; have h2 := hq798; omega
      have hq806 := Nat.le_trans hN783.size hq798
      have hN807 := hN783.transNew hn786
      clear hs773 hd774 h775 h776 h777 h778 h779 hb780 hb781 hb782 hq798 hN783 ha787 hn786
      obtain ⟨w808, -, hst809, hb810, hu811, hf812⟩ := s_two (v0 := iv ((mulM a b).1.k)) (v1 := iv ((mulM a b).1.n)) Tryd.sizeOf23 rfl rfl rfl hb799
      refine st_act rfl rfl fun K813 hL814 => a_store' rfl h796 h794 hst809 (hL814 _ _ trivial ?_)
      have hb815 := hf812 _ _ _ (hne803) hb800
      have hb816 := hf812 _ _ _ (hne804) hb801
      have hb817 := hf812 _ _ _ (hne805) hb802
      have hN818 := hN807.trans hu811 (fun k hk hkb => by subst hkb; omega)
      clear hb799 hst809 K813 hL814 hN807 hb800 hb801 hb802 hu811 hf812
      refine st_take rfl rfl (y_assign (v := .bool ((mulM a b).2)) rfl h795) rfl ?_
      obtain ⟨a819, ha820⟩ : ∃ a', a' = a784.put (some 16) (.bool ((mulM a b).2)) := ⟨_, rfl⟩
      have hs821 : a819.tmps.size = 111 := by rw [ha820, put_size]; exact hs788
      have hd822 : a819.defers = [] := by rw [ha820, put_defers]; exact hd789
      have h823 : a819.eval (.tmp 3) = pv q8 := by rw [ha820, put_ne _ _ _ _ (by decide)]; exact h790
      have h824 : a819.eval (.tmp 4) = pv q12 := by rw [ha820, put_ne _ _ _ _ (by decide)]; exact h791
      have h825 : a819.eval (.tmp 5) = pv q16 := by rw [ha820, put_ne _ _ _ _ (by decide)]; exact h792
      have h826 : a819.eval (.tmp 6) = .bool false := by rw [ha820, put_ne _ _ _ _ (by decide)]; exact h793
      have h827 : a819.eval (.tmp 69) = nv ((mulM a b).1) := by rw [ha820, put_ne _ _ _ _ (by decide)]; exact h794
      have h828 : a819.eval (.tmp 70) = .bool ((mulM a b).2) := by rw [ha820, put_ne _ _ _ _ (by decide)]; exact h795
      have h829 : a819.eval (.tmp 15) = pv q797 := by rw [ha820, put_ne _ _ _ _ (by decide)]; exact h796
      have h830 : a819.eval (.tmp 16) = .bool ((mulM a b).2) := by rw [ha820]; exact put_same _ _ _ (by rw [hs788]; decide)
      show stepsTo _ _ _ _ _ (a784.put (some 16) (.bool ((mulM a b).2))) _
      rw [← ha820]
      clear ha820 hs788 hd789 h790 h791 h792 h793 h794 h795 h796
      clear hne803
      clear hne804
      clear hne805
      refine st_nil ?_
      clear h827 h828
      refine hK _ _ ?_
      clear hK K
      refine wp_seq_k fun K hK => ?_
      refine wp_g [true, true, true, true, true, true, true, false, false] [5] [(7, false), (8, true)] 111
        [ve (nv b),
         ve (nv c),
         ve (.tuple #[nv ((mulM b c).1), .bool ((mulM b c).2)]),
         ve (.tuple #[nv ((mulM b c).1), .bool ((mulM b c).2)]),
         ve (nv ((mulM b c).1)),
         ve (.bool ((mulM b c).2)),
         IsNew w808 23 [iv 0, iv 0],
         vt,
         vt]
        [6] (newsCons (fun v w h => IsNew.old h) newsNil) hs821 (.eq (.eq (.eq (.eq (.eq (.eq (.nw (.tt (.tt (.nil)))))))))) ?_ ?_ ?_
      · skip
        refine .o1 (tk rfl rfl fun _ w hn k => ⟨_, v_load rfl (k.fx 4 h824) (l_two Tryd.isAgg23 Tryd.sizeOf23 (hb816.new_ hn)), rfl⟩) ?_
        refine .o1 (tk rfl rfl fun _ w hn k => ⟨_, v_load rfl (k.fx 5 h825) (l_two Tryd.isAgg23 Tryd.sizeOf23 (hb817.new_ hn)), rfl⟩) ?_
        refine .o1 (ck rfl rfl rfl (fun _ w hn k => ⟨#[nv b, nv c], args2 (k.eq1 0 72 rfl) (k.eq1 1 73 rfl), fun _ => by kernel_rfl, mul_c b c _⟩) fun _ => rfl) ?_
        refine .o1 (tk rfl rfl fun _ w hn k => ⟨_, v_move rfl (k.eq1 2 74 rfl), rfl⟩) ?_
        refine .o1 (tk rfl rfl fun _ w hn k => ⟨_, v_extract rfl (k.eq1 3 71 rfl) rfl, rfl⟩) ?_
        refine .o3 ?_
        refine .o2 (step_allocN (cs := [iv 0, iv 0]) (t := 23) rfl (noG rfl) (fun _ w hn k => rfl) (fun q _ hq hb => ⟨q, rfl, hq, hb⟩)) ?_
        refine .off ?_
        refine .off ?_
        exact .nil
      · skip
        intro i h
        simp only [List.contains_eq_mem, List.mem_cons, List.not_mem_nil, or_false, decide_eq_true_eq] at h
        subst h
        · exact eager_take rfl rfl fun _ w hn k => ⟨.bool ((mulM b c).2), fun w => v_extract rfl (k.eq1 3 71 rfl) rfl, rfl⟩
      intro a831 w832 hn833 ha834
      have hs835 := ha834.size.trans hs821
      have hd836 := ha834.defers.trans hd822
      have h837 := ha834.fx 3 h823
      have h838 := ha834.fx 5 h825
      have h839 := ha834.fx 6 h826
      have h840 := ha834.fx 15 h829
      have h841 := ha834.fx 16 h830
      have h842 := ha834.ge 4 75 rfl
      have h843 := ha834.ge 5 76 rfl
      obtain ⟨q845, h844, hq846, hb847⟩ : IsNew _ _ _ _ _ := ha834.got 6 17 rfl (by kernel_rfl)
      have hb848 := hb815.new_ hn833
      have hb849 := hb817.new_ hn833
      have hb850 := hb810.new_ hn833
      have hne851 : q8 ≠ q845 := by have h1 := hb815.lt; have h2 := hq846; omega
      have hne852 : q16 ≠ q845 := by have h1 := hb817.lt; have h2 := hq846; omega
      have hne853 : q797 ≠ q845 := by have h1 := hb810.lt; have h2 := hq846; omega
      have hq854 := Nat.le_trans hN818.size hq846
      have hN855 := hN818.transNew hn833
      clear hs821 hd822 h823 h824 h825 h826 h829 h830 hb815 hb816 hq21 hb817 hb810 hq846 hN818 ha834 hn833
      obtain ⟨w856, -, hst857, hb858, hu859, hf860⟩ := s_two (v0 := iv ((mulM b c).1.k)) (v1 := iv ((mulM b c).1.n)) Tryd.sizeOf23 rfl rfl rfl hb847
      refine st_act rfl rfl fun K861 hL862 => a_store' rfl h844 h842 hst857 (hL862 _ _ trivial ?_)
      have hb863 := hf860 _ _ _ (hne851) hb848
      have hb864 := hf860 _ _ _ (hne852) hb849
      have hb865 := hf860 _ _ _ (hne853) hb850
      have hN866 := hN855.trans hu859 (fun k hk hkb => by subst hkb; omega)
      clear hb847 hst857 K861 hL862 hN855 hb848 hb849 hb850 hu859 hf860
      refine st_take rfl rfl (y_assign (v := .bool ((mulM b c).2)) rfl h843) rfl ?_
      obtain ⟨a867, ha868⟩ : ∃ a', a' = a831.put (some 18) (.bool ((mulM b c).2)) := ⟨_, rfl⟩
      have hs869 : a867.tmps.size = 111 := by rw [ha868, put_size]; exact hs835
      have hd870 : a867.defers = [] := by rw [ha868, put_defers]; exact hd836
      have h871 : a867.eval (.tmp 3) = pv q8 := by rw [ha868, put_ne _ _ _ _ (by decide)]; exact h837
      have h872 : a867.eval (.tmp 5) = pv q16 := by rw [ha868, put_ne _ _ _ _ (by decide)]; exact h838
      have h873 : a867.eval (.tmp 6) = .bool false := by rw [ha868, put_ne _ _ _ _ (by decide)]; exact h839
      have h874 : a867.eval (.tmp 15) = pv q797 := by rw [ha868, put_ne _ _ _ _ (by decide)]; exact h840
      have h875 : a867.eval (.tmp 16) = .bool ((mulM a b).2) := by rw [ha868, put_ne _ _ _ _ (by decide)]; exact h841
      have h876 : a867.eval (.tmp 75) = nv ((mulM b c).1) := by rw [ha868, put_ne _ _ _ _ (by decide)]; exact h842
      have h877 : a867.eval (.tmp 76) = .bool ((mulM b c).2) := by rw [ha868, put_ne _ _ _ _ (by decide)]; exact h843
      have h878 : a867.eval (.tmp 17) = pv q845 := by rw [ha868, put_ne _ _ _ _ (by decide)]; exact h844
      have h879 : a867.eval (.tmp 18) = .bool ((mulM b c).2) := by rw [ha868]; exact put_same _ _ _ (by rw [hs835]; decide)
      show stepsTo _ _ _ _ _ (a831.put (some 18) (.bool ((mulM b c).2))) _
      rw [← ha868]
      clear ha868 hs835 hd836 h837 h838 h839 h840 h841 h842 h843 h844
      clear hne851
      clear hne852
      clear hne853
      refine st_nil ?_
      clear h876 h877
      refine hK _ _ ?_
      clear hK K
      refine wp_seq_k fun K hK => ?_
      refine wp_g [true, true, true, true, true, true, true, false, false] [5] [(7, false), (8, true)] 111
        [ve (nv ((mulM a b).1)),
         ve (nv c),
         ve (.tuple #[nv ((mulM ((mulM a b).1) c).1), .bool ((mulM ((mulM a b).1) c).2)]),
         ve (.tuple #[nv ((mulM ((mulM a b).1) c).1), .bool ((mulM ((mulM a b).1) c).2)]),
         ve (nv ((mulM ((mulM a b).1) c).1)),
         ve (.bool ((mulM ((mulM a b).1) c).2)),
         IsNew w856 23 [iv 0, iv 0],
         vt,
         vt]
        [6] (newsCons (fun v w h => IsNew.old h) newsNil) hs869 (.eq (.eq (.eq (.eq (.eq (.eq (.nw (.tt (.tt (.nil)))))))))) ?_ ?_ ?_
      · skip
        refine .o1 (tk rfl rfl fun _ w hn k => ⟨_, v_load rfl (k.fx 15 h874) (l_two Tryd.isAgg23 Tryd.sizeOf23 (hb865.new_ hn)), rfl⟩) ?_
        refine .o1 (tk rfl rfl fun _ w hn k => ⟨_, v_load rfl (k.fx 5 h872) (l_two Tryd.isAgg23 Tryd.sizeOf23 (hb864.new_ hn)), rfl⟩) ?_
        refine .o1 (ck rfl rfl rfl (fun _ w hn k => ⟨#[nv ((mulM a b).1), nv c], args2 (k.eq1 0 78 rfl) (k.eq1 1 79 rfl), fun _ => by kernel_rfl, mul_c ((mulM a b).1) c _⟩) fun _ => rfl) ?_
        refine .o1 (tk rfl rfl fun _ w hn k => ⟨_, v_move rfl (k.eq1 2 80 rfl), rfl⟩) ?_
        refine .o1 (tk rfl rfl fun _ w hn k => ⟨_, v_extract rfl (k.eq1 3 77 rfl) rfl, rfl⟩) ?_
        refine .o3 ?_
        refine .o2 (step_allocN (cs := [iv 0, iv 0]) (t := 23) rfl (noG rfl) (fun _ w hn k => rfl) (fun q _ hq hb => ⟨q, rfl, hq, hb⟩)) ?_
        refine .off ?_
        refine .off ?_
        exact .nil
      · skip
        intro i h
        simp only [List.contains_eq_mem, List.mem_cons, List.not_mem_nil, or_false, decide_eq_true_eq] at h
        subst h
        · exact eager_take rfl rfl fun _ w hn k => ⟨.bool ((mulM ((mulM a b).1) c).2), fun w => v_extract rfl (k.eq1 3 77 rfl) rfl, rfl⟩
      intro a880 w881 hn882 ha883
      have hs884 := ha883.size.trans hs869
      have hd885 := ha883.defers.trans hd870
      have h886 := ha883.fx 3 h871
      have h887 := ha883.fx 6 h873
      have h888 := ha883.fx 16 h875
      have h889 := ha883.fx 17 h878
      have h890 := ha883.fx 18 h879
      have h891 := ha883.ge 4 81 rfl
      have h892 := ha883.ge 5 82 rfl
      obtain ⟨q894, h893, hq895, hb896⟩ : IsNew _ _ _ _ _ := ha883.got 6 19 rfl (by kernel_rfl)
      have hb897 := hb863.new_ hn882
      have hb898 := hb858.new_ hn882
      have hne899 : q8 ≠ q894 := by have h1 := hb863.lt; have h2 := hq895; omega
      have hne900 : q845 ≠ q894 := by have h1 := hb858.lt; have h2 := hq895; omega
      have hq901 := Nat.le_trans hN866.size hq895
      have hN902 := hN866.transNew hn882
      clear hs869 hd870 h871 h872 h873 h874 h875 h878 h879 hb863 hb864 hq22 hb865 hq806 hb858 hq895 hN866 ha883 hn882
      obtain ⟨w903, -, hst904, hb905, hu906, hf907⟩ := s_two (v0 := iv ((mulM ((mulM a b).1) c).1.k)) (v1 := iv ((mulM ((mulM a b).1) c).1.n)) Tryd.sizeOf23 rfl rfl rfl hb896
      refine st_act rfl rfl fun K908 hL909 => a_store' rfl h893 h891 hst904 (hL909 _ _ trivial ?_)
      have hb910 := hf907 _ _ _ (hne899) hb897
      have hb911 := hf907 _ _ _ (hne900) hb898
      have hN912 := hN902.trans hu906 (fun k hk hkb => by subst hkb; omega)
      clear hb896 hst904 K908 hL909 hN902 hb897 hb898 hu906 hf907
      refine st_take rfl rfl (y_assign (v := .bool ((mulM ((mulM a b).1) c).2)) rfl h892) rfl ?_
      obtain ⟨a913, ha914⟩ : ∃ a', a' = a880.put (some 20) (.bool ((mulM ((mulM a b).1) c).2)) := ⟨_, rfl⟩
      have hs915 : a913.tmps.size = 111 := by rw [ha914, put_size]; exact hs884
      have hd916 : a913.defers = [] := by rw [ha914, put_defers]; exact hd885
      have h917 : a913.eval (.tmp 3) = pv q8 := by rw [ha914, put_ne _ _ _ _ (by decide)]; exact h886
      have h918 : a913.eval (.tmp 6) = .bool false := by rw [ha914, put_ne _ _ _ _ (by decide)]; exact h887
      have h919 : a913.eval (.tmp 16) = .bool ((mulM a b).2) := by rw [ha914, put_ne _ _ _ _ (by decide)]; exact h888
      have h920 : a913.eval (.tmp 17) = pv q845 := by rw [ha914, put_ne _ _ _ _ (by decide)]; exact h889
      have h921 : a913.eval (.tmp 18) = .bool ((mulM b c).2) := by rw [ha914, put_ne _ _ _ _ (by decide)]; exact h890
      have h922 : a913.eval (.tmp 81) = nv ((mulM ((mulM a b).1) c).1) := by rw [ha914, put_ne _ _ _ _ (by decide)]; exact h891
      have h923 : a913.eval (.tmp 82) = .bool ((mulM ((mulM a b).1) c).2) := by rw [ha914, put_ne _ _ _ _ (by decide)]; exact h892
      have h924 : a913.eval (.tmp 19) = pv q894 := by rw [ha914, put_ne _ _ _ _ (by decide)]; exact h893
      have h925 : a913.eval (.tmp 20) = .bool ((mulM ((mulM a b).1) c).2) := by rw [ha914]; exact put_same _ _ _ (by rw [hs884]; decide)
      show stepsTo _ _ _ _ _ (a880.put (some 20) (.bool ((mulM ((mulM a b).1) c).2))) _
      rw [← ha914]
      clear ha914 hs884 hd885 h886 h887 h888 h889 h890 h891 h892 h893
      clear hne899
      clear hne900
      refine st_nil ?_
      clear h922 h923
      refine hK _ _ ?_
      clear hK K
      refine wp_seq_k fun K hK => ?_
      refine wp_g [true, true, true, true, true, true, true, false, false] [5] [(7, false), (8, true)] 111
        [ve (nv a),
         ve (nv ((mulM b c).1)),
         ve (.tuple #[nv ((mulM a ((mulM b c).1)).1), .bool ((mulM a ((mulM b c).1)).2)]),
         ve (.tuple #[nv ((mulM a ((mulM b c).1)).1), .bool ((mulM a ((mulM b c).1)).2)]),
         ve (nv ((mulM a ((mulM b c).1)).1)),
         ve (.bool ((mulM a ((mulM b c).1)).2)),
         IsNew w903 23 [iv 0, iv 0],
         vt,
         vt]
        [6] (newsCons (fun v w h => IsNew.old h) newsNil) hs915 (.eq (.eq (.eq (.eq (.eq (.eq (.nw (.tt (.tt (.nil)))))))))) ?_ ?_ ?_
      · skip
        refine .o1 (tk rfl rfl fun _ w hn k => ⟨_, v_load rfl (k.fx 3 h917) (l_two Tryd.isAgg23 Tryd.sizeOf23 (hb910.new_ hn)), rfl⟩) ?_
        refine .o1 (tk rfl rfl fun _ w hn k => ⟨_, v_load rfl (k.fx 17 h920) (l_two Tryd.isAgg23 Tryd.sizeOf23 (hb911.new_ hn)), rfl⟩) ?_
        refine .o1 (ck rfl rfl rfl (fun _ w hn k => ⟨#[nv a, nv ((mulM b c).1)], args2 (k.eq1 0 84 rfl) (k.eq1 1 85 rfl), fun _ => by kernel_rfl, mul_c a ((mulM b c).1) _⟩) fun _ => rfl) ?_
        refine .o1 (tk rfl rfl fun _ w hn k => ⟨_, v_move rfl (k.eq1 2 86 rfl), rfl⟩) ?_
        refine .o1 (tk rfl rfl fun _ w hn k => ⟨_, v_extract rfl (k.eq1 3 83 rfl) rfl, rfl⟩) ?_
        refine .o3 ?_
        refine .o2 (step_allocN (cs := [iv 0, iv 0]) (t := 23) rfl (noG rfl) (fun _ w hn k => rfl) (fun q _ hq hb => ⟨q, rfl, hq, hb⟩)) ?_
        refine .off ?_
        refine .off ?_
        exact .nil
      · skip
        intro i h
        simp only [List.contains_eq_mem, List.mem_cons, List.not_mem_nil, or_false, decide_eq_true_eq] at h
        subst h
        · exact eager_take rfl rfl fun _ w hn k => ⟨.bool ((mulM a ((mulM b c).1)).2), fun w => v_extract rfl (k.eq1 3 83 rfl) rfl, rfl⟩
      intro a926 w927 hn928 ha929
      have hs930 := ha929.size.trans hs915
      have hd931 := ha929.defers.trans hd916
      have h932 := ha929.fx 6 h918
      have h933 := ha929.fx 16 h919
      have h934 := ha929.fx 18 h921
      have h935 := ha929.fx 19 h924
      have h936 := ha929.fx 20 h925
      have h937 := ha929.ge 4 87 rfl
      have h938 := ha929.ge 5 88 rfl
      obtain ⟨q940, h939, hq941, hb942⟩ : IsNew _ _ _ _ _ := ha929.got 6 21 rfl (by kernel_rfl)
      have hb943 := hb905.new_ hn928
      have hne944 : q894 ≠ q940 := by have h1 := hb905.lt; have h2 := hq941; omega
      have hq945 := Nat.le_trans hN912.size hq941
      have hN946 := hN912.transNew hn928
      clear hs915 hd916 h917 h918 h919 h920 h921 h924 h925 hb910 hq20 hb911 hq854 hb905 hq941 hN912 ha929 hn928
      obtain ⟨w947, -, hst948, hb949, hu950, hf951⟩ := s_two (v0 := iv ((mulM a ((mulM b c).1)).1.k)) (v1 := iv ((mulM a ((mulM b c).1)).1.n)) Tryd.sizeOf23 rfl rfl rfl hb942
      refine st_act rfl rfl fun K952 hL953 => a_store' rfl h939 h937 hst948 (hL953 _ _ trivial ?_)
      have hb954 := hf951 _ _ _ (hne944) hb943
      have hN955 := hN946.trans hu950 (fun k hk hkb => by subst hkb; omega)
      clear hb942 hst948 K952 hL953 hN946 hb943 hu950 hf951
      refine st_take rfl rfl (y_assign (v := .bool ((mulM a ((mulM b c).1)).2)) rfl h938) rfl ?_
      obtain ⟨a956, ha957⟩ : ∃ a', a' = a926.put (some 22) (.bool ((mulM a ((mulM b c).1)).2)) := ⟨_, rfl⟩
      have hs958 : a956.tmps.size = 111 := by rw [ha957, put_size]; exact hs930
      have hd959 : a956.defers = [] := by rw [ha957, put_defers]; exact hd931
      have h960 : a956.eval (.tmp 6) = .bool false := by rw [ha957, put_ne _ _ _ _ (by decide)]; exact h932
      have h961 : a956.eval (.tmp 16) = .bool ((mulM a b).2) := by rw [ha957, put_ne _ _ _ _ (by decide)]; exact h933
      have h962 : a956.eval (.tmp 18) = .bool ((mulM b c).2) := by rw [ha957, put_ne _ _ _ _ (by decide)]; exact h934
      have h963 : a956.eval (.tmp 19) = pv q894 := by rw [ha957, put_ne _ _ _ _ (by decide)]; exact h935
      have h964 : a956.eval (.tmp 20) = .bool ((mulM ((mulM a b).1) c).2) := by rw [ha957, put_ne _ _ _ _ (by decide)]; exact h936
      have h965 : a956.eval (.tmp 87) = nv ((mulM a ((mulM b c).1)).1) := by rw [ha957, put_ne _ _ _ _ (by decide)]; exact h937
      have h966 : a956.eval (.tmp 88) = .bool ((mulM a ((mulM b c).1)).2) := by rw [ha957, put_ne _ _ _ _ (by decide)]; exact h938
      have h967 : a956.eval (.tmp 21) = pv q940 := by rw [ha957, put_ne _ _ _ _ (by decide)]; exact h939
      have h968 : a956.eval (.tmp 22) = .bool ((mulM a ((mulM b c).1)).2) := by rw [ha957]; exact put_same _ _ _ (by rw [hs930]; decide)
      show stepsTo _ _ _ _ _ (a926.put (some 22) (.bool ((mulM a ((mulM b c).1)).2))) _
      rw [← ha957]
      clear ha957 hs930 hd931 h932 h933 h934 h935 h936 h937 h938 h939
      clear hne944
      refine st_nil ?_
      clear h965 h966
      refine hK _ _ ?_
      clear hK K
      refine wp_seq_k fun K hK => ?_
      rcases Bool.eq_false_or_eq_true ((mulM a b).2) with ht969 | ht969
      · skip
        have hv970 : a956.eval (.tmp 16) = .bool true := h961.trans (congrArg Value.bool ht969)
        clear h961
        rcases Bool.eq_false_or_eq_true ((mulM b c).2) with ht971 | ht971
        · skip
          have hv972 : a956.eval (.tmp 18) = .bool true := h962.trans (congrArg Value.bool ht971)
          clear h962
          rcases Bool.eq_false_or_eq_true ((mulM ((mulM a b).1) c).2) with ht973 | ht973
          · skip
            have hv974 : a956.eval (.tmp 20) = .bool true := h964.trans (congrArg Value.bool ht973)
            clear h964
            rcases Bool.eq_false_or_eq_true ((mulM a ((mulM b c).1)).2) with ht975 | ht975
            · skip
              have hv976 : a956.eval (.tmp 22) = .bool true := h968.trans (congrArg Value.bool ht975)
              clear h968
              refine wp_g0 [true, true, true, true, true, true, true, true, true, true, true, true, true, true, true, true, true, true, true, true, true, true, true] [] 111
                [ve (.bool true),
                 ve (.bool true),
                 ve (.bool true),
                 ve (.bool false),
                 ve (.bool false),
                 ve (.bool true),
                 ve (.bool false),
                 ve (.bool false),
                 ve (.bool false),
                 ve (.bool true),
                 ve (.bool false),
                 ve (.bool false),
                 ve (.bool false),
                 ve (.bool true),
                 ve (.bool false),
                 ve (.bool false),
                 ve (.bool false),
                 ve (nv ((mulM ((mulM a b).1) c).1)),
                 ve (nv ((mulM a ((mulM b c).1)).1)),
                 ve (.bool (sameM ((mulM ((mulM a b).1) c).1) ((mulM a ((mulM b c).1)).1))),
                 ve (.bool (sameM ((mulM ((mulM a b).1) c).1) ((mulM a ((mulM b c).1)).1))),
                 ve (.bool (sameM ((mulM ((mulM a b).1) c).1) ((mulM a ((mulM b c).1)).1))),
                 ve (.bool (sameM ((mulM ((mulM a b).1) c).1) ((mulM a ((mulM b c).1)).1)))] hs958 (.eq (.eq (.eq (.eq (.eq (.eq (.eq (.eq (.eq (.eq (.eq (.eq (.eq (.eq (.eq (.eq (.eq (.eq (.eq (.eq (.eq (.eq (.eq (.nil)))))))))))))))))))))))) ?_ ?_
              · skip
                refine .o1 (ck rfl rfl rfl (fun _ w hn k => ⟨#[], rfl, fun _ => by kernel_rfl, first_c  _⟩) fun _ => rfl) ?_
                refine .o1 (tk rfl rfl fun _ w hn k => ⟨_, v_move rfl (k.eq1 0 89 rfl), rfl⟩) ?_
                refine .o1 (tg rfl rfl rfl (fun _ _ k => k.eq1 1 90 rfl) fun _ w hn k => ⟨_, v_move rfl (k.fx 16 hv970), rfl⟩) ?_
                refine .o1 (tg rfl rfl rfl (fun _ _ k => k.eq1 1 90 rfl) fun _ w hn k => ⟨_, v_not rfl (k.eq1 2 91 rfl), rfl⟩) ?_
                refine .o1 (tg rfl rfl rfl (fun _ _ k => k.eq1 1 90 rfl) fun _ w hn k => ⟨_, v_move rfl (k.eq1 3 92 rfl), rfl⟩) ?_
                refine .o1 (tg rfl rfl rfl (fun _ _ k => k.eq1 4 93 rfl) fun _ w hn k => ⟨_, v_move rfl (k.fx 18 hv972), rfl⟩) ?_
                refine .o1 (tg rfl rfl rfl (fun _ _ k => k.eq1 4 93 rfl) fun _ w hn k => ⟨_, v_not rfl (k.eq1 5 94 rfl), rfl⟩) ?_
                refine .o1 (tg rfl rfl rfl (fun _ _ k => k.eq1 1 90 rfl) fun _ w hn k => ⟨_, v_pickF rfl (k.eq1 4 93 rfl) (k.eq1 6 95 rfl), rfl⟩) ?_
                refine .o1 (tg rfl rfl rfl (fun _ _ k => k.eq1 1 90 rfl) fun _ w hn k => ⟨_, v_move rfl (k.eq1 7 96 rfl), rfl⟩) ?_
                refine .o1 (tg rfl rfl rfl (fun _ _ k => k.eq1 8 97 rfl) fun _ w hn k => ⟨_, v_move rfl (k.fx 20 hv974), rfl⟩) ?_
                refine .o1 (tg rfl rfl rfl (fun _ _ k => k.eq1 8 97 rfl) fun _ w hn k => ⟨_, v_not rfl (k.eq1 9 98 rfl), rfl⟩) ?_
                refine .o1 (tg rfl rfl rfl (fun _ _ k => k.eq1 1 90 rfl) fun _ w hn k => ⟨_, v_pickF rfl (k.eq1 8 97 rfl) (k.eq1 10 99 rfl), rfl⟩) ?_
                refine .o1 (tg rfl rfl rfl (fun _ _ k => k.eq1 1 90 rfl) fun _ w hn k => ⟨_, v_move rfl (k.eq1 11 100 rfl), rfl⟩) ?_
                refine .o1 (tg rfl rfl rfl (fun _ _ k => k.eq1 12 101 rfl) fun _ w hn k => ⟨_, v_move rfl (k.fx 22 hv976), rfl⟩) ?_
                refine .o1 (tg rfl rfl rfl (fun _ _ k => k.eq1 12 101 rfl) fun _ w hn k => ⟨_, v_not rfl (k.eq1 13 102 rfl), rfl⟩) ?_
                refine .o1 (tg rfl rfl rfl (fun _ _ k => k.eq1 1 90 rfl) fun _ w hn k => ⟨_, v_pickF rfl (k.eq1 12 101 rfl) (k.eq1 14 103 rfl), rfl⟩) ?_
                refine .o1 (tg rfl rfl rfl (fun _ _ k => k.eq1 1 90 rfl) fun _ w hn k => ⟨_, v_move rfl (k.eq1 15 104 rfl), rfl⟩) ?_
                refine .o1 (tg rfl rfl rfl (fun _ _ k => k.eq1 16 105 rfl) fun _ w hn k => ⟨_, v_load rfl (k.fx 19 h963) (l_two Tryd.isAgg23 Tryd.sizeOf23 (hb954.new_ hn)), rfl⟩) ?_
                refine .o1 (tg rfl rfl rfl (fun _ _ k => k.eq1 16 105 rfl) fun _ w hn k => ⟨_, v_load rfl (k.fx 21 h967) (l_two Tryd.isAgg23 Tryd.sizeOf23 (hb949.new_ hn)), rfl⟩) ?_
                refine .o1 (cg rfl rfl rfl (fun _ _ k => k.eq1 16 105 rfl) rfl (fun _ w hn k => ⟨#[nv ((mulM ((mulM a b).1) c).1), nv ((mulM a ((mulM b c).1)).1)], args2 (k.eq1 17 106 rfl) (k.eq1 18 107 rfl), fun _ => by kernel_rfl, same_c ((mulM ((mulM a b).1) c).1) ((mulM a ((mulM b c).1)).1) _⟩) fun _ => rfl) ?_
                refine .o1 (tg rfl rfl rfl (fun _ _ k => k.eq1 1 90 rfl) fun _ w hn k => ⟨_, v_pickF rfl (k.eq1 16 105 rfl) (k.eq1 19 108 rfl), rfl⟩) ?_
                refine .o1 (tk rfl rfl fun _ w hn k => ⟨_, v_pickT rfl (k.eq1 1 90 rfl) (k.eq1 20 109 rfl), rfl⟩) ?_
                refine .o1 (tk rfl rfl fun _ w hn k => ⟨_, v_assign rfl (k.eq1 21 110 rfl), rfl⟩) ?_
                exact .nil
              intro a977 w978 hn979 ha980
              have hs981 := ha980.size.trans hs958
              have hd982 := ha980.defers.trans hd959
              have h983 := ha980.ge 22 6 rfl
              have hN984 := hN955.transNew hn979
              clear hs958 hd959 h960 hv970 hv972 h963 hv974 h967 hv976 hb954 hq901 hb949 hq945 hN955 ha980 hn979
              refine st_nil ?_
              refine hK _ _ ?_
              clear hK K
              refine wp_ret (ret_k hd982 (v := .bool (sameM ((mulM ((mulM a b).1) c).1) ((mulM a ((mulM b c).1)).1))) (res_t rfl h983 _) ?_)
              exact ⟨congrArg (fun b => Ending.returned (.bool b)) (mul_assoc ht969 ht971 ht973 ht975), hN984⟩
            have hv985 : a956.eval (.tmp 22) = .bool false := h968.trans (congrArg Value.bool ht975)
            clear h968
            refine wp_g0 [true, true, true, true, true, true, true, true, true, true, true, true, true, true, true, true, true, true, true, true, true, true, true] [] 111
              [ve (.bool true),
               ve (.bool true),
               ve (.bool true),
               ve (.bool false),
               ve (.bool false),
               ve (.bool true),
               ve (.bool false),
               ve (.bool false),
               ve (.bool false),
               ve (.bool true),
               ve (.bool false),
               ve (.bool false),
               ve (.bool false),
               ve (.bool false),
               ve (.bool true),
               ve (.bool true),
               ve (.bool true),
               ve undef,
               ve undef,
               ve undef,
               ve (.bool true),
               ve (.bool true),
               ve (.bool true)] hs958 (.eq (.eq (.eq (.eq (.eq (.eq (.eq (.eq (.eq (.eq (.eq (.eq (.eq (.eq (.eq (.eq (.eq (.eq (.eq (.eq (.eq (.eq (.eq (.nil)))))))))))))))))))))))) ?_ ?_
            · skip
              refine .o1 (ck rfl rfl rfl (fun _ w hn k => ⟨#[], rfl, fun _ => by kernel_rfl, first_c  _⟩) fun _ => rfl) ?_
              refine .o1 (tk rfl rfl fun _ w hn k => ⟨_, v_move rfl (k.eq1 0 89 rfl), rfl⟩) ?_
              refine .o1 (tg rfl rfl rfl (fun _ _ k => k.eq1 1 90 rfl) fun _ w hn k => ⟨_, v_move rfl (k.fx 16 hv970), rfl⟩) ?_
              refine .o1 (tg rfl rfl rfl (fun _ _ k => k.eq1 1 90 rfl) fun _ w hn k => ⟨_, v_not rfl (k.eq1 2 91 rfl), rfl⟩) ?_
              refine .o1 (tg rfl rfl rfl (fun _ _ k => k.eq1 1 90 rfl) fun _ w hn k => ⟨_, v_move rfl (k.eq1 3 92 rfl), rfl⟩) ?_
              refine .o1 (tg rfl rfl rfl (fun _ _ k => k.eq1 4 93 rfl) fun _ w hn k => ⟨_, v_move rfl (k.fx 18 hv972), rfl⟩) ?_
              refine .o1 (tg rfl rfl rfl (fun _ _ k => k.eq1 4 93 rfl) fun _ w hn k => ⟨_, v_not rfl (k.eq1 5 94 rfl), rfl⟩) ?_
              refine .o1 (tg rfl rfl rfl (fun _ _ k => k.eq1 1 90 rfl) fun _ w hn k => ⟨_, v_pickF rfl (k.eq1 4 93 rfl) (k.eq1 6 95 rfl), rfl⟩) ?_
              refine .o1 (tg rfl rfl rfl (fun _ _ k => k.eq1 1 90 rfl) fun _ w hn k => ⟨_, v_move rfl (k.eq1 7 96 rfl), rfl⟩) ?_
              refine .o1 (tg rfl rfl rfl (fun _ _ k => k.eq1 8 97 rfl) fun _ w hn k => ⟨_, v_move rfl (k.fx 20 hv974), rfl⟩) ?_
              refine .o1 (tg rfl rfl rfl (fun _ _ k => k.eq1 8 97 rfl) fun _ w hn k => ⟨_, v_not rfl (k.eq1 9 98 rfl), rfl⟩) ?_
              refine .o1 (tg rfl rfl rfl (fun _ _ k => k.eq1 1 90 rfl) fun _ w hn k => ⟨_, v_pickF rfl (k.eq1 8 97 rfl) (k.eq1 10 99 rfl), rfl⟩) ?_
              refine .o1 (tg rfl rfl rfl (fun _ _ k => k.eq1 1 90 rfl) fun _ w hn k => ⟨_, v_move rfl (k.eq1 11 100 rfl), rfl⟩) ?_
              refine .o1 (tg rfl rfl rfl (fun _ _ k => k.eq1 12 101 rfl) fun _ w hn k => ⟨_, v_move rfl (k.fx 22 hv985), rfl⟩) ?_
              refine .o1 (tg rfl rfl rfl (fun _ _ k => k.eq1 12 101 rfl) fun _ w hn k => ⟨_, v_not rfl (k.eq1 13 102 rfl), rfl⟩) ?_
              refine .o1 (tg rfl rfl rfl (fun _ _ k => k.eq1 1 90 rfl) fun _ w hn k => ⟨_, v_pickF rfl (k.eq1 12 101 rfl) (k.eq1 14 103 rfl), rfl⟩) ?_
              refine .o1 (tg rfl rfl rfl (fun _ _ k => k.eq1 1 90 rfl) fun _ w hn k => ⟨_, v_move rfl (k.eq1 15 104 rfl), rfl⟩) ?_
              refine .o1 (sk rfl rfl rfl (fun _ _ _ k => k.eq1 16 105 rfl) (fun _ => rfl)) ?_
              refine .o1 (sk rfl rfl rfl (fun _ _ _ k => k.eq1 16 105 rfl) (fun _ => rfl)) ?_
              refine .o1 (sk rfl rfl rfl (fun _ _ _ k => k.eq1 16 105 rfl) (fun _ => rfl)) ?_
              refine .o1 (tg rfl rfl rfl (fun _ _ k => k.eq1 1 90 rfl) fun _ w hn k => ⟨_, v_pickT rfl (k.eq1 16 105 rfl) rfl, rfl⟩) ?_
              refine .o1 (tk rfl rfl fun _ w hn k => ⟨_, v_pickT rfl (k.eq1 1 90 rfl) (k.eq1 20 109 rfl), rfl⟩) ?_
              refine .o1 (tk rfl rfl fun _ w hn k => ⟨_, v_assign rfl (k.eq1 21 110 rfl), rfl⟩) ?_
              exact .nil
            intro a986 w987 hn988 ha989
            have hs990 := ha989.size.trans hs958
            have hd991 := ha989.defers.trans hd959
            have h992 := ha989.ge 22 6 rfl
            have hN993 := hN955.transNew hn988
            clear hs958 hd959 h960 hv970 hv972 h963 hv974 h967 hv985 hb954 hq901 hb949 hq945 hN955 ha989 hn988
            refine st_nil ?_
            refine hK _ _ ?_
            clear hK K
            refine wp_ret (ret_k hd991 (v := .bool true) (res_t rfl h992 _) ?_)
            exact ⟨rfl, hN993⟩
          have hv994 : a956.eval (.tmp 20) = .bool false := h964.trans (congrArg Value.bool ht973)
          clear h964
          refine wp_g0 [true, true, true, true, true, true, true, true, true, true, true, true, true, true, true, true, true, true, true, true, true, true, true] [] 111
            [ve (.bool true),
             ve (.bool true),
             ve (.bool true),
             ve (.bool false),
             ve (.bool false),
             ve (.bool true),
             ve (.bool false),
             ve (.bool false),
             ve (.bool false),
             ve (.bool false),
             ve (.bool true),
             ve (.bool true),
             ve (.bool true),
             ve undef,
             ve undef,
             ve (.bool true),
             ve (.bool true),
             ve undef,
             ve undef,
             ve undef,
             ve (.bool true),
             ve (.bool true),
             ve (.bool true)] hs958 (.eq (.eq (.eq (.eq (.eq (.eq (.eq (.eq (.eq (.eq (.eq (.eq (.eq (.eq (.eq (.eq (.eq (.eq (.eq (.eq (.eq (.eq (.eq (.nil)))))))))))))))))))))))) ?_ ?_
          · skip
            refine .o1 (ck rfl rfl rfl (fun _ w hn k => ⟨#[], rfl, fun _ => by kernel_rfl, first_c  _⟩) fun _ => rfl) ?_
            refine .o1 (tk rfl rfl fun _ w hn k => ⟨_, v_move rfl (k.eq1 0 89 rfl), rfl⟩) ?_
            refine .o1 (tg rfl rfl rfl (fun _ _ k => k.eq1 1 90 rfl) fun _ w hn k => ⟨_, v_move rfl (k.fx 16 hv970), rfl⟩) ?_
            refine .o1 (tg rfl rfl rfl (fun _ _ k => k.eq1 1 90 rfl) fun _ w hn k => ⟨_, v_not rfl (k.eq1 2 91 rfl), rfl⟩) ?_
            refine .o1 (tg rfl rfl rfl (fun _ _ k => k.eq1 1 90 rfl) fun _ w hn k => ⟨_, v_move rfl (k.eq1 3 92 rfl), rfl⟩) ?_
            refine .o1 (tg rfl rfl rfl (fun _ _ k => k.eq1 4 93 rfl) fun _ w hn k => ⟨_, v_move rfl (k.fx 18 hv972), rfl⟩) ?_
            refine .o1 (tg rfl rfl rfl (fun _ _ k => k.eq1 4 93 rfl) fun _ w hn k => ⟨_, v_not rfl (k.eq1 5 94 rfl), rfl⟩) ?_
            refine .o1 (tg rfl rfl rfl (fun _ _ k => k.eq1 1 90 rfl) fun _ w hn k => ⟨_, v_pickF rfl (k.eq1 4 93 rfl) (k.eq1 6 95 rfl), rfl⟩) ?_
            refine .o1 (tg rfl rfl rfl (fun _ _ k => k.eq1 1 90 rfl) fun _ w hn k => ⟨_, v_move rfl (k.eq1 7 96 rfl), rfl⟩) ?_
            refine .o1 (tg rfl rfl rfl (fun _ _ k => k.eq1 8 97 rfl) fun _ w hn k => ⟨_, v_move rfl (k.fx 20 hv994), rfl⟩) ?_
            refine .o1 (tg rfl rfl rfl (fun _ _ k => k.eq1 8 97 rfl) fun _ w hn k => ⟨_, v_not rfl (k.eq1 9 98 rfl), rfl⟩) ?_
            refine .o1 (tg rfl rfl rfl (fun _ _ k => k.eq1 1 90 rfl) fun _ w hn k => ⟨_, v_pickF rfl (k.eq1 8 97 rfl) (k.eq1 10 99 rfl), rfl⟩) ?_
            refine .o1 (tg rfl rfl rfl (fun _ _ k => k.eq1 1 90 rfl) fun _ w hn k => ⟨_, v_move rfl (k.eq1 11 100 rfl), rfl⟩) ?_
            refine .o1 (sk rfl rfl rfl (fun _ _ _ k => k.eq1 12 101 rfl) (fun _ => rfl)) ?_
            refine .o1 (sk rfl rfl rfl (fun _ _ _ k => k.eq1 12 101 rfl) (fun _ => rfl)) ?_
            refine .o1 (tg rfl rfl rfl (fun _ _ k => k.eq1 1 90 rfl) fun _ w hn k => ⟨_, v_pickT rfl (k.eq1 12 101 rfl) rfl, rfl⟩) ?_
            refine .o1 (tg rfl rfl rfl (fun _ _ k => k.eq1 1 90 rfl) fun _ w hn k => ⟨_, v_move rfl (k.eq1 15 104 rfl), rfl⟩) ?_
            refine .o1 (sk rfl rfl rfl (fun _ _ _ k => k.eq1 16 105 rfl) (fun _ => rfl)) ?_
            refine .o1 (sk rfl rfl rfl (fun _ _ _ k => k.eq1 16 105 rfl) (fun _ => rfl)) ?_
            refine .o1 (sk rfl rfl rfl (fun _ _ _ k => k.eq1 16 105 rfl) (fun _ => rfl)) ?_
            refine .o1 (tg rfl rfl rfl (fun _ _ k => k.eq1 1 90 rfl) fun _ w hn k => ⟨_, v_pickT rfl (k.eq1 16 105 rfl) rfl, rfl⟩) ?_
            refine .o1 (tk rfl rfl fun _ w hn k => ⟨_, v_pickT rfl (k.eq1 1 90 rfl) (k.eq1 20 109 rfl), rfl⟩) ?_
            refine .o1 (tk rfl rfl fun _ w hn k => ⟨_, v_assign rfl (k.eq1 21 110 rfl), rfl⟩) ?_
            exact .nil
          intro a995 w996 hn997 ha998
          have hs999 := ha998.size.trans hs958
          have hd1000 := ha998.defers.trans hd959
          have h1001 := ha998.ge 22 6 rfl
          have hN1002 := hN955.transNew hn997
          clear hs958 hd959 h960 hv970 hv972 h963 hv994 h967 h968 hb954 hq901 hb949 hq945 hN955 ha998 hn997
          refine st_nil ?_
          refine hK _ _ ?_
          clear hK K
          refine wp_ret (ret_k hd1000 (v := .bool true) (res_t rfl h1001 _) ?_)
          exact ⟨rfl, hN1002⟩
        have hv1003 : a956.eval (.tmp 18) = .bool false := h962.trans (congrArg Value.bool ht971)
        clear h962
        refine wp_g0 [true, true, true, true, true, true, true, true, true, true, true, true, true, true, true, true, true, true, true, true, true, true, true] [] 111
          [ve (.bool true),
           ve (.bool true),
           ve (.bool true),
           ve (.bool false),
           ve (.bool false),
           ve (.bool false),
           ve (.bool true),
           ve (.bool true),
           ve (.bool true),
           ve undef,
           ve undef,
           ve (.bool true),
           ve (.bool true),
           ve undef,
           ve undef,
           ve (.bool true),
           ve (.bool true),
           ve undef,
           ve undef,
           ve undef,
           ve (.bool true),
           ve (.bool true),
           ve (.bool true)] hs958 (.eq (.eq (.eq (.eq (.eq (.eq (.eq (.eq (.eq (.eq (.eq (.eq (.eq (.eq (.eq (.eq (.eq (.eq (.eq (.eq (.eq (.eq (.eq (.nil)))))))))))))))))))))))) ?_ ?_
        · skip
          refine .o1 (ck rfl rfl rfl (fun _ w hn k => ⟨#[], rfl, fun _ => by kernel_rfl, first_c  _⟩) fun _ => rfl) ?_
          refine .o1 (tk rfl rfl fun _ w hn k => ⟨_, v_move rfl (k.eq1 0 89 rfl), rfl⟩) ?_
          refine .o1 (tg rfl rfl rfl (fun _ _ k => k.eq1 1 90 rfl) fun _ w hn k => ⟨_, v_move rfl (k.fx 16 hv970), rfl⟩) ?_
          refine .o1 (tg rfl rfl rfl (fun _ _ k => k.eq1 1 90 rfl) fun _ w hn k => ⟨_, v_not rfl (k.eq1 2 91 rfl), rfl⟩) ?_
          refine .o1 (tg rfl rfl rfl (fun _ _ k => k.eq1 1 90 rfl) fun _ w hn k => ⟨_, v_move rfl (k.eq1 3 92 rfl), rfl⟩) ?_
          refine .o1 (tg rfl rfl rfl (fun _ _ k => k.eq1 4 93 rfl) fun _ w hn k => ⟨_, v_move rfl (k.fx 18 hv1003), rfl⟩) ?_
          refine .o1 (tg rfl rfl rfl (fun _ _ k => k.eq1 4 93 rfl) fun _ w hn k => ⟨_, v_not rfl (k.eq1 5 94 rfl), rfl⟩) ?_
          refine .o1 (tg rfl rfl rfl (fun _ _ k => k.eq1 1 90 rfl) fun _ w hn k => ⟨_, v_pickF rfl (k.eq1 4 93 rfl) (k.eq1 6 95 rfl), rfl⟩) ?_
          refine .o1 (tg rfl rfl rfl (fun _ _ k => k.eq1 1 90 rfl) fun _ w hn k => ⟨_, v_move rfl (k.eq1 7 96 rfl), rfl⟩) ?_
          refine .o1 (sk rfl rfl rfl (fun _ _ _ k => k.eq1 8 97 rfl) (fun _ => rfl)) ?_
          refine .o1 (sk rfl rfl rfl (fun _ _ _ k => k.eq1 8 97 rfl) (fun _ => rfl)) ?_
          refine .o1 (tg rfl rfl rfl (fun _ _ k => k.eq1 1 90 rfl) fun _ w hn k => ⟨_, v_pickT rfl (k.eq1 8 97 rfl) rfl, rfl⟩) ?_
          refine .o1 (tg rfl rfl rfl (fun _ _ k => k.eq1 1 90 rfl) fun _ w hn k => ⟨_, v_move rfl (k.eq1 11 100 rfl), rfl⟩) ?_
          refine .o1 (sk rfl rfl rfl (fun _ _ _ k => k.eq1 12 101 rfl) (fun _ => rfl)) ?_
          refine .o1 (sk rfl rfl rfl (fun _ _ _ k => k.eq1 12 101 rfl) (fun _ => rfl)) ?_
          refine .o1 (tg rfl rfl rfl (fun _ _ k => k.eq1 1 90 rfl) fun _ w hn k => ⟨_, v_pickT rfl (k.eq1 12 101 rfl) rfl, rfl⟩) ?_
          refine .o1 (tg rfl rfl rfl (fun _ _ k => k.eq1 1 90 rfl) fun _ w hn k => ⟨_, v_move rfl (k.eq1 15 104 rfl), rfl⟩) ?_
          refine .o1 (sk rfl rfl rfl (fun _ _ _ k => k.eq1 16 105 rfl) (fun _ => rfl)) ?_
          refine .o1 (sk rfl rfl rfl (fun _ _ _ k => k.eq1 16 105 rfl) (fun _ => rfl)) ?_
          refine .o1 (sk rfl rfl rfl (fun _ _ _ k => k.eq1 16 105 rfl) (fun _ => rfl)) ?_
          refine .o1 (tg rfl rfl rfl (fun _ _ k => k.eq1 1 90 rfl) fun _ w hn k => ⟨_, v_pickT rfl (k.eq1 16 105 rfl) rfl, rfl⟩) ?_
          refine .o1 (tk rfl rfl fun _ w hn k => ⟨_, v_pickT rfl (k.eq1 1 90 rfl) (k.eq1 20 109 rfl), rfl⟩) ?_
          refine .o1 (tk rfl rfl fun _ w hn k => ⟨_, v_assign rfl (k.eq1 21 110 rfl), rfl⟩) ?_
          exact .nil
        intro a1004 w1005 hn1006 ha1007
        have hs1008 := ha1007.size.trans hs958
        have hd1009 := ha1007.defers.trans hd959
        have h1010 := ha1007.ge 22 6 rfl
        have hN1011 := hN955.transNew hn1006
        clear hs958 hd959 h960 hv970 hv1003 h963 h964 h967 h968 hb954 hq901 hb949 hq945 hN955 ha1007 hn1006
        refine st_nil ?_
        refine hK _ _ ?_
        clear hK K
        refine wp_ret (ret_k hd1009 (v := .bool true) (res_t rfl h1010 _) ?_)
        exact ⟨rfl, hN1011⟩
      have hv1012 : a956.eval (.tmp 16) = .bool false := h961.trans (congrArg Value.bool ht969)
      clear h961
      refine wp_g0 [true, true, true, true, true, true, true, true, true, true, true, true, true, true, true, true, true, true, true, true, true, true, true] [] 111
        [ve (.bool true),
         ve (.bool true),
         ve (.bool false),
         ve (.bool true),
         ve (.bool true),
         ve undef,
         ve undef,
         ve (.bool true),
         ve (.bool true),
         ve undef,
         ve undef,
         ve (.bool true),
         ve (.bool true),
         ve undef,
         ve undef,
         ve (.bool true),
         ve (.bool true),
         ve undef,
         ve undef,
         ve undef,
         ve (.bool true),
         ve (.bool true),
         ve (.bool true)] hs958 (.eq (.eq (.eq (.eq (.eq (.eq (.eq (.eq (.eq (.eq (.eq (.eq (.eq (.eq (.eq (.eq (.eq (.eq (.eq (.eq (.eq (.eq (.eq (.nil)))))))))))))))))))))))) ?_ ?_
      · skip
        refine .o1 (ck rfl rfl rfl (fun _ w hn k => ⟨#[], rfl, fun _ => by kernel_rfl, first_c  _⟩) fun _ => rfl) ?_
        refine .o1 (tk rfl rfl fun _ w hn k => ⟨_, v_move rfl (k.eq1 0 89 rfl), rfl⟩) ?_
        refine .o1 (tg rfl rfl rfl (fun _ _ k => k.eq1 1 90 rfl) fun _ w hn k => ⟨_, v_move rfl (k.fx 16 hv1012), rfl⟩) ?_
        refine .o1 (tg rfl rfl rfl (fun _ _ k => k.eq1 1 90 rfl) fun _ w hn k => ⟨_, v_not rfl (k.eq1 2 91 rfl), rfl⟩) ?_
        refine .o1 (tg rfl rfl rfl (fun _ _ k => k.eq1 1 90 rfl) fun _ w hn k => ⟨_, v_move rfl (k.eq1 3 92 rfl), rfl⟩) ?_
        refine .o1 (sk rfl rfl rfl (fun _ _ _ k => k.eq1 4 93 rfl) (fun _ => rfl)) ?_
        refine .o1 (sk rfl rfl rfl (fun _ _ _ k => k.eq1 4 93 rfl) (fun _ => rfl)) ?_
        refine .o1 (tg rfl rfl rfl (fun _ _ k => k.eq1 1 90 rfl) fun _ w hn k => ⟨_, v_pickT rfl (k.eq1 4 93 rfl) rfl, rfl⟩) ?_
        refine .o1 (tg rfl rfl rfl (fun _ _ k => k.eq1 1 90 rfl) fun _ w hn k => ⟨_, v_move rfl (k.eq1 7 96 rfl), rfl⟩) ?_
        refine .o1 (sk rfl rfl rfl (fun _ _ _ k => k.eq1 8 97 rfl) (fun _ => rfl)) ?_
        refine .o1 (sk rfl rfl rfl (fun _ _ _ k => k.eq1 8 97 rfl) (fun _ => rfl)) ?_
        refine .o1 (tg rfl rfl rfl (fun _ _ k => k.eq1 1 90 rfl) fun _ w hn k => ⟨_, v_pickT rfl (k.eq1 8 97 rfl) rfl, rfl⟩) ?_
        refine .o1 (tg rfl rfl rfl (fun _ _ k => k.eq1 1 90 rfl) fun _ w hn k => ⟨_, v_move rfl (k.eq1 11 100 rfl), rfl⟩) ?_
        refine .o1 (sk rfl rfl rfl (fun _ _ _ k => k.eq1 12 101 rfl) (fun _ => rfl)) ?_
        refine .o1 (sk rfl rfl rfl (fun _ _ _ k => k.eq1 12 101 rfl) (fun _ => rfl)) ?_
        refine .o1 (tg rfl rfl rfl (fun _ _ k => k.eq1 1 90 rfl) fun _ w hn k => ⟨_, v_pickT rfl (k.eq1 12 101 rfl) rfl, rfl⟩) ?_
        refine .o1 (tg rfl rfl rfl (fun _ _ k => k.eq1 1 90 rfl) fun _ w hn k => ⟨_, v_move rfl (k.eq1 15 104 rfl), rfl⟩) ?_
        refine .o1 (sk rfl rfl rfl (fun _ _ _ k => k.eq1 16 105 rfl) (fun _ => rfl)) ?_
        refine .o1 (sk rfl rfl rfl (fun _ _ _ k => k.eq1 16 105 rfl) (fun _ => rfl)) ?_
        refine .o1 (sk rfl rfl rfl (fun _ _ _ k => k.eq1 16 105 rfl) (fun _ => rfl)) ?_
        refine .o1 (tg rfl rfl rfl (fun _ _ k => k.eq1 1 90 rfl) fun _ w hn k => ⟨_, v_pickT rfl (k.eq1 16 105 rfl) rfl, rfl⟩) ?_
        refine .o1 (tk rfl rfl fun _ w hn k => ⟨_, v_pickT rfl (k.eq1 1 90 rfl) (k.eq1 20 109 rfl), rfl⟩) ?_
        refine .o1 (tk rfl rfl fun _ w hn k => ⟨_, v_assign rfl (k.eq1 21 110 rfl), rfl⟩) ?_
        exact .nil
      intro a1013 w1014 hn1015 ha1016
      have hs1017 := ha1016.size.trans hs958
      have hd1018 := ha1016.defers.trans hd959
      have h1019 := ha1016.ge 22 6 rfl
      have hN1020 := hN955.transNew hn1015
      clear hs958 hd959 h960 hv1012 h962 h963 h964 h967 h968 hb954 hq901 hb949 hq945 hN955 ha1016 hn1015
      refine st_nil ?_
      refine hK _ _ ?_
      clear hK K
      refine wp_ret (ret_k hd1018 (v := .bool true) (res_t rfl h1019 _) ?_)
      exact ⟨rfl, hN1020⟩
    have hv1021 : a238.eval (.tmp 10) = .bool false := h247.trans (congrArg Value.bool ht256)
    clear h247
    refine wp_g0 [true, true, true, true, true, true, true, true, true, true, true, true, true, true, true, true] [] 111
      [ve (.bool true),
       ve (.bool true),
       ve (.bool false),
       ve (.bool false),
       ve (.bool false),
       ve undef,
       ve (.bool false),
       ve (.bool false),
       ve undef,
       ve (.bool false),
       ve (.bool false),
       ve undef,
       ve undef,
       ve undef,
       ve undef,
       ve (.bool false)] hs240 (.eq (.eq (.eq (.eq (.eq (.eq (.eq (.eq (.eq (.eq (.eq (.eq (.eq (.eq (.eq (.eq (.nil))))))))))))))))) ?_ ?_
    · skip
      refine .o1 (tk rfl rfl fun _ w hn k => ⟨_, v_move rfl (k.fx 8 hv255), rfl⟩) ?_
      refine .o1 (tk rfl rfl fun _ w hn k => ⟨_, v_move rfl (k.eq1 0 49 rfl), rfl⟩) ?_
      refine .o1 (tg rfl rfl rfl (fun _ _ k => k.eq1 1 50 rfl) fun _ w hn k => ⟨_, v_move rfl (k.fx 10 hv1021), rfl⟩) ?_
      refine .o1 (tk rfl rfl fun _ w hn k => ⟨_, v_pickT rfl (k.eq1 1 50 rfl) (k.eq1 2 51 rfl), rfl⟩) ?_
      refine .o1 (tk rfl rfl fun _ w hn k => ⟨_, v_move rfl (k.eq1 3 52 rfl), rfl⟩) ?_
      refine .o1 (sk rfl rfl rfl (fun _ _ _ k => k.eq1 4 53 rfl) (fun _ => rfl)) ?_
      refine .o1 (tk rfl rfl fun _ w hn k => ⟨_, v_pickF rfl (k.eq1 4 53 rfl) rfl, rfl⟩) ?_
      refine .o1 (tk rfl rfl fun _ w hn k => ⟨_, v_move rfl (k.eq1 6 55 rfl), rfl⟩) ?_
      refine .o1 (sk rfl rfl rfl (fun _ _ _ k => k.eq1 7 56 rfl) (fun _ => rfl)) ?_
      refine .o1 (tk rfl rfl fun _ w hn k => ⟨_, v_pickF rfl (k.eq1 7 56 rfl) rfl, rfl⟩) ?_
      refine .o1 (tk rfl rfl fun _ w hn k => ⟨_, v_move rfl (k.eq1 9 58 rfl), rfl⟩) ?_
      refine .o1 (sk rfl rfl rfl (fun _ _ _ k => k.eq1 10 59 rfl) (fun _ => rfl)) ?_
      refine .o1 (sk rfl rfl rfl (fun _ _ _ k => k.eq1 10 59 rfl) (fun _ => rfl)) ?_
      refine .o1 (sk rfl rfl rfl (fun _ _ _ k => k.eq1 10 59 rfl) (fun _ => rfl)) ?_
      refine .o1 (sk rfl rfl rfl (fun _ _ _ k => k.eq1 10 59 rfl) (fun _ => rfl)) ?_
      refine .o1 (tk rfl rfl fun _ w hn k => ⟨_, v_pickF rfl (k.eq1 10 59 rfl) rfl, rfl⟩) ?_
      exact .nil
    intro a1022 w1023 hn1024 ha1025
    have hs1026 := ha1025.size.trans hs240
    have hd1027 := ha1025.defers.trans hd241
    have h1028 := ha1025.fx 3 h242
    have h1029 := ha1025.fx 4 h243
    have h1030 := ha1025.fx 5 h244
    have h1031 := ha1025.fx 6 h245
    have h1032 := ha1025.ge 15 64 rfl
    have hb1033 := hb233.new_ hn1024
    have hb1034 := hb234.new_ hn1024
    have hb1035 := hb235.new_ hn1024
    have hN1036 := hN237.transNew hn1024
    clear hs240 hd241 h242 h243 h244 h245 hv255 hv1021 h248 h249 h252 h253 hb233 hb234 hb235 hb236 hq167 hb228 hq224 hN237 ha1025 hn1024
    refine st_nil ?_
    refine hK _ _ ?_
    clear hK K
    refine wp_cond_false h1032 ?_
    refine wp_skip ?_
    refine hK _ _ ?_
    clear hK K
    refine wp_seq_k fun K hK => ?_
    refine wp_g [true, true, true, true, true, true, true, false, false] [5] [(7, false), (8, true)] 111
      [ve (nv a),
       ve (nv b),
       ve (.tuple #[nv ((mulM a b).1), .bool ((mulM a b).2)]),
       ve (.tuple #[nv ((mulM a b).1), .bool ((mulM a b).2)]),
       ve (nv ((mulM a b).1)),
       ve (.bool ((mulM a b).2)),
       IsNew w1023 23 [iv 0, iv 0],
       vt,
       vt]
      [6] (newsCons (fun v w h => IsNew.old h) newsNil) hs1026 (.eq (.eq (.eq (.eq (.eq (.eq (.nw (.tt (.tt (.nil)))))))))) ?_ ?_ ?_
    · skip
      refine .o1 (tk rfl rfl fun _ w hn k => ⟨_, v_load rfl (k.fx 3 h1028) (l_two Tryd.isAgg23 Tryd.sizeOf23 (hb1033.new_ hn)), rfl⟩) ?_
      refine .o1 (tk rfl rfl fun _ w hn k => ⟨_, v_load rfl (k.fx 4 h1029) (l_two Tryd.isAgg23 Tryd.sizeOf23 (hb1034.new_ hn)), rfl⟩) ?_
      refine .o1 (ck rfl rfl rfl (fun _ w hn k => ⟨#[nv a, nv b], args2 (k.eq1 0 66 rfl) (k.eq1 1 67 rfl), fun _ => by kernel_rfl, mul_c a b _⟩) fun _ => rfl) ?_
      refine .o1 (tk rfl rfl fun _ w hn k => ⟨_, v_move rfl (k.eq1 2 68 rfl), rfl⟩) ?_
      refine .o1 (tk rfl rfl fun _ w hn k => ⟨_, v_extract rfl (k.eq1 3 65 rfl) rfl, rfl⟩) ?_
      refine .o3 ?_
      refine .o2 (step_allocN (cs := [iv 0, iv 0]) (t := 23) rfl (noG rfl) (fun _ w hn k => rfl) (fun q _ hq hb => ⟨q, rfl, hq, hb⟩)) ?_
      refine .off ?_
      refine .off ?_
      exact .nil
    · skip
      intro i h
      simp only [List.contains_eq_mem, List.mem_cons, List.not_mem_nil, or_false, decide_eq_true_eq] at h
      subst h
      · exact eager_take rfl rfl fun _ w hn k => ⟨.bool ((mulM a b).2), fun w => v_extract rfl (k.eq1 3 65 rfl) rfl, rfl⟩
    intro a1037 w1038 hn1039 ha1040
    have hs1041 := ha1040.size.trans hs1026
    have hd1042 := ha1040.defers.trans hd1027
    have h1043 := ha1040.fx 3 h1028
    have h1044 := ha1040.fx 4 h1029
    have h1045 := ha1040.fx 5 h1030
    have h1046 := ha1040.fx 6 h1031
    have h1047 := ha1040.ge 4 69 rfl
    have h1048 := ha1040.ge 5 70 rfl
    obtain ⟨q1050, h1049, hq1051, hb1052⟩ : IsNew _ _ _ _ _ := ha1040.got 6 15 rfl (by kernel_rfl)
    have hb1053 := hb1033.new_ hn1039
    have hb1054 := hb1034.new_ hn1039
    have hb1055 := hb1035.new_ hn1039
    have hne1056 : q8 ≠ q1050 := by have h1 := hb1033.lt; have h2 := hq1051; omega
    have hne1057 : q12 ≠ q1050 := by have h1 := hb1034.lt; have h2 := hq1051; omega
    have hne1058 : q16 ≠ q1050 := by have h1 := hb1035.lt; have h2 := hq1051; omega
    have hq1059 := Nat.le_trans hN1036.size hq1051
    have hN1060 := hN1036.transNew hn1039
    clear hs1026 hd1027 h1028 h1029 h1030 h1031 h1032 hb1033 hb1034 hb1035 hq1051 hN1036 ha1040 hn1039
    obtain ⟨w1061, -, hst1062, hb1063, hu1064, hf1065⟩ := s_two (v0 := iv ((mulM a b).1.k)) (v1 := iv ((mulM a b).1.n)) Tryd.sizeOf23 rfl rfl rfl hb1052
    refine st_act rfl rfl fun K1066 hL1067 => a_store' rfl h1049 h1047 hst1062 (hL1067 _ _ trivial ?_)
    have hb1068 := hf1065 _ _ _ (hne1056) hb1053
    have hb1069 := hf1065 _ _ _ (hne1057) hb1054
    have hb1070 := hf1065 _ _ _ (hne1058) hb1055
    have hN1071 := hN1060.trans hu1064 (fun k hk hkb => by subst hkb; omega)
    clear hb1052 hst1062 K1066 hL1067 hN1060 hb1053 hb1054 hb1055 hu1064 hf1065
    refine st_take rfl rfl (y_assign (v := .bool ((mulM a b).2)) rfl h1048) rfl ?_
    obtain ⟨a1072, ha1073⟩ : ∃ a', a' = a1037.put (some 16) (.bool ((mulM a b).2)) := ⟨_, rfl⟩
    have hs1074 : a1072.tmps.size = 111 := by rw [ha1073, put_size]; exact hs1041
    have hd1075 : a1072.defers = [] := by rw [ha1073, put_defers]; exact hd1042
    have h1076 : a1072.eval (.tmp 3) = pv q8 := by rw [ha1073, put_ne _ _ _ _ (by decide)]; exact h1043
    have h1077 : a1072.eval (.tmp 4) = pv q12 := by rw [ha1073, put_ne _ _ _ _ (by decide)]; exact h1044
    have h1078 : a1072.eval (.tmp 5) = pv q16 := by rw [ha1073, put_ne _ _ _ _ (by decide)]; exact h1045
    have h1079 : a1072.eval (.tmp 6) = .bool false := by rw [ha1073, put_ne _ _ _ _ (by decide)]; exact h1046
    have h1080 : a1072.eval (.tmp 69) = nv ((mulM a b).1) := by rw [ha1073, put_ne _ _ _ _ (by decide)]; exact h1047
    have h1081 : a1072.eval (.tmp 70) = .bool ((mulM a b).2) := by rw [ha1073, put_ne _ _ _ _ (by decide)]; exact h1048
    have h1082 : a1072.eval (.tmp 15) = pv q1050 := by rw [ha1073, put_ne _ _ _ _ (by decide)]; exact h1049
    have h1083 : a1072.eval (.tmp 16) = .bool ((mulM a b).2) := by rw [ha1073]; exact put_same _ _ _ (by rw [hs1041]; decide)
    show stepsTo _ _ _ _ _ (a1037.put (some 16) (.bool ((mulM a b).2))) _
    rw [← ha1073]
    clear ha1073 hs1041 hd1042 h1043 h1044 h1045 h1046 h1047 h1048 h1049
    clear hne1056
    clear hne1057
    clear hne1058
    refine st_nil ?_
    clear h1080 h1081
    refine hK _ _ ?_
    clear hK K
    refine wp_seq_k fun K hK => ?_
    refine wp_g [true, true, true, true, true, true, true, false, false] [5] [(7, false), (8, true)] 111
      [ve (nv b),
       ve (nv c),
       ve (.tuple #[nv ((mulM b c).1), .bool ((mulM b c).2)]),
       ve (.tuple #[nv ((mulM b c).1), .bool ((mulM b c).2)]),
       ve (nv ((mulM b c).1)),
       ve (.bool ((mulM b c).2)),
       IsNew w1061 23 [iv 0, iv 0],
       vt,
       vt]
      [6] (newsCons (fun v w h => IsNew.old h) newsNil) hs1074 (.eq (.eq (.eq (.eq (.eq (.eq (.nw (.tt (.tt (.nil)))))))))) ?_ ?_ ?_
    · skip
      refine .o1 (tk rfl rfl fun _ w hn k => ⟨_, v_load rfl (k.fx 4 h1077) (l_two Tryd.isAgg23 Tryd.sizeOf23 (hb1069.new_ hn)), rfl⟩) ?_
      refine .o1 (tk rfl rfl fun _ w hn k => ⟨_, v_load rfl (k.fx 5 h1078) (l_two Tryd.isAgg23 Tryd.sizeOf23 (hb1070.new_ hn)), rfl⟩) ?_
      refine .o1 (ck rfl rfl rfl (fun _ w hn k => ⟨#[nv b, nv c], args2 (k.eq1 0 72 rfl) (k.eq1 1 73 rfl), fun _ => by kernel_rfl, mul_c b c _⟩) fun _ => rfl) ?_
      refine .o1 (tk rfl rfl fun _ w hn k => ⟨_, v_move rfl (k.eq1 2 74 rfl), rfl⟩) ?_
      refine .o1 (tk rfl rfl fun _ w hn k => ⟨_, v_extract rfl (k.eq1 3 71 rfl) rfl, rfl⟩) ?_
      refine .o3 ?_
      refine .o2 (step_allocN (cs := [iv 0, iv 0]) (t := 23) rfl (noG rfl) (fun _ w hn k => rfl) (fun q _ hq hb => ⟨q, rfl, hq, hb⟩)) ?_
      refine .off ?_
      refine .off ?_
      exact .nil
    · skip
      intro i h
      simp only [List.contains_eq_mem, List.mem_cons, List.not_mem_nil, or_false, decide_eq_true_eq] at h
      subst h
      · exact eager_take rfl rfl fun _ w hn k => ⟨.bool ((mulM b c).2), fun w => v_extract rfl (k.eq1 3 71 rfl) rfl, rfl⟩
    intro a1084 w1085 hn1086 ha1087
    have hs1088 := ha1087.size.trans hs1074
    have hd1089 := ha1087.defers.trans hd1075
    have h1090 := ha1087.fx 3 h1076
    have h1091 := ha1087.fx 5 h1078
    have h1092 := ha1087.fx 6 h1079
    have h1093 := ha1087.fx 15 h1082
    have h1094 := ha1087.fx 16 h1083
    have h1095 := ha1087.ge 4 75 rfl
    have h1096 := ha1087.ge 5 76 rfl
    obtain ⟨q1098, h1097, hq1099, hb1100⟩ : IsNew _ _ _ _ _ := ha1087.got 6 17 rfl (by kernel_rfl)
    have hb1101 := hb1068.new_ hn1086
    have hb1102 := hb1070.new_ hn1086
    have hb1103 := hb1063.new_ hn1086
    have hne1104 : q8 ≠ q1098 := by have h1 := hb1068.lt; have h2 := hq1099; omega
    have hne1105 : q16 ≠ q1098 := by have h1 := hb1070.lt; have h2 := hq1099; omega
    have hne1106 : q1050 ≠ q1098 := by have h1 := hb1063.lt; have h2 := hq1099; omega
    have hq1107 := Nat.le_trans hN1071.size hq1099
    have hN1108 := hN1071.transNew hn1086
    clear hs1074 hd1075 h1076 h1077 h1078 h1079 h1082 h1083 hb1068 hb1069 hq21 hb1070 hb1063 hq1099 hN1071 ha1087 hn1086
    obtain ⟨w1109, -, hst1110, hb1111, hu1112, hf1113⟩ := s_two (v0 := iv ((mulM b c).1.k)) (v1 := iv ((mulM b c).1.n)) Tryd.sizeOf23 rfl rfl rfl hb1100
    refine st_act rfl rfl fun K1114 hL1115 => a_store' rfl h1097 h1095 hst1110 (hL1115 _ _ trivial ?_)
    have hb1116 := hf1113 _ _ _ (hne1104) hb1101
    have hb1117 := hf1113 _ _ _ (hne1105) hb1102
    have hb1118 := hf1113 _ _ _ (hne1106) hb1103
    have hN1119 := hN1108.trans hu1112 (fun k hk hkb => by subst hkb; omega)
    clear hb1100 hst1110 K1114 hL1115 hN1108 hb1101 hb1102 hb1103 hu1112 hf1113
    refine st_take rfl rfl (y_assign (v := .bool ((mulM b c).2)) rfl h1096) rfl ?_
    obtain ⟨a1120, ha1121⟩ : ∃ a', a' = a1084.put (some 18) (.bool ((mulM b c).2)) := ⟨_, rfl⟩
    have hs1122 : a1120.tmps.size = 111 := by rw [ha1121, put_size]; exact hs1088
    have hd1123 : a1120.defers = [] := by rw [ha1121, put_defers]; exact hd1089
    have h1124 : a1120.eval (.tmp 3) = pv q8 := by rw [ha1121, put_ne _ _ _ _ (by decide)]; exact h1090
    have h1125 : a1120.eval (.tmp 5) = pv q16 := by rw [ha1121, put_ne _ _ _ _ (by decide)]; exact h1091
    have h1126 : a1120.eval (.tmp 6) = .bool false := by rw [ha1121, put_ne _ _ _ _ (by decide)]; exact h1092
    have h1127 : a1120.eval (.tmp 15) = pv q1050 := by rw [ha1121, put_ne _ _ _ _ (by decide)]; exact h1093
    have h1128 : a1120.eval (.tmp 16) = .bool ((mulM a b).2) := by rw [ha1121, put_ne _ _ _ _ (by decide)]; exact h1094
    have h1129 : a1120.eval (.tmp 75) = nv ((mulM b c).1) := by rw [ha1121, put_ne _ _ _ _ (by decide)]; exact h1095
    have h1130 : a1120.eval (.tmp 76) = .bool ((mulM b c).2) := by rw [ha1121, put_ne _ _ _ _ (by decide)]; exact h1096
    have h1131 : a1120.eval (.tmp 17) = pv q1098 := by rw [ha1121, put_ne _ _ _ _ (by decide)]; exact h1097
    have h1132 : a1120.eval (.tmp 18) = .bool ((mulM b c).2) := by rw [ha1121]; exact put_same _ _ _ (by rw [hs1088]; decide)
    show stepsTo _ _ _ _ _ (a1084.put (some 18) (.bool ((mulM b c).2))) _
    rw [← ha1121]
    clear ha1121 hs1088 hd1089 h1090 h1091 h1092 h1093 h1094 h1095 h1096 h1097
    clear hne1104
    clear hne1105
    clear hne1106
    refine st_nil ?_
    clear h1129 h1130
    refine hK _ _ ?_
    clear hK K
    refine wp_seq_k fun K hK => ?_
    refine wp_g [true, true, true, true, true, true, true, false, false] [5] [(7, false), (8, true)] 111
      [ve (nv ((mulM a b).1)),
       ve (nv c),
       ve (.tuple #[nv ((mulM ((mulM a b).1) c).1), .bool ((mulM ((mulM a b).1) c).2)]),
       ve (.tuple #[nv ((mulM ((mulM a b).1) c).1), .bool ((mulM ((mulM a b).1) c).2)]),
       ve (nv ((mulM ((mulM a b).1) c).1)),
       ve (.bool ((mulM ((mulM a b).1) c).2)),
       IsNew w1109 23 [iv 0, iv 0],
       vt,
       vt]
      [6] (newsCons (fun v w h => IsNew.old h) newsNil) hs1122 (.eq (.eq (.eq (.eq (.eq (.eq (.nw (.tt (.tt (.nil)))))))))) ?_ ?_ ?_
    · skip
      refine .o1 (tk rfl rfl fun _ w hn k => ⟨_, v_load rfl (k.fx 15 h1127) (l_two Tryd.isAgg23 Tryd.sizeOf23 (hb1118.new_ hn)), rfl⟩) ?_
      refine .o1 (tk rfl rfl fun _ w hn k => ⟨_, v_load rfl (k.fx 5 h1125) (l_two Tryd.isAgg23 Tryd.sizeOf23 (hb1117.new_ hn)), rfl⟩) ?_
      refine .o1 (ck rfl rfl rfl (fun _ w hn k => ⟨#[nv ((mulM a b).1), nv c], args2 (k.eq1 0 78 rfl) (k.eq1 1 79 rfl), fun _ => by kernel_rfl, mul_c ((mulM a b).1) c _⟩) fun _ => rfl) ?_
      refine .o1 (tk rfl rfl fun _ w hn k => ⟨_, v_move rfl (k.eq1 2 80 rfl), rfl⟩) ?_
      refine .o1 (tk rfl rfl fun _ w hn k => ⟨_, v_extract rfl (k.eq1 3 77 rfl) rfl, rfl⟩) ?_
      refine .o3 ?_
      refine .o2 (step_allocN (cs := [iv 0, iv 0]) (t := 23) rfl (noG rfl) (fun _ w hn k => rfl) (fun q _ hq hb => ⟨q, rfl, hq, hb⟩)) ?_
      refine .off ?_
      refine .off ?_
      exact .nil
    · skip
      intro i h
      simp only [List.contains_eq_mem, List.mem_cons, List.not_mem_nil, or_false, decide_eq_true_eq] at h
      subst h
      · exact eager_take rfl rfl fun _ w hn k => ⟨.bool ((mulM ((mulM a b).1) c).2), fun w => v_extract rfl (k.eq1 3 77 rfl) rfl, rfl⟩
    intro a1133 w1134 hn1135 ha1136
    have hs1137 := ha1136.size.trans hs1122
    have hd1138 := ha1136.defers.trans hd1123
    have h1139 := ha1136.fx 3 h1124
    have h1140 := ha1136.fx 6 h1126
    have h1141 := ha1136.fx 16 h1128
    have h1142 := ha1136.fx 17 h1131
    have h1143 := ha1136.fx 18 h1132
    have h1144 := ha1136.ge 4 81 rfl
    have h1145 := ha1136.ge 5 82 rfl
    obtain ⟨q1147, h1146, hq1148, hb1149⟩ : IsNew _ _ _ _ _ := ha1136.got 6 19 rfl (by kernel_rfl)
    have hb1150 := hb1116.new_ hn1135
    have hb1151 := hb1111.new_ hn1135
    have hne1152 : q8 ≠ q1147 := by have h1 := hb1116.lt; have h2 := hq1148; omega
    have hne1153 : q1098 ≠ q1147 := by have h1 := hb1111.lt; have h2 := hq1148; omega
    have hq1154 := Nat.le_trans hN1119.size hq1148
    have hN1155 := hN1119.transNew hn1135
    clear hs1122 hd1123 h1124 h1125 h1126 h1127 h1128 h1131 h1132 hb1116 hb1117 hq22 hb1118 hq1059 hb1111 hq1148 hN1119 ha1136 hn1135
    obtain ⟨w1156, -, hst1157, hb1158, hu1159, hf1160⟩ := s_two (v0 := iv ((mulM ((mulM a b).1) c).1.k)) (v1 := iv ((mulM ((mulM a b).1) c).1.n)) Tryd.sizeOf23 rfl rfl rfl hb1149
    refine st_act rfl rfl fun K1161 hL1162 => a_store' rfl h1146 h1144 hst1157 (hL1162 _ _ trivial ?_)
    have hb1163 := hf1160 _ _ _ (hne1152) hb1150
    have hb1164 := hf1160 _ _ _ (hne1153) hb1151
    have hN1165 := hN1155.trans hu1159 (fun k hk hkb => by subst hkb; omega)
    clear hb1149 hst1157 K1161 hL1162 hN1155 hb1150 hb1151 hu1159 hf1160
    refine st_take rfl rfl (y_assign (v := .bool ((mulM ((mulM a b).1) c).2)) rfl h1145) rfl ?_
    obtain ⟨a1166, ha1167⟩ : ∃ a', a' = a1133.put (some 20) (.bool ((mulM ((mulM a b).1) c).2)) := ⟨_, rfl⟩
    have hs1168 : a1166.tmps.size = 111 := by rw [ha1167, put_size]; exact hs1137
    have hd1169 : a1166.defers = [] := by rw [ha1167, put_defers]; exact hd1138
    have h1170 : a1166.eval (.tmp 3) = pv q8 := by rw [ha1167, put_ne _ _ _ _ (by decide)]; exact h1139
    have h1171 : a1166.eval (.tmp 6) = .bool false := by rw [ha1167, put_ne _ _ _ _ (by decide)]; exact h1140
    have h1172 : a1166.eval (.tmp 16) = .bool ((mulM a b).2) := by rw [ha1167, put_ne _ _ _ _ (by decide)]; exact h1141
    have h1173 : a1166.eval (.tmp 17) = pv q1098 := by rw [ha1167, put_ne _ _ _ _ (by decide)]; exact h1142
    have h1174 : a1166.eval (.tmp 18) = .bool ((mulM b c).2) := by rw [ha1167, put_ne _ _ _ _ (by decide)]; exact h1143
    have h1175 : a1166.eval (.tmp 81) = nv ((mulM ((mulM a b).1) c).1) := by rw [ha1167, put_ne _ _ _ _ (by decide)]; exact h1144
    have h1176 : a1166.eval (.tmp 82) = .bool ((mulM ((mulM a b).1) c).2) := by rw [ha1167, put_ne _ _ _ _ (by decide)]; exact h1145
    have h1177 : a1166.eval (.tmp 19) = pv q1147 := by rw [ha1167, put_ne _ _ _ _ (by decide)]; exact h1146
    have h1178 : a1166.eval (.tmp 20) = .bool ((mulM ((mulM a b).1) c).2) := by rw [ha1167]; exact put_same _ _ _ (by rw [hs1137]; decide)
    show stepsTo _ _ _ _ _ (a1133.put (some 20) (.bool ((mulM ((mulM a b).1) c).2))) _
    rw [← ha1167]
    clear ha1167 hs1137 hd1138 h1139 h1140 h1141 h1142 h1143 h1144 h1145 h1146
    clear hne1152
    clear hne1153
    refine st_nil ?_
    clear h1175 h1176
    refine hK _ _ ?_
    clear hK K
    refine wp_seq_k fun K hK => ?_
    refine wp_g [true, true, true, true, true, true, true, false, false] [5] [(7, false), (8, true)] 111
      [ve (nv a),
       ve (nv ((mulM b c).1)),
       ve (.tuple #[nv ((mulM a ((mulM b c).1)).1), .bool ((mulM a ((mulM b c).1)).2)]),
       ve (.tuple #[nv ((mulM a ((mulM b c).1)).1), .bool ((mulM a ((mulM b c).1)).2)]),
       ve (nv ((mulM a ((mulM b c).1)).1)),
       ve (.bool ((mulM a ((mulM b c).1)).2)),
       IsNew w1156 23 [iv 0, iv 0],
       vt,
       vt]
      [6] (newsCons (fun v w h => IsNew.old h) newsNil) hs1168 (.eq (.eq (.eq (.eq (.eq (.eq (.nw (.tt (.tt (.nil)))))))))) ?_ ?_ ?_
    · skip
      refine .o1 (tk rfl rfl fun _ w hn k => ⟨_, v_load rfl (k.fx 3 h1170) (l_two Tryd.isAgg23 Tryd.sizeOf23 (hb1163.new_ hn)), rfl⟩) ?_
      refine .o1 (tk rfl rfl fun _ w hn k => ⟨_, v_load rfl (k.fx 17 h1173) (l_two Tryd.isAgg23 Tryd.sizeOf23 (hb1164.new_ hn)), rfl⟩) ?_
      refine .o1 (ck rfl rfl rfl (fun _ w hn k => ⟨#[nv a, nv ((mulM b c).1)], args2 (k.eq1 0 84 rfl) (k.eq1 1 85 rfl), fun _ => by kernel_rfl, mul_c a ((mulM b c).1) _⟩) fun _ => rfl) ?_
      refine .o1 (tk rfl rfl fun _ w hn k => ⟨_, v_move rfl (k.eq1 2 86 rfl), rfl⟩) ?_
      refine .o1 (tk rfl rfl fun _ w hn k => ⟨_, v_extract rfl (k.eq1 3 83 rfl) rfl, rfl⟩) ?_
      refine .o3 ?_
      refine .o2 (step_allocN (cs := [iv 0, iv 0]) (t := 23) rfl (noG rfl) (fun _ w hn k => rfl) (fun q _ hq hb => ⟨q, rfl, hq, hb⟩)) ?_
      refine .off ?_
      refine .off ?_
      exact .nil
    · skip
      intro i h
      simp only [List.contains_eq_mem, List.mem_cons, List.not_mem_nil, or_false, decide_eq_true_eq] at h
      subst h
      · exact eager_take rfl rfl fun _ w hn k => ⟨.bool ((mulM a ((mulM b c).1)).2), fun w => v_extract rfl (k.eq1 3 83 rfl) rfl, rfl⟩
    intro a1179 w1180 hn1181 ha1182
    have hs1183 := ha1182.size.trans hs1168
    have hd1184 := ha1182.defers.trans hd1169
    have h1185 := ha1182.fx 6 h1171
    have h1186 := ha1182.fx 16 h1172
    have h1187 := ha1182.fx 18 h1174
    have h1188 := ha1182.fx 19 h1177
    have h1189 := ha1182.fx 20 h1178
    have h1190 := ha1182.ge 4 87 rfl
    have h1191 := ha1182.ge 5 88 rfl
    obtain ⟨q1193, h1192, hq1194, hb1195⟩ : IsNew _ _ _ _ _ := ha1182.got 6 21 rfl (by kernel_rfl)
    have hb1196 := hb1158.new_ hn1181
    have hne1197 : q1147 ≠ q1193 := by have h1 := hb1158.lt; have h2 := hq1194; omega
    have hq1198 := Nat.le_trans hN1165.size hq1194
    have hN1199 := hN1165.transNew hn1181
    clear hs1168 hd1169 h1170 h1171 h1172 h1173 h1174 h1177 h1178 hb1163 hq20 hb1164 hq1107 hb1158 hq1194 hN1165 ha1182 hn1181
    obtain ⟨w1200, -, hst1201, hb1202, hu1203, hf1204⟩ := s_two (v0 := iv ((mulM a ((mulM b c).1)).1.k)) (v1 := iv ((mulM a ((mulM b c).1)).1.n)) Tryd.sizeOf23 rfl rfl rfl hb1195
    refine st_act rfl rfl fun K1205 hL1206 => a_store' rfl h1192 h1190 hst1201 (hL1206 _ _ trivial ?_)
    have hb1207 := hf1204 _ _ _ (hne1197) hb1196
    have hN1208 := hN1199.trans hu1203 (fun k hk hkb => by subst hkb; omega)
    clear hb1195 hst1201 K1205 hL1206 hN1199 hb1196 hu1203 hf1204
    refine st_take rfl rfl (y_assign (v := .bool ((mulM a ((mulM b c).1)).2)) rfl h1191) rfl ?_
    obtain ⟨a1209, ha1210⟩ : ∃ a', a' = a1179.put (some 22) (.bool ((mulM a ((mulM b c).1)).2)) := ⟨_, rfl⟩
    have hs1211 : a1209.tmps.size = 111 := by rw [ha1210, put_size]; exact hs1183
    have hd1212 : a1209.defers = [] := by rw [ha1210, put_defers]; exact hd1184
    have h1213 : a1209.eval (.tmp 6) = .bool false := by rw [ha1210, put_ne _ _ _ _ (by decide)]; exact h1185
    have h1214 : a1209.eval (.tmp 16) = .bool ((mulM a b).2) := by rw [ha1210, put_ne _ _ _ _ (by decide)]; exact h1186
    have h1215 : a1209.eval (.tmp 18) = .bool ((mulM b c).2) := by rw [ha1210, put_ne _ _ _ _ (by decide)]; exact h1187
    have h1216 : a1209.eval (.tmp 19) = pv q1147 := by rw [ha1210, put_ne _ _ _ _ (by decide)]; exact h1188
    have h1217 : a1209.eval (.tmp 20) = .bool ((mulM ((mulM a b).1) c).2) := by rw [ha1210, put_ne _ _ _ _ (by decide)]; exact h1189
    have h1218 : a1209.eval (.tmp 87) = nv ((mulM a ((mulM b c).1)).1) := by rw [ha1210, put_ne _ _ _ _ (by decide)]; exact h1190
    have h1219 : a1209.eval (.tmp 88) = .bool ((mulM a ((mulM b c).1)).2) := by rw [ha1210, put_ne _ _ _ _ (by decide)]; exact h1191
    have h1220 : a1209.eval (.tmp 21) = pv q1193 := by rw [ha1210, put_ne _ _ _ _ (by decide)]; exact h1192
    have h1221 : a1209.eval (.tmp 22) = .bool ((mulM a ((mulM b c).1)).2) := by rw [ha1210]; exact put_same _ _ _ (by rw [hs1183]; decide)
    show stepsTo _ _ _ _ _ (a1179.put (some 22) (.bool ((mulM a ((mulM b c).1)).2))) _
    rw [← ha1210]
    clear ha1210 hs1183 hd1184 h1185 h1186 h1187 h1188 h1189 h1190 h1191 h1192
    clear hne1197
    refine st_nil ?_
    clear h1218 h1219
    refine hK _ _ ?_
    clear hK K
    refine wp_seq_k fun K hK => ?_
    rcases Bool.eq_false_or_eq_true ((mulM a b).2) with ht1222 | ht1222
    · skip
      have hv1223 : a1209.eval (.tmp 16) = .bool true := h1214.trans (congrArg Value.bool ht1222)
      clear h1214
      rcases Bool.eq_false_or_eq_true ((mulM b c).2) with ht1224 | ht1224
      · skip
        have hv1225 : a1209.eval (.tmp 18) = .bool true := h1215.trans (congrArg Value.bool ht1224)
        clear h1215
        rcases Bool.eq_false_or_eq_true ((mulM ((mulM a b).1) c).2) with ht1226 | ht1226
        · skip
          have hv1227 : a1209.eval (.tmp 20) = .bool true := h1217.trans (congrArg Value.bool ht1226)
          clear h1217
          rcases Bool.eq_false_or_eq_true ((mulM a ((mulM b c).1)).2) with ht1228 | ht1228
          · skip
            have hv1229 : a1209.eval (.tmp 22) = .bool true := h1221.trans (congrArg Value.bool ht1228)
            clear h1221
            refine wp_g0 [true, true, true, true, true, true, true, true, true, true, true, true, true, true, true, true, true, true, true, true, true, true, true] [] 111
              [ve (.bool true),
               ve (.bool true),
               ve (.bool true),
               ve (.bool false),
               ve (.bool false),
               ve (.bool true),
               ve (.bool false),
               ve (.bool false),
               ve (.bool false),
               ve (.bool true),
               ve (.bool false),
               ve (.bool false),
               ve (.bool false),
               ve (.bool true),
               ve (.bool false),
               ve (.bool false),
               ve (.bool false),
               ve (nv ((mulM ((mulM a b).1) c).1)),
               ve (nv ((mulM a ((mulM b c).1)).1)),
               ve (.bool (sameM ((mulM ((mulM a b).1) c).1) ((mulM a ((mulM b c).1)).1))),
               ve (.bool (sameM ((mulM ((mulM a b).1) c).1) ((mulM a ((mulM b c).1)).1))),
               ve (.bool (sameM ((mulM ((mulM a b).1) c).1) ((mulM a ((mulM b c).1)).1))),
               ve (.bool (sameM ((mulM ((mulM a b).1) c).1) ((mulM a ((mulM b c).1)).1)))] hs1211 (.eq (.eq (.eq (.eq (.eq (.eq (.eq (.eq (.eq (.eq (.eq (.eq (.eq (.eq (.eq (.eq (.eq (.eq (.eq (.eq (.eq (.eq (.eq (.nil)))))))))))))))))))))))) ?_ ?_
            · skip
              refine .o1 (ck rfl rfl rfl (fun _ w hn k => ⟨#[], rfl, fun _ => by kernel_rfl, first_c  _⟩) fun _ => rfl) ?_
              refine .o1 (tk rfl rfl fun _ w hn k => ⟨_, v_move rfl (k.eq1 0 89 rfl), rfl⟩) ?_
              refine .o1 (tg rfl rfl rfl (fun _ _ k => k.eq1 1 90 rfl) fun _ w hn k => ⟨_, v_move rfl (k.fx 16 hv1223), rfl⟩) ?_
              refine .o1 (tg rfl rfl rfl (fun _ _ k => k.eq1 1 90 rfl) fun _ w hn k => ⟨_, v_not rfl (k.eq1 2 91 rfl), rfl⟩) ?_
              refine .o1 (tg rfl rfl rfl (fun _ _ k => k.eq1 1 90 rfl) fun _ w hn k => ⟨_, v_move rfl (k.eq1 3 92 rfl), rfl⟩) ?_
              refine .o1 (tg rfl rfl rfl (fun _ _ k => k.eq1 4 93 rfl) fun _ w hn k => ⟨_, v_move rfl (k.fx 18 hv1225), rfl⟩) ?_
              refine .o1 (tg rfl rfl rfl (fun _ _ k => k.eq1 4 93 rfl) fun _ w hn k => ⟨_, v_not rfl (k.eq1 5 94 rfl), rfl⟩) ?_
              refine .o1 (tg rfl rfl rfl (fun _ _ k => k.eq1 1 90 rfl) fun _ w hn k => ⟨_, v_pickF rfl (k.eq1 4 93 rfl) (k.eq1 6 95 rfl), rfl⟩) ?_
              refine .o1 (tg rfl rfl rfl (fun _ _ k => k.eq1 1 90 rfl) fun _ w hn k => ⟨_, v_move rfl (k.eq1 7 96 rfl), rfl⟩) ?_
              refine .o1 (tg rfl rfl rfl (fun _ _ k => k.eq1 8 97 rfl) fun _ w hn k => ⟨_, v_move rfl (k.fx 20 hv1227), rfl⟩) ?_
              refine .o1 (tg rfl rfl rfl (fun _ _ k => k.eq1 8 97 rfl) fun _ w hn k => ⟨_, v_not rfl (k.eq1 9 98 rfl), rfl⟩) ?_
              refine .o1 (tg rfl rfl rfl (fun _ _ k => k.eq1 1 90 rfl) fun _ w hn k => ⟨_, v_pickF rfl (k.eq1 8 97 rfl) (k.eq1 10 99 rfl), rfl⟩) ?_
              refine .o1 (tg rfl rfl rfl (fun _ _ k => k.eq1 1 90 rfl) fun _ w hn k => ⟨_, v_move rfl (k.eq1 11 100 rfl), rfl⟩) ?_
              refine .o1 (tg rfl rfl rfl (fun _ _ k => k.eq1 12 101 rfl) fun _ w hn k => ⟨_, v_move rfl (k.fx 22 hv1229), rfl⟩) ?_
              refine .o1 (tg rfl rfl rfl (fun _ _ k => k.eq1 12 101 rfl) fun _ w hn k => ⟨_, v_not rfl (k.eq1 13 102 rfl), rfl⟩) ?_
              refine .o1 (tg rfl rfl rfl (fun _ _ k => k.eq1 1 90 rfl) fun _ w hn k => ⟨_, v_pickF rfl (k.eq1 12 101 rfl) (k.eq1 14 103 rfl), rfl⟩) ?_
              refine .o1 (tg rfl rfl rfl (fun _ _ k => k.eq1 1 90 rfl) fun _ w hn k => ⟨_, v_move rfl (k.eq1 15 104 rfl), rfl⟩) ?_
              refine .o1 (tg rfl rfl rfl (fun _ _ k => k.eq1 16 105 rfl) fun _ w hn k => ⟨_, v_load rfl (k.fx 19 h1216) (l_two Tryd.isAgg23 Tryd.sizeOf23 (hb1207.new_ hn)), rfl⟩) ?_
              refine .o1 (tg rfl rfl rfl (fun _ _ k => k.eq1 16 105 rfl) fun _ w hn k => ⟨_, v_load rfl (k.fx 21 h1220) (l_two Tryd.isAgg23 Tryd.sizeOf23 (hb1202.new_ hn)), rfl⟩) ?_
              refine .o1 (cg rfl rfl rfl (fun _ _ k => k.eq1 16 105 rfl) rfl (fun _ w hn k => ⟨#[nv ((mulM ((mulM a b).1) c).1), nv ((mulM a ((mulM b c).1)).1)], args2 (k.eq1 17 106 rfl) (k.eq1 18 107 rfl), fun _ => by kernel_rfl, same_c ((mulM ((mulM a b).1) c).1) ((mulM a ((mulM b c).1)).1) _⟩) fun _ => rfl) ?_
              refine .o1 (tg rfl rfl rfl (fun _ _ k => k.eq1 1 90 rfl) fun _ w hn k => ⟨_, v_pickF rfl (k.eq1 16 105 rfl) (k.eq1 19 108 rfl), rfl⟩) ?_
              refine .o1 (tk rfl rfl fun _ w hn k => ⟨_, v_pickT rfl (k.eq1 1 90 rfl) (k.eq1 20 109 rfl), rfl⟩) ?_
              refine .o1 (tk rfl rfl fun _ w hn k => ⟨_, v_assign rfl (k.eq1 21 110 rfl), rfl⟩) ?_
              exact .nil
            intro a1230 w1231 hn1232 ha1233
            have hs1234 := ha1233.size.trans hs1211
            have hd1235 := ha1233.defers.trans hd1212
            have h1236 := ha1233.ge 22 6 rfl
            have hN1237 := hN1208.transNew hn1232
            clear hs1211 hd1212 h1213 hv1223 hv1225 h1216 hv1227 h1220 hv1229 hb1207 hq1154 hb1202 hq1198 hN1208 ha1233 hn1232
            refine st_nil ?_
            refine hK _ _ ?_
            clear hK K
            refine wp_ret (ret_k hd1235 (v := .bool (sameM ((mulM ((mulM a b).1) c).1) ((mulM a ((mulM b c).1)).1))) (res_t rfl h1236 _) ?_)
            exact ⟨congrArg (fun b => Ending.returned (.bool b)) (mul_assoc ht1222 ht1224 ht1226 ht1228), hN1237⟩
          have hv1238 : a1209.eval (.tmp 22) = .bool false := h1221.trans (congrArg Value.bool ht1228)
          clear h1221
          refine wp_g0 [true, true, true, true, true, true, true, true, true, true, true, true, true, true, true, true, true, true, true, true, true, true, true] [] 111
            [ve (.bool true),
             ve (.bool true),
             ve (.bool true),
             ve (.bool false),
             ve (.bool false),
             ve (.bool true),
             ve (.bool false),
             ve (.bool false),
             ve (.bool false),
             ve (.bool true),
             ve (.bool false),
             ve (.bool false),
             ve (.bool false),
             ve (.bool false),
             ve (.bool true),
             ve (.bool true),
             ve (.bool true),
             ve undef,
             ve undef,
             ve undef,
             ve (.bool true),
             ve (.bool true),
             ve (.bool true)] hs1211 (.eq (.eq (.eq (.eq (.eq (.eq (.eq (.eq (.eq (.eq (.eq (.eq (.eq (.eq (.eq (.eq (.eq (.eq (.eq (.eq (.eq (.eq (.eq (.nil)))))))))))))))))))))))) ?_ ?_
          · skip
            refine .o1 (ck rfl rfl rfl (fun _ w hn k => ⟨#[], rfl, fun _ => by kernel_rfl, first_c  _⟩) fun _ => rfl) ?_
            refine .o1 (tk rfl rfl fun _ w hn k => ⟨_, v_move rfl (k.eq1 0 89 rfl), rfl⟩) ?_
            refine .o1 (tg rfl rfl rfl (fun _ _ k => k.eq1 1 90 rfl) fun _ w hn k => ⟨_, v_move rfl (k.fx 16 hv1223), rfl⟩) ?_
            refine .o1 (tg rfl rfl rfl (fun _ _ k => k.eq1 1 90 rfl) fun _ w hn k => ⟨_, v_not rfl (k.eq1 2 91 rfl), rfl⟩) ?_
            refine .o1 (tg rfl rfl rfl (fun _ _ k => k.eq1 1 90 rfl) fun _ w hn k => ⟨_, v_move rfl (k.eq1 3 92 rfl), rfl⟩) ?_
            refine .o1 (tg rfl rfl rfl (fun _ _ k => k.eq1 4 93 rfl) fun _ w hn k => ⟨_, v_move rfl (k.fx 18 hv1225), rfl⟩) ?_
            refine .o1 (tg rfl rfl rfl (fun _ _ k => k.eq1 4 93 rfl) fun _ w hn k => ⟨_, v_not rfl (k.eq1 5 94 rfl), rfl⟩) ?_
            refine .o1 (tg rfl rfl rfl (fun _ _ k => k.eq1 1 90 rfl) fun _ w hn k => ⟨_, v_pickF rfl (k.eq1 4 93 rfl) (k.eq1 6 95 rfl), rfl⟩) ?_
            refine .o1 (tg rfl rfl rfl (fun _ _ k => k.eq1 1 90 rfl) fun _ w hn k => ⟨_, v_move rfl (k.eq1 7 96 rfl), rfl⟩) ?_
            refine .o1 (tg rfl rfl rfl (fun _ _ k => k.eq1 8 97 rfl) fun _ w hn k => ⟨_, v_move rfl (k.fx 20 hv1227), rfl⟩) ?_
            refine .o1 (tg rfl rfl rfl (fun _ _ k => k.eq1 8 97 rfl) fun _ w hn k => ⟨_, v_not rfl (k.eq1 9 98 rfl), rfl⟩) ?_
            refine .o1 (tg rfl rfl rfl (fun _ _ k => k.eq1 1 90 rfl) fun _ w hn k => ⟨_, v_pickF rfl (k.eq1 8 97 rfl) (k.eq1 10 99 rfl), rfl⟩) ?_
            refine .o1 (tg rfl rfl rfl (fun _ _ k => k.eq1 1 90 rfl) fun _ w hn k => ⟨_, v_move rfl (k.eq1 11 100 rfl), rfl⟩) ?_
            refine .o1 (tg rfl rfl rfl (fun _ _ k => k.eq1 12 101 rfl) fun _ w hn k => ⟨_, v_move rfl (k.fx 22 hv1238), rfl⟩) ?_
            refine .o1 (tg rfl rfl rfl (fun _ _ k => k.eq1 12 101 rfl) fun _ w hn k => ⟨_, v_not rfl (k.eq1 13 102 rfl), rfl⟩) ?_
            refine .o1 (tg rfl rfl rfl (fun _ _ k => k.eq1 1 90 rfl) fun _ w hn k => ⟨_, v_pickF rfl (k.eq1 12 101 rfl) (k.eq1 14 103 rfl), rfl⟩) ?_
            refine .o1 (tg rfl rfl rfl (fun _ _ k => k.eq1 1 90 rfl) fun _ w hn k => ⟨_, v_move rfl (k.eq1 15 104 rfl), rfl⟩) ?_
            refine .o1 (sk rfl rfl rfl (fun _ _ _ k => k.eq1 16 105 rfl) (fun _ => rfl)) ?_
            refine .o1 (sk rfl rfl rfl (fun _ _ _ k => k.eq1 16 105 rfl) (fun _ => rfl)) ?_
            refine .o1 (sk rfl rfl rfl (fun _ _ _ k => k.eq1 16 105 rfl) (fun _ => rfl)) ?_
            refine .o1 (tg rfl rfl rfl (fun _ _ k => k.eq1 1 90 rfl) fun _ w hn k => ⟨_, v_pickT rfl (k.eq1 16 105 rfl) rfl, rfl⟩) ?_
            refine .o1 (tk rfl rfl fun _ w hn k => ⟨_, v_pickT rfl (k.eq1 1 90 rfl) (k.eq1 20 109 rfl), rfl⟩) ?_
            refine .o1 (tk rfl rfl fun _ w hn k => ⟨_, v_assign rfl (k.eq1 21 110 rfl), rfl⟩) ?_
            exact .nil
          intro a1239 w1240 hn1241 ha1242
          have hs1243 := ha1242.size.trans hs1211
          have hd1244 := ha1242.defers.trans hd1212
          have h1245 := ha1242.ge 22 6 rfl
          have hN1246 := hN1208.transNew hn1241
          clear hs1211 hd1212 h1213 hv1223 hv1225 h1216 hv1227 h1220 hv1238 hb1207 hq1154 hb1202 hq1198 hN1208 ha1242 hn1241
          refine st_nil ?_
          refine hK _ _ ?_
          clear hK K
          refine wp_ret (ret_k hd1244 (v := .bool true) (res_t rfl h1245 _) ?_)
          exact ⟨rfl, hN1246⟩
        have hv1247 : a1209.eval (.tmp 20) = .bool false := h1217.trans (congrArg Value.bool ht1226)
        clear h1217
        refine wp_g0 [true, true, true, true, true, true, true, true, true, true, true, true, true, true, true, true, true, true, true, true, true, true, true] [] 111
          [ve (.bool true),
           ve (.bool true),
           ve (.bool true),
           ve (.bool false),
           ve (.bool false),
           ve (.bool true),
           ve (.bool false),
           ve (.bool false),
           ve (.bool false),
           ve (.bool false),
           ve (.bool true),
           ve (.bool true),
           ve (.bool true),
           ve undef,
           ve undef,
           ve (.bool true),
           ve (.bool true),
           ve undef,
           ve undef,
           ve undef,
           ve (.bool true),
           ve (.bool true),
           ve (.bool true)] hs1211 (.eq (.eq (.eq (.eq (.eq (.eq (.eq (.eq (.eq (.eq (.eq (.eq (.eq (.eq (.eq (.eq (.eq (.eq (.eq (.eq (.eq (.eq (.eq (.nil)))))))))))))))))))))))) ?_ ?_
        · skip
          refine .o1 (ck rfl rfl rfl (fun _ w hn k => ⟨#[], rfl, fun _ => by kernel_rfl, first_c  _⟩) fun _ => rfl) ?_
          refine .o1 (tk rfl rfl fun _ w hn k => ⟨_, v_move rfl (k.eq1 0 89 rfl), rfl⟩) ?_
          refine .o1 (tg rfl rfl rfl (fun _ _ k => k.eq1 1 90 rfl) fun _ w hn k => ⟨_, v_move rfl (k.fx 16 hv1223), rfl⟩) ?_
          refine .o1 (tg rfl rfl rfl (fun _ _ k => k.eq1 1 90 rfl) fun _ w hn k => ⟨_, v_not rfl (k.eq1 2 91 rfl), rfl⟩) ?_
          refine .o1 (tg rfl rfl rfl (fun _ _ k => k.eq1 1 90 rfl) fun _ w hn k => ⟨_, v_move rfl (k.eq1 3 92 rfl), rfl⟩) ?_
          refine .o1 (tg rfl rfl rfl (fun _ _ k => k.eq1 4 93 rfl) fun _ w hn k => ⟨_, v_move rfl (k.fx 18 hv1225), rfl⟩) ?_
          refine .o1 (tg rfl rfl rfl (fun _ _ k => k.eq1 4 93 rfl) fun _ w hn k => ⟨_, v_not rfl (k.eq1 5 94 rfl), rfl⟩) ?_
          refine .o1 (tg rfl rfl rfl (fun _ _ k => k.eq1 1 90 rfl) fun _ w hn k => ⟨_, v_pickF rfl (k.eq1 4 93 rfl) (k.eq1 6 95 rfl), rfl⟩) ?_
          refine .o1 (tg rfl rfl rfl (fun _ _ k => k.eq1 1 90 rfl) fun _ w hn k => ⟨_, v_move rfl (k.eq1 7 96 rfl), rfl⟩) ?_
          refine .o1 (tg rfl rfl rfl (fun _ _ k => k.eq1 8 97 rfl) fun _ w hn k => ⟨_, v_move rfl (k.fx 20 hv1247), rfl⟩) ?_
          refine .o1 (tg rfl rfl rfl (fun _ _ k => k.eq1 8 97 rfl) fun _ w hn k => ⟨_, v_not rfl (k.eq1 9 98 rfl), rfl⟩) ?_
          refine .o1 (tg rfl rfl rfl (fun _ _ k => k.eq1 1 90 rfl) fun _ w hn k => ⟨_, v_pickF rfl (k.eq1 8 97 rfl) (k.eq1 10 99 rfl), rfl⟩) ?_
          refine .o1 (tg rfl rfl rfl (fun _ _ k => k.eq1 1 90 rfl) fun _ w hn k => ⟨_, v_move rfl (k.eq1 11 100 rfl), rfl⟩) ?_
          refine .o1 (sk rfl rfl rfl (fun _ _ _ k => k.eq1 12 101 rfl) (fun _ => rfl)) ?_
          refine .o1 (sk rfl rfl rfl (fun _ _ _ k => k.eq1 12 101 rfl) (fun _ => rfl)) ?_
          refine .o1 (tg rfl rfl rfl (fun _ _ k => k.eq1 1 90 rfl) fun _ w hn k => ⟨_, v_pickT rfl (k.eq1 12 101 rfl) rfl, rfl⟩) ?_
          refine .o1 (tg rfl rfl rfl (fun _ _ k => k.eq1 1 90 rfl) fun _ w hn k => ⟨_, v_move rfl (k.eq1 15 104 rfl), rfl⟩) ?_
          refine .o1 (sk rfl rfl rfl (fun _ _ _ k => k.eq1 16 105 rfl) (fun _ => rfl)) ?_
          refine .o1 (sk rfl rfl rfl (fun _ _ _ k => k.eq1 16 105 rfl) (fun _ => rfl)) ?_
          refine .o1 (sk rfl rfl rfl (fun _ _ _ k => k.eq1 16 105 rfl) (fun _ => rfl)) ?_
          refine .o1 (tg rfl rfl rfl (fun _ _ k => k.eq1 1 90 rfl) fun _ w hn k => ⟨_, v_pickT rfl (k.eq1 16 105 rfl) rfl, rfl⟩) ?_
          refine .o1 (tk rfl rfl fun _ w hn k => ⟨_, v_pickT rfl (k.eq1 1 90 rfl) (k.eq1 20 109 rfl), rfl⟩) ?_
          refine .o1 (tk rfl rfl fun _ w hn k => ⟨_, v_assign rfl (k.eq1 21 110 rfl), rfl⟩) ?_
          exact .nil
        intro a1248 w1249 hn1250 ha1251
        have hs1252 := ha1251.size.trans hs1211
        have hd1253 := ha1251.defers.trans hd1212
        have h1254 := ha1251.ge 22 6 rfl
        have hN1255 := hN1208.transNew hn1250
        clear hs1211 hd1212 h1213 hv1223 hv1225 h1216 hv1247 h1220 h1221 hb1207 hq1154 hb1202 hq1198 hN1208 ha1251 hn1250
        refine st_nil ?_
        refine hK _ _ ?_
        clear hK K
        refine wp_ret (ret_k hd1253 (v := .bool true) (res_t rfl h1254 _) ?_)
        exact ⟨rfl, hN1255⟩
      have hv1256 : a1209.eval (.tmp 18) = .bool false := h1215.trans (congrArg Value.bool ht1224)
      clear h1215
      refine wp_g0 [true, true, true, true, true, true, true, true, true, true, true, true, true, true, true, true, true, true, true, true, true, true, true] [] 111
        [ve (.bool true),
         ve (.bool true),
         ve (.bool true),
         ve (.bool false),
         ve (.bool false),
         ve (.bool false),
         ve (.bool true),
         ve (.bool true),
         ve (.bool true),
         ve undef,
         ve undef,
         ve (.bool true),
         ve (.bool true),
         ve undef,
         ve undef,
         ve (.bool true),
         ve (.bool true),
         ve undef,
         ve undef,
         ve undef,
         ve (.bool true),
         ve (.bool true),
         ve (.bool true)] hs1211 (.eq (.eq (.eq (.eq (.eq (.eq (.eq (.eq (.eq (.eq (.eq (.eq (.eq (.eq (.eq (.eq (.eq (.eq (.eq (.eq (.eq (.eq (.eq (.nil)))))))))))))))))))))))) ?_ ?_
      · skip
        refine .o1 (ck rfl rfl rfl (fun _ w hn k => ⟨#[], rfl, fun _ => by kernel_rfl, first_c  _⟩) fun _ => rfl) ?_
        refine .o1 (tk rfl rfl fun _ w hn k => ⟨_, v_move rfl (k.eq1 0 89 rfl), rfl⟩) ?_
        refine .o1 (tg rfl rfl rfl (fun _ _ k => k.eq1 1 90 rfl) fun _ w hn k => ⟨_, v_move rfl (k.fx 16 hv1223), rfl⟩) ?_
        refine .o1 (tg rfl rfl rfl (fun _ _ k => k.eq1 1 90 rfl) fun _ w hn k => ⟨_, v_not rfl (k.eq1 2 91 rfl), rfl⟩) ?_
        refine .o1 (tg rfl rfl rfl (fun _ _ k => k.eq1 1 90 rfl) fun _ w hn k => ⟨_, v_move rfl (k.eq1 3 92 rfl), rfl⟩) ?_
        refine .o1 (tg rfl rfl rfl (fun _ _ k => k.eq1 4 93 rfl) fun _ w hn k => ⟨_, v_move rfl (k.fx 18 hv1256), rfl⟩) ?_
        refine .o1 (tg rfl rfl rfl (fun _ _ k => k.eq1 4 93 rfl) fun _ w hn k => ⟨_, v_not rfl (k.eq1 5 94 rfl), rfl⟩) ?_
        refine .o1 (tg rfl rfl rfl (fun _ _ k => k.eq1 1 90 rfl) fun _ w hn k => ⟨_, v_pickF rfl (k.eq1 4 93 rfl) (k.eq1 6 95 rfl), rfl⟩) ?_
        refine .o1 (tg rfl rfl rfl (fun _ _ k => k.eq1 1 90 rfl) fun _ w hn k => ⟨_, v_move rfl (k.eq1 7 96 rfl), rfl⟩) ?_
        refine .o1 (sk rfl rfl rfl (fun _ _ _ k => k.eq1 8 97 rfl) (fun _ => rfl)) ?_
        refine .o1 (sk rfl rfl rfl (fun _ _ _ k => k.eq1 8 97 rfl) (fun _ => rfl)) ?_
        refine .o1 (tg rfl rfl rfl (fun _ _ k => k.eq1 1 90 rfl) fun _ w hn k => ⟨_, v_pickT rfl (k.eq1 8 97 rfl) rfl, rfl⟩) ?_
        refine .o1 (tg rfl rfl rfl (fun _ _ k => k.eq1 1 90 rfl) fun _ w hn k => ⟨_, v_move rfl (k.eq1 11 100 rfl), rfl⟩) ?_
        refine .o1 (sk rfl rfl rfl (fun _ _ _ k => k.eq1 12 101 rfl) (fun _ => rfl)) ?_
        refine .o1 (sk rfl rfl rfl (fun _ _ _ k => k.eq1 12 101 rfl) (fun _ => rfl)) ?_
        refine .o1 (tg rfl rfl rfl (fun _ _ k => k.eq1 1 90 rfl) fun _ w hn k => ⟨_, v_pickT rfl (k.eq1 12 101 rfl) rfl, rfl⟩) ?_
        refine .o1 (tg rfl rfl rfl (fun _ _ k => k.eq1 1 90 rfl) fun _ w hn k => ⟨_, v_move rfl (k.eq1 15 104 rfl), rfl⟩) ?_
        refine .o1 (sk rfl rfl rfl (fun _ _ _ k => k.eq1 16 105 rfl) (fun _ => rfl)) ?_
        refine .o1 (sk rfl rfl rfl (fun _ _ _ k => k.eq1 16 105 rfl) (fun _ => rfl)) ?_
        refine .o1 (sk rfl rfl rfl (fun _ _ _ k => k.eq1 16 105 rfl) (fun _ => rfl)) ?_
        refine .o1 (tg rfl rfl rfl (fun _ _ k => k.eq1 1 90 rfl) fun _ w hn k => ⟨_, v_pickT rfl (k.eq1 16 105 rfl) rfl, rfl⟩) ?_
        refine .o1 (tk rfl rfl fun _ w hn k => ⟨_, v_pickT rfl (k.eq1 1 90 rfl) (k.eq1 20 109 rfl), rfl⟩) ?_
        refine .o1 (tk rfl rfl fun _ w hn k => ⟨_, v_assign rfl (k.eq1 21 110 rfl), rfl⟩) ?_
        exact .nil
      intro a1257 w1258 hn1259 ha1260
      have hs1261 := ha1260.size.trans hs1211
      have hd1262 := ha1260.defers.trans hd1212
      have h1263 := ha1260.ge 22 6 rfl
      have hN1264 := hN1208.transNew hn1259
      clear hs1211 hd1212 h1213 hv1223 hv1256 h1216 h1217 h1220 h1221 hb1207 hq1154 hb1202 hq1198 hN1208 ha1260 hn1259
      refine st_nil ?_
      refine hK _ _ ?_
      clear hK K
      refine wp_ret (ret_k hd1262 (v := .bool true) (res_t rfl h1263 _) ?_)
      exact ⟨rfl, hN1264⟩
    have hv1265 : a1209.eval (.tmp 16) = .bool false := h1214.trans (congrArg Value.bool ht1222)
    clear h1214
    refine wp_g0 [true, true, true, true, true, true, true, true, true, true, true, true, true, true, true, true, true, true, true, true, true, true, true] [] 111
      [ve (.bool true),
       ve (.bool true),
       ve (.bool false),
       ve (.bool true),
       ve (.bool true),
       ve undef,
       ve undef,
       ve (.bool true),
       ve (.bool true),
       ve undef,
       ve undef,
       ve (.bool true),
       ve (.bool true),
       ve undef,
       ve undef,
       ve (.bool true),
       ve (.bool true),
       ve undef,
       ve undef,
       ve undef,
       ve (.bool true),
       ve (.bool true),
       ve (.bool true)] hs1211 (.eq (.eq (.eq (.eq (.eq (.eq (.eq (.eq (.eq (.eq (.eq (.eq (.eq (.eq (.eq (.eq (.eq (.eq (.eq (.eq (.eq (.eq (.eq (.nil)))))))))))))))))))))))) ?_ ?_
    · skip
      refine .o1 (ck rfl rfl rfl (fun _ w hn k => ⟨#[], rfl, fun _ => by kernel_rfl, first_c  _⟩) fun _ => rfl) ?_
      refine .o1 (tk rfl rfl fun _ w hn k => ⟨_, v_move rfl (k.eq1 0 89 rfl), rfl⟩) ?_
      refine .o1 (tg rfl rfl rfl (fun _ _ k => k.eq1 1 90 rfl) fun _ w hn k => ⟨_, v_move rfl (k.fx 16 hv1265), rfl⟩) ?_
      refine .o1 (tg rfl rfl rfl (fun _ _ k => k.eq1 1 90 rfl) fun _ w hn k => ⟨_, v_not rfl (k.eq1 2 91 rfl), rfl⟩) ?_
      refine .o1 (tg rfl rfl rfl (fun _ _ k => k.eq1 1 90 rfl) fun _ w hn k => ⟨_, v_move rfl (k.eq1 3 92 rfl), rfl⟩) ?_
      refine .o1 (sk rfl rfl rfl (fun _ _ _ k => k.eq1 4 93 rfl) (fun _ => rfl)) ?_
      refine .o1 (sk rfl rfl rfl (fun _ _ _ k => k.eq1 4 93 rfl) (fun _ => rfl)) ?_
      refine .o1 (tg rfl rfl rfl (fun _ _ k => k.eq1 1 90 rfl) fun _ w hn k => ⟨_, v_pickT rfl (k.eq1 4 93 rfl) rfl, rfl⟩) ?_
      refine .o1 (tg rfl rfl rfl (fun _ _ k => k.eq1 1 90 rfl) fun _ w hn k => ⟨_, v_move rfl (k.eq1 7 96 rfl), rfl⟩) ?_
      refine .o1 (sk rfl rfl rfl (fun _ _ _ k => k.eq1 8 97 rfl) (fun _ => rfl)) ?_
      refine .o1 (sk rfl rfl rfl (fun _ _ _ k => k.eq1 8 97 rfl) (fun _ => rfl)) ?_
      refine .o1 (tg rfl rfl rfl (fun _ _ k => k.eq1 1 90 rfl) fun _ w hn k => ⟨_, v_pickT rfl (k.eq1 8 97 rfl) rfl, rfl⟩) ?_
      refine .o1 (tg rfl rfl rfl (fun _ _ k => k.eq1 1 90 rfl) fun _ w hn k => ⟨_, v_move rfl (k.eq1 11 100 rfl), rfl⟩) ?_
      refine .o1 (sk rfl rfl rfl (fun _ _ _ k => k.eq1 12 101 rfl) (fun _ => rfl)) ?_
      refine .o1 (sk rfl rfl rfl (fun _ _ _ k => k.eq1 12 101 rfl) (fun _ => rfl)) ?_
      refine .o1 (tg rfl rfl rfl (fun _ _ k => k.eq1 1 90 rfl) fun _ w hn k => ⟨_, v_pickT rfl (k.eq1 12 101 rfl) rfl, rfl⟩) ?_
      refine .o1 (tg rfl rfl rfl (fun _ _ k => k.eq1 1 90 rfl) fun _ w hn k => ⟨_, v_move rfl (k.eq1 15 104 rfl), rfl⟩) ?_
      refine .o1 (sk rfl rfl rfl (fun _ _ _ k => k.eq1 16 105 rfl) (fun _ => rfl)) ?_
      refine .o1 (sk rfl rfl rfl (fun _ _ _ k => k.eq1 16 105 rfl) (fun _ => rfl)) ?_
      refine .o1 (sk rfl rfl rfl (fun _ _ _ k => k.eq1 16 105 rfl) (fun _ => rfl)) ?_
      refine .o1 (tg rfl rfl rfl (fun _ _ k => k.eq1 1 90 rfl) fun _ w hn k => ⟨_, v_pickT rfl (k.eq1 16 105 rfl) rfl, rfl⟩) ?_
      refine .o1 (tk rfl rfl fun _ w hn k => ⟨_, v_pickT rfl (k.eq1 1 90 rfl) (k.eq1 20 109 rfl), rfl⟩) ?_
      refine .o1 (tk rfl rfl fun _ w hn k => ⟨_, v_assign rfl (k.eq1 21 110 rfl), rfl⟩) ?_
      exact .nil
    intro a1266 w1267 hn1268 ha1269
    have hs1270 := ha1269.size.trans hs1211
    have hd1271 := ha1269.defers.trans hd1212
    have h1272 := ha1269.ge 22 6 rfl
    have hN1273 := hN1208.transNew hn1268
    clear hs1211 hd1212 h1213 hv1265 h1215 h1216 h1217 h1220 h1221 hb1207 hq1154 hb1202 hq1198 hN1208 ha1269 hn1268
    refine st_nil ?_
    refine hK _ _ ?_
    clear hK K
    refine wp_ret (ret_k hd1271 (v := .bool true) (res_t rfl h1272 _) ?_)
    exact ⟨rfl, hN1273⟩
  have hv1274 : a238.eval (.tmp 8) = .bool false := h246.trans (congrArg Value.bool ht254)
  clear h246
  refine wp_g0 [true, true, true, true, true, true, true, true, true, true, true, true, true, true, true, true] [] 111
    [ve (.bool false),
     ve (.bool false),
     ve undef,
     ve (.bool false),
     ve (.bool false),
     ve undef,
     ve (.bool false),
     ve (.bool false),
     ve undef,
     ve (.bool false),
     ve (.bool false),
     ve undef,
     ve undef,
     ve undef,
     ve undef,
     ve (.bool false)] hs240 (.eq (.eq (.eq (.eq (.eq (.eq (.eq (.eq (.eq (.eq (.eq (.eq (.eq (.eq (.eq (.eq (.nil))))))))))))))))) ?_ ?_
  · skip
    refine .o1 (tk rfl rfl fun _ w hn k => ⟨_, v_move rfl (k.fx 8 hv1274), rfl⟩) ?_
    refine .o1 (tk rfl rfl fun _ w hn k => ⟨_, v_move rfl (k.eq1 0 49 rfl), rfl⟩) ?_
    refine .o1 (sk rfl rfl rfl (fun _ _ _ k => k.eq1 1 50 rfl) (fun _ => rfl)) ?_
    refine .o1 (tk rfl rfl fun _ w hn k => ⟨_, v_pickF rfl (k.eq1 1 50 rfl) rfl, rfl⟩) ?_
    refine .o1 (tk rfl rfl fun _ w hn k => ⟨_, v_move rfl (k.eq1 3 52 rfl), rfl⟩) ?_
    refine .o1 (sk rfl rfl rfl (fun _ _ _ k => k.eq1 4 53 rfl) (fun _ => rfl)) ?_
    refine .o1 (tk rfl rfl fun _ w hn k => ⟨_, v_pickF rfl (k.eq1 4 53 rfl) rfl, rfl⟩) ?_
    refine .o1 (tk rfl rfl fun _ w hn k => ⟨_, v_move rfl (k.eq1 6 55 rfl), rfl⟩) ?_
    refine .o1 (sk rfl rfl rfl (fun _ _ _ k => k.eq1 7 56 rfl) (fun _ => rfl)) ?_
    refine .o1 (tk rfl rfl fun _ w hn k => ⟨_, v_pickF rfl (k.eq1 7 56 rfl) rfl, rfl⟩) ?_
    refine .o1 (tk rfl rfl fun _ w hn k => ⟨_, v_move rfl (k.eq1 9 58 rfl), rfl⟩) ?_
    refine .o1 (sk rfl rfl rfl (fun _ _ _ k => k.eq1 10 59 rfl) (fun _ => rfl)) ?_
    refine .o1 (sk rfl rfl rfl (fun _ _ _ k => k.eq1 10 59 rfl) (fun _ => rfl)) ?_
    refine .o1 (sk rfl rfl rfl (fun _ _ _ k => k.eq1 10 59 rfl) (fun _ => rfl)) ?_
    refine .o1 (sk rfl rfl rfl (fun _ _ _ k => k.eq1 10 59 rfl) (fun _ => rfl)) ?_
    refine .o1 (tk rfl rfl fun _ w hn k => ⟨_, v_pickF rfl (k.eq1 10 59 rfl) rfl, rfl⟩) ?_
    exact .nil
  intro a1275 w1276 hn1277 ha1278
  have hs1279 := ha1278.size.trans hs240
  have hd1280 := ha1278.defers.trans hd241
  have h1281 := ha1278.fx 3 h242
  have h1282 := ha1278.fx 4 h243
  have h1283 := ha1278.fx 5 h244
  have h1284 := ha1278.fx 6 h245
  have h1285 := ha1278.ge 15 64 rfl
  have hb1286 := hb233.new_ hn1277
  have hb1287 := hb234.new_ hn1277
  have hb1288 := hb235.new_ hn1277
  have hN1289 := hN237.transNew hn1277
  clear hs240 hd241 h242 h243 h244 h245 hv1274 h247 h248 h249 h252 h253 hb233 hb234 hb235 hb236 hq167 hb228 hq224 hN237 ha1278 hn1277
  refine st_nil ?_
  refine hK _ _ ?_
  clear hK K
  refine wp_cond_false h1285 ?_
  refine wp_skip ?_
  refine hK _ _ ?_
  clear hK K
  refine wp_seq_k fun K hK => ?_
  refine wp_g [true, true, true, true, true, true, true, false, false] [5] [(7, false), (8, true)] 111
    [ve (nv a),
     ve (nv b),
     ve (.tuple #[nv ((mulM a b).1), .bool ((mulM a b).2)]),
     ve (.tuple #[nv ((mulM a b).1), .bool ((mulM a b).2)]),
     ve (nv ((mulM a b).1)),
     ve (.bool ((mulM a b).2)),
     IsNew w1276 23 [iv 0, iv 0],
     vt,
     vt]
    [6] (newsCons (fun v w h => IsNew.old h) newsNil) hs1279 (.eq (.eq (.eq (.eq (.eq (.eq (.nw (.tt (.tt (.nil)))))))))) ?_ ?_ ?_
  · skip
    refine .o1 (tk rfl rfl fun _ w hn k => ⟨_, v_load rfl (k.fx 3 h1281) (l_two Tryd.isAgg23 Tryd.sizeOf23 (hb1286.new_ hn)), rfl⟩) ?_
    refine .o1 (tk rfl rfl fun _ w hn k => ⟨_, v_load rfl (k.fx 4 h1282) (l_two Tryd.isAgg23 Tryd.sizeOf23 (hb1287.new_ hn)), rfl⟩) ?_
    refine .o1 (ck rfl rfl rfl (fun _ w hn k => ⟨#[nv a, nv b], args2 (k.eq1 0 66 rfl) (k.eq1 1 67 rfl), fun _ => by kernel_rfl, mul_c a b _⟩) fun _ => rfl) ?_
    refine .o1 (tk rfl rfl fun _ w hn k => ⟨_, v_move rfl (k.eq1 2 68 rfl), rfl⟩) ?_
    refine .o1 (tk rfl rfl fun _ w hn k => ⟨_, v_extract rfl (k.eq1 3 65 rfl) rfl, rfl⟩) ?_
    refine .o3 ?_
    refine .o2 (step_allocN (cs := [iv 0, iv 0]) (t := 23) rfl (noG rfl) (fun _ w hn k => rfl) (fun q _ hq hb => ⟨q, rfl, hq, hb⟩)) ?_
    refine .off ?_
    refine .off ?_
    exact .nil
  · skip
    intro i h
    simp only [List.contains_eq_mem, List.mem_cons, List.not_mem_nil, or_false, decide_eq_true_eq] at h
    subst h
    · exact eager_take rfl rfl fun _ w hn k => ⟨.bool ((mulM a b).2), fun w => v_extract rfl (k.eq1 3 65 rfl) rfl, rfl⟩
  intro a1290 w1291 hn1292 ha1293
  have hs1294 := ha1293.size.trans hs1279
  have hd1295 := ha1293.defers.trans hd1280
  have h1296 := ha1293.fx 3 h1281
  have h1297 := ha1293.fx 4 h1282
  have h1298 := ha1293.fx 5 h1283
  have h1299 := ha1293.fx 6 h1284
  have h1300 := ha1293.ge 4 69 rfl
  have h1301 := ha1293.ge 5 70 rfl
  obtain ⟨q1303, h1302, hq1304, hb1305⟩ : IsNew _ _ _ _ _ := ha1293.got 6 15 rfl (by kernel_rfl)
  have hb1306 := hb1286.new_ hn1292
  have hb1307 := hb1287.new_ hn1292
  have hb1308 := hb1288.new_ hn1292
  have hne1309 : q8 ≠ q1303 := by have h1 := hb1286.lt; have h2 := hq1304; omega
  have hne1310 : q12 ≠ q1303 := by have h1 := hb1287.lt; have h2 := hq1304; omega
  have hne1311 : q16 ≠ q1303 := by have h1 := hb1288.lt; have h2 := hq1304; omega
  have hq1312 := Nat.le_trans hN1289.size hq1304
  have hN1313 := hN1289.transNew hn1292
  clear hs1279 hd1280 h1281 h1282 h1283 h1284 h1285 hb1286 hb1287 hb1288 hq1304 hN1289 ha1293 hn1292
  obtain ⟨w1314, -, hst1315, hb1316, hu1317, hf1318⟩ := s_two (v0 := iv ((mulM a b).1.k)) (v1 := iv ((mulM a b).1.n)) Tryd.sizeOf23 rfl rfl rfl hb1305
  refine st_act rfl rfl fun K1319 hL1320 => a_store' rfl h1302 h1300 hst1315 (hL1320 _ _ trivial ?_)
  have hb1321 := hf1318 _ _ _ (hne1309) hb1306
  have hb1322 := hf1318 _ _ _ (hne1310) hb1307
  have hb1323 := hf1318 _ _ _ (hne1311) hb1308
  have hN1324 := hN1313.trans hu1317 (fun k hk hkb => by subst hkb; omega)
  clear hb1305 hst1315 K1319 hL1320 hN1313 hb1306 hb1307 hb1308 hu1317 hf1318
  refine st_take rfl rfl (y_assign (v := .bool ((mulM a b).2)) rfl h1301) rfl ?_
  obtain ⟨a1325, ha1326⟩ : ∃ a', a' = a1290.put (some 16) (.bool ((mulM a b).2)) := ⟨_, rfl⟩
  have hs1327 : a1325.tmps.size = 111 := by rw [ha1326, put_size]; exact hs1294
  have hd1328 : a1325.defers = [] := by rw [ha1326, put_defers]; exact hd1295
  have h1329 : a1325.eval (.tmp 3) = pv q8 := by rw [ha1326, put_ne _ _ _ _ (by decide)]; exact h1296
  have h1330 : a1325.eval (.tmp 4) = pv q12 := by rw [ha1326, put_ne _ _ _ _ (by decide)]; exact h1297
  have h1331 : a1325.eval (.tmp 5) = pv q16 := by rw [ha1326, put_ne _ _ _ _ (by decide)]; exact h1298
  have h1332 : a1325.eval (.tmp 6) = .bool false := by rw [ha1326, put_ne _ _ _ _ (by decide)]; exact h1299
  have h1333 : a1325.eval (.tmp 69) = nv ((mulM a b).1) := by rw [ha1326, put_ne _ _ _ _ (by decide)]; exact h1300
  have h1334 : a1325.eval (.tmp 70) = .bool ((mulM a b).2) := by rw [ha1326, put_ne _ _ _ _ (by decide)]; exact h1301
  have h1335 : a1325.eval (.tmp 15) = pv q1303 := by rw [ha1326, put_ne _ _ _ _ (by decide)]; exact h1302
  have h1336 : a1325.eval (.tmp 16) = .bool ((mulM a b).2) := by rw [ha1326]; exact put_same _ _ _ (by rw [hs1294]; decide)
  show stepsTo _ _ _ _ _ (a1290.put (some 16) (.bool ((mulM a b).2))) _
  rw [← ha1326]
  clear ha1326 hs1294 hd1295 h1296 h1297 h1298 h1299 h1300 h1301 h1302
  clear hne1309
  clear hne1310
  clear hne1311
  refine st_nil ?_
  clear h1333 h1334
  refine hK _ _ ?_
  clear hK K
  refine wp_seq_k fun K hK => ?_
  refine wp_g [true, true, true, true, true, true, true, false, false] [5] [(7, false), (8, true)] 111
    [ve (nv b),
     ve (nv c),
     ve (.tuple #[nv ((mulM b c).1), .bool ((mulM b c).2)]),
     ve (.tuple #[nv ((mulM b c).1), .bool ((mulM b c).2)]),
     ve (nv ((mulM b c).1)),
     ve (.bool ((mulM b c).2)),
     IsNew w1314 23 [iv 0, iv 0],
     vt,
     vt]
    [6] (newsCons (fun v w h => IsNew.old h) newsNil) hs1327 (.eq (.eq (.eq (.eq (.eq (.eq (.nw (.tt (.tt (.nil)))))))))) ?_ ?_ ?_
  · skip
    refine .o1 (tk rfl rfl fun _ w hn k => ⟨_, v_load rfl (k.fx 4 h1330) (l_two Tryd.isAgg23 Tryd.sizeOf23 (hb1322.new_ hn)), rfl⟩) ?_
    refine .o1 (tk rfl rfl fun _ w hn k => ⟨_, v_load rfl (k.fx 5 h1331) (l_two Tryd.isAgg23 Tryd.sizeOf23 (hb1323.new_ hn)), rfl⟩) ?_
    refine .o1 (ck rfl rfl rfl (fun _ w hn k => ⟨#[nv b, nv c], args2 (k.eq1 0 72 rfl) (k.eq1 1 73 rfl), fun _ => by kernel_rfl, mul_c b c _⟩) fun _ => rfl) ?_
    refine .o1 (tk rfl rfl fun _ w hn k => ⟨_, v_move rfl (k.eq1 2 74 rfl), rfl⟩) ?_
    refine .o1 (tk rfl rfl fun _ w hn k => ⟨_, v_extract rfl (k.eq1 3 71 rfl) rfl, rfl⟩) ?_
    refine .o3 ?_
    refine .o2 (step_allocN (cs := [iv 0, iv 0]) (t := 23) rfl (noG rfl) (fun _ w hn k => rfl) (fun q _ hq hb => ⟨q, rfl, hq, hb⟩)) ?_
    refine .off ?_
    refine .off ?_
    exact .nil
  · skip
    intro i h
    simp only [List.contains_eq_mem, List.mem_cons, List.not_mem_nil, or_false, decide_eq_true_eq] at h
    subst h
    · exact eager_take rfl rfl fun _ w hn k => ⟨.bool ((mulM b c).2), fun w => v_extract rfl (k.eq1 3 71 rfl) rfl, rfl⟩
  intro a1337 w1338 hn1339 ha1340
  have hs1341 := ha1340.size.trans hs1327
  have hd1342 := ha1340.defers.trans hd1328
  have h1343 := ha1340.fx 3 h1329
  have h1344 := ha1340.fx 5 h1331
  have h1345 := ha1340.fx 6 h1332
  have h1346 := ha1340.fx 15 h1335
  have h1347 := ha1340.fx 16 h1336
  have h1348 := ha1340.ge 4 75 rfl
  have h1349 := ha1340.ge 5 76 rfl
  obtain ⟨q1351, h1350, hq1352, hb1353⟩ : IsNew _ _ _ _ _ := ha1340.got 6 17 rfl (by kernel_rfl)
  have hb1354 := hb1321.new_ hn1339
  have hb1355 := hb1323.new_ hn1339
  have hb1356 := hb1316.new_ hn1339
  have hne1357 : q8 ≠ q1351 := by have h1 := hb1321.lt; have h2 := hq1352; omega
  have hne1358 : q16 ≠ q1351 := by have h1 := hb1323.lt; have h2 := hq1352; omega
  have hne1359 : q1303 ≠ q1351 := by have h1 := hb1316.lt; have h2 := hq1352; omega
  have hq1360 := Nat.le_trans hN1324.size hq1352
  have hN1361 := hN1324.transNew hn1339
  clear hs1327 hd1328 h1329 h1330 h1331 h1332 h1335 h1336 hb1321 hb1322 hq21 hb1323 hb1316 hq1352 hN1324 ha1340 hn1339
  obtain ⟨w1362, -, hst1363, hb1364, hu1365, hf1366⟩ := s_two (v0 := iv ((mulM b c).1.k)) (v1 := iv ((mulM b c).1.n)) Tryd.sizeOf23 rfl rfl rfl hb1353
  refine st_act rfl rfl fun K1367 hL1368 => a_store' rfl h1350 h1348 hst1363 (hL1368 _ _ trivial ?_)
  have hb1369 := hf1366 _ _ _ (hne1357) hb1354
  have hb1370 := hf1366 _ _ _ (hne1358) hb1355
  have hb1371 := hf1366 _ _ _ (hne1359) hb1356
  have hN1372 := hN1361.trans hu1365 (fun k hk hkb => by subst hkb; omega)
  clear hb1353 hst1363 K1367 hL1368 hN1361 hb1354 hb1355 hb1356 hu1365 hf1366
  refine st_take rfl rfl (y_assign (v := .bool ((mulM b c).2)) rfl h1349) rfl ?_
  obtain ⟨a1373, ha1374⟩ : ∃ a', a' = a1337.put (some 18) (.bool ((mulM b c).2)) := ⟨_, rfl⟩
  have hs1375 : a1373.tmps.size = 111 := by rw [ha1374, put_size]; exact hs1341
  have hd1376 : a1373.defers = [] := by rw [ha1374, put_defers]; exact hd1342
  have h1377 : a1373.eval (.tmp 3) = pv q8 := by rw [ha1374, put_ne _ _ _ _ (by decide)]; exact h1343
  have h1378 : a1373.eval (.tmp 5) = pv q16 := by rw [ha1374, put_ne _ _ _ _ (by decide)]; exact h1344
  have h1379 : a1373.eval (.tmp 6) = .bool false := by rw [ha1374, put_ne _ _ _ _ (by decide)]; exact h1345
  have h1380 : a1373.eval (.tmp 15) = pv q1303 := by rw [ha1374, put_ne _ _ _ _ (by decide)]; exact h1346
  have h1381 : a1373.eval (.tmp 16) = .bool ((mulM a b).2) := by rw [ha1374, put_ne _ _ _ _ (by decide)]; exact h1347
  have h1382 : a1373.eval (.tmp 75) = nv ((mulM b c).1) := by rw [ha1374, put_ne _ _ _ _ (by decide)]; exact h1348
  have h1383 : a1373.eval (.tmp 76) = .bool ((mulM b c).2) := by rw [ha1374, put_ne _ _ _ _ (by decide)]; exact h1349
  have h1384 : a1373.eval (.tmp 17) = pv q1351 := by rw [ha1374, put_ne _ _ _ _ (by decide)]; exact h1350
  have h1385 : a1373.eval (.tmp 18) = .bool ((mulM b c).2) := by rw [ha1374]; exact put_same _ _ _ (by rw [hs1341]; decide)
  show stepsTo _ _ _ _ _ (a1337.put (some 18) (.bool ((mulM b c).2))) _
  rw [← ha1374]
  clear ha1374 hs1341 hd1342 h1343 h1344 h1345 h1346 h1347 h1348 h1349 h1350
  clear hne1357
  clear hne1358
  clear hne1359
  refine st_nil ?_
  clear h1382 h1383
  refine hK _ _ ?_
  clear hK K
  refine wp_seq_k fun K hK => ?_
  refine wp_g [true, true, true, true, true, true, true, false, false] [5] [(7, false), (8, true)] 111
    [ve (nv ((mulM a b).1)),
     ve (nv c),
     ve (.tuple #[nv ((mulM ((mulM a b).1) c).1), .bool ((mulM ((mulM a b).1) c).2)]),
     ve (.tuple #[nv ((mulM ((mulM a b).1) c).1), .bool ((mulM ((mulM a b).1) c).2)]),
     ve (nv ((mulM ((mulM a b).1) c).1)),
     ve (.bool ((mulM ((mulM a b).1) c).2)),
     IsNew w1362 23 [iv 0, iv 0],
     vt,
     vt]
    [6] (newsCons (fun v w h => IsNew.old h) newsNil) hs1375 (.eq (.eq (.eq (.eq (.eq (.eq (.nw (.tt (.tt (.nil)))))))))) ?_ ?_ ?_
  · skip
    refine .o1 (tk rfl rfl fun _ w hn k => ⟨_, v_load rfl (k.fx 15 h1380) (l_two Tryd.isAgg23 Tryd.sizeOf23 (hb1371.new_ hn)), rfl⟩) ?_
    refine .o1 (tk rfl rfl fun _ w hn k => ⟨_, v_load rfl (k.fx 5 h1378) (l_two Tryd.isAgg23 Tryd.sizeOf23 (hb1370.new_ hn)), rfl⟩) ?_
    refine .o1 (ck rfl rfl rfl (fun _ w hn k => ⟨#[nv ((mulM a b).1), nv c], args2 (k.eq1 0 78 rfl) (k.eq1 1 79 rfl), fun _ => by kernel_rfl, mul_c ((mulM a b).1) c _⟩) fun _ => rfl) ?_
    refine .o1 (tk rfl rfl fun _ w hn k => ⟨_, v_move rfl (k.eq1 2 80 rfl), rfl⟩) ?_
    refine .o1 (tk rfl rfl fun _ w hn k => ⟨_, v_extract rfl (k.eq1 3 77 rfl) rfl, rfl⟩) ?_
    refine .o3 ?_
    refine .o2 (step_allocN (cs := [iv 0, iv 0]) (t := 23) rfl (noG rfl) (fun _ w hn k => rfl) (fun q _ hq hb => ⟨q, rfl, hq, hb⟩)) ?_
    refine .off ?_
    refine .off ?_
    exact .nil
  · skip
    intro i h
    simp only [List.contains_eq_mem, List.mem_cons, List.not_mem_nil, or_false, decide_eq_true_eq] at h
    subst h
    · exact eager_take rfl rfl fun _ w hn k => ⟨.bool ((mulM ((mulM a b).1) c).2), fun w => v_extract rfl (k.eq1 3 77 rfl) rfl, rfl⟩
  intro a1386 w1387 hn1388 ha1389
  have hs1390 := ha1389.size.trans hs1375
  have hd1391 := ha1389.defers.trans hd1376
  have h1392 := ha1389.fx 3 h1377
  have h1393 := ha1389.fx 6 h1379
  have h1394 := ha1389.fx 16 h1381
  have h1395 := ha1389.fx 17 h1384
  have h1396 := ha1389.fx 18 h1385
  have h1397 := ha1389.ge 4 81 rfl
  have h1398 := ha1389.ge 5 82 rfl
  obtain ⟨q1400, h1399, hq1401, hb1402⟩ : IsNew _ _ _ _ _ := ha1389.got 6 19 rfl (by kernel_rfl)
  have hb1403 := hb1369.new_ hn1388
  have hb1404 := hb1364.new_ hn1388
  have hne1405 : q8 ≠ q1400 := by have h1 := hb1369.lt; have h2 := hq1401; omega
  have hne1406 : q1351 ≠ q1400 := by have h1 := hb1364.lt; have h2 := hq1401; omega
  have hq1407 := Nat.le_trans hN1372.size hq1401
  have hN1408 := hN1372.transNew hn1388
  clear hs1375 hd1376 h1377 h1378 h1379 h1380 h1381 h1384 h1385 hb1369 hb1370 hq22 hb1371 hq1312 hb1364 hq1401 hN1372 ha1389 hn1388
  obtain ⟨w1409, -, hst1410, hb1411, hu1412, hf1413⟩ := s_two (v0 := iv ((mulM ((mulM a b).1) c).1.k)) (v1 := iv ((mulM ((mulM a b).1) c).1.n)) Tryd.sizeOf23 rfl rfl rfl hb1402
  refine st_act rfl rfl fun K1414 hL1415 => a_store' rfl h1399 h1397 hst1410 (hL1415 _ _ trivial ?_)
  have hb1416 := hf1413 _ _ _ (hne1405) hb1403
  have hb1417 := hf1413 _ _ _ (hne1406) hb1404
  have hN1418 := hN1408.trans hu1412 (fun k hk hkb => by subst hkb; omega)
  clear hb1402 hst1410 K1414 hL1415 hN1408 hb1403 hb1404 hu1412 hf1413
  refine st_take rfl rfl (y_assign (v := .bool ((mulM ((mulM a b).1) c).2)) rfl h1398) rfl ?_
  obtain ⟨a1419, ha1420⟩ : ∃ a', a' = a1386.put (some 20) (.bool ((mulM ((mulM a b).1) c).2)) := ⟨_, rfl⟩
  have hs1421 : a1419.tmps.size = 111 := by rw [ha1420, put_size]; exact hs1390
  have hd1422 : a1419.defers = [] := by rw [ha1420, put_defers]; exact hd1391
  have h1423 : a1419.eval (.tmp 3) = pv q8 := by rw [ha1420, put_ne _ _ _ _ (by decide)]; exact h1392
  have h1424 : a1419.eval (.tmp 6) = .bool false := by rw [ha1420, put_ne _ _ _ _ (by decide)]; exact h1393
  have h1425 : a1419.eval (.tmp 16) = .bool ((mulM a b).2) := by rw [ha1420, put_ne _ _ _ _ (by decide)]; exact h1394
  have h1426 : a1419.eval (.tmp 17) = pv q1351 := by rw [ha1420, put_ne _ _ _ _ (by decide)]; exact h1395
  have h1427 : a1419.eval (.tmp 18) = .bool ((mulM b c).2) := by rw [ha1420, put_ne _ _ _ _ (by decide)]; exact h1396
  have h1428 : a1419.eval (.tmp 81) = nv ((mulM ((mulM a b).1) c).1) := by rw [ha1420, put_ne _ _ _ _ (by decide)]; exact h1397
  have h1429 : a1419.eval (.tmp 82) = .bool ((mulM ((mulM a b).1) c).2) := by rw [ha1420, put_ne _ _ _ _ (by decide)]; exact h1398
  have h1430 : a1419.eval (.tmp 19) = pv q1400 := by rw [ha1420, put_ne _ _ _ _ (by decide)]; exact h1399
  have h1431 : a1419.eval (.tmp 20) = .bool ((mulM ((mulM a b).1) c).2) := by rw [ha1420]; exact put_same _ _ _ (by rw [hs1390]; decide)
  show stepsTo _ _ _ _ _ (a1386.put (some 20) (.bool ((mulM ((mulM a b).1) c).2))) _
  rw [← ha1420]
  clear ha1420 hs1390 hd1391 h1392 h1393 h1394 h1395 h1396 h1397 h1398 h1399
  clear hne1405
  clear hne1406
  refine st_nil ?_
  clear h1428 h1429
  refine hK _ _ ?_
  clear hK K
  refine wp_seq_k fun K hK => ?_
  refine wp_g [true, true, true, true, true, true, true, false, false] [5] [(7, false), (8, true)] 111
    [ve (nv a),
     ve (nv ((mulM b c).1)),
     ve (.tuple #[nv ((mulM a ((mulM b c).1)).1), .bool ((mulM a ((mulM b c).1)).2)]),
     ve (.tuple #[nv ((mulM a ((mulM b c).1)).1), .bool ((mulM a ((mulM b c).1)).2)]),
     ve (nv ((mulM a ((mulM b c).1)).1)),
     ve (.bool ((mulM a ((mulM b c).1)).2)),
     IsNew w1409 23 [iv 0, iv 0],
     vt,
     vt]
    [6] (newsCons (fun v w h => IsNew.old h) newsNil) hs1421 (.eq (.eq (.eq (.eq (.eq (.eq (.nw (.tt (.tt (.nil)))))))))) ?_ ?_ ?_
  · skip
    refine .o1 (tk rfl rfl fun _ w hn k => ⟨_, v_load rfl (k.fx 3 h1423) (l_two Tryd.isAgg23 Tryd.sizeOf23 (hb1416.new_ hn)), rfl⟩) ?_
    refine .o1 (tk rfl rfl fun _ w hn k => ⟨_, v_load rfl (k.fx 17 h1426) (l_two Tryd.isAgg23 Tryd.sizeOf23 (hb1417.new_ hn)), rfl⟩) ?_
    refine .o1 (ck rfl rfl rfl (fun _ w hn k => ⟨#[nv a, nv ((mulM b c).1)], args2 (k.eq1 0 84 rfl) (k.eq1 1 85 rfl), fun _ => by kernel_rfl, mul_c a ((mulM b c).1) _⟩) fun _ => rfl) ?_
    refine .o1 (tk rfl rfl fun _ w hn k => ⟨_, v_move rfl (k.eq1 2 86 rfl), rfl⟩) ?_
    refine .o1 (tk rfl rfl fun _ w hn k => ⟨_, v_extract rfl (k.eq1 3 83 rfl) rfl, rfl⟩) ?_
    refine .o3 ?_
    refine .o2 (step_allocN (cs := [iv 0, iv 0]) (t := 23) rfl (noG rfl) (fun _ w hn k => rfl) (fun q _ hq hb => ⟨q, rfl, hq, hb⟩)) ?_
    refine .off ?_
    refine .off ?_
    exact .nil
  · skip
    intro i h
    simp only [List.contains_eq_mem, List.mem_cons, List.not_mem_nil, or_false, decide_eq_true_eq] at h
    subst h
    · exact eager_take rfl rfl fun _ w hn k => ⟨.bool ((mulM a ((mulM b c).1)).2), fun w => v_extract rfl (k.eq1 3 83 rfl) rfl, rfl⟩
  intro a1432 w1433 hn1434 ha1435
  have hs1436 := ha1435.size.trans hs1421
  have hd1437 := ha1435.defers.trans hd1422
  have h1438 := ha1435.fx 6 h1424
  have h1439 := ha1435.fx 16 h1425
  have h1440 := ha1435.fx 18 h1427
  have h1441 := ha1435.fx 19 h1430
  have h1442 := ha1435.fx 20 h1431
  have h1443 := ha1435.ge 4 87 rfl
  have h1444 := ha1435.ge 5 88 rfl
  obtain ⟨q1446, h1445, hq1447, hb1448⟩ : IsNew _ _ _ _ _ := ha1435.got 6 21 rfl (by kernel_rfl)
  have hb1449 := hb1411.new_ hn1434
  have hne1450 : q1400 ≠ q1446 := by have h1 := hb1411.lt; have h2 := hq1447; omega
  have hq1451 := Nat.le_trans hN1418.size hq1447
  have hN1452 := hN1418.transNew hn1434
  clear hs1421 hd1422 h1423 h1424 h1425 h1426 h1427 h1430 h1431 hb1416 hq20 hb1417 hq1360 hb1411 hq1447 hN1418 ha1435 hn1434
  obtain ⟨w1453, -, hst1454, hb1455, hu1456, hf1457⟩ := s_two (v0 := iv ((mulM a ((mulM b c).1)).1.k)) (v1 := iv ((mulM a ((mulM b c).1)).1.n)) Tryd.sizeOf23 rfl rfl rfl hb1448
  refine st_act rfl rfl fun K1458 hL1459 => a_store' rfl h1445 h1443 hst1454 (hL1459 _ _ trivial ?_)
  have hb1460 := hf1457 _ _ _ (hne1450) hb1449
  have hN1461 := hN1452.trans hu1456 (fun k hk hkb => by subst hkb; omega)
  clear hb1448 hst1454 K1458 hL1459 hN1452 hb1449 hu1456 hf1457
  refine st_take rfl rfl (y_assign (v := .bool ((mulM a ((mulM b c).1)).2)) rfl h1444) rfl ?_
  obtain ⟨a1462, ha1463⟩ : ∃ a', a' = a1432.put (some 22) (.bool ((mulM a ((mulM b c).1)).2)) := ⟨_, rfl⟩
  have hs1464 : a1462.tmps.size = 111 := by rw [ha1463, put_size]; exact hs1436
  have hd1465 : a1462.defers = [] := by rw [ha1463, put_defers]; exact hd1437
  have h1466 : a1462.eval (.tmp 6) = .bool false := by rw [ha1463, put_ne _ _ _ _ (by decide)]; exact h1438
  have h1467 : a1462.eval (.tmp 16) = .bool ((mulM a b).2) := by rw [ha1463, put_ne _ _ _ _ (by decide)]; exact h1439
  have h1468 : a1462.eval (.tmp 18) = .bool ((mulM b c).2) := by rw [ha1463, put_ne _ _ _ _ (by decide)]; exact h1440
  have h1469 : a1462.eval (.tmp 19) = pv q1400 := by rw [ha1463, put_ne _ _ _ _ (by decide)]; exact h1441
  have h1470 : a1462.eval (.tmp 20) = .bool ((mulM ((mulM a b).1) c).2) := by rw [ha1463, put_ne _ _ _ _ (by decide)]; exact h1442
  have h1471 : a1462.eval (.tmp 87) = nv ((mulM a ((mulM b c).1)).1) := by rw [ha1463, put_ne _ _ _ _ (by decide)]; exact h1443
  have h1472 : a1462.eval (.tmp 88) = .bool ((mulM a ((mulM b c).1)).2) := by rw [ha1463, put_ne _ _ _ _ (by decide)]; exact h1444
  have h1473 : a1462.eval (.tmp 21) = pv q1446 := by rw [ha1463, put_ne _ _ _ _ (by decide)]; exact h1445
  have h1474 : a1462.eval (.tmp 22) = .bool ((mulM a ((mulM b c).1)).2) := by rw [ha1463]; exact put_same _ _ _ (by rw [hs1436]; decide)
  show stepsTo _ _ _ _ _ (a1432.put (some 22) (.bool ((mulM a ((mulM b c).1)).2))) _
  rw [← ha1463]
  clear ha1463 hs1436 hd1437 h1438 h1439 h1440 h1441 h1442 h1443 h1444 h1445
  clear hne1450
  refine st_nil ?_
  clear h1471 h1472
  refine hK _ _ ?_
  clear hK K
  refine wp_seq_k fun K hK => ?_
  rcases Bool.eq_false_or_eq_true ((mulM a b).2) with ht1475 | ht1475
  · skip
    have hv1476 : a1462.eval (.tmp 16) = .bool true := h1467.trans (congrArg Value.bool ht1475)
    clear h1467
    rcases Bool.eq_false_or_eq_true ((mulM b c).2) with ht1477 | ht1477
    · skip
      have hv1478 : a1462.eval (.tmp 18) = .bool true := h1468.trans (congrArg Value.bool ht1477)
      clear h1468
      rcases Bool.eq_false_or_eq_true ((mulM ((mulM a b).1) c).2) with ht1479 | ht1479
      · skip
        have hv1480 : a1462.eval (.tmp 20) = .bool true := h1470.trans (congrArg Value.bool ht1479)
        clear h1470
        rcases Bool.eq_false_or_eq_true ((mulM a ((mulM b c).1)).2) with ht1481 | ht1481
        · skip
          have hv1482 : a1462.eval (.tmp 22) = .bool true := h1474.trans (congrArg Value.bool ht1481)
          clear h1474
          refine wp_g0 [true, true, true, true, true, true, true, true, true, true, true, true, true, true, true, true, true, true, true, true, true, true, true] [] 111
            [ve (.bool true),
             ve (.bool true),
             ve (.bool true),
             ve (.bool false),
             ve (.bool false),
             ve (.bool true),
             ve (.bool false),
             ve (.bool false),
             ve (.bool false),
             ve (.bool true),
             ve (.bool false),
             ve (.bool false),
             ve (.bool false),
             ve (.bool true),
             ve (.bool false),
             ve (.bool false),
             ve (.bool false),
             ve (nv ((mulM ((mulM a b).1) c).1)),
             ve (nv ((mulM a ((mulM b c).1)).1)),
             ve (.bool (sameM ((mulM ((mulM a b).1) c).1) ((mulM a ((mulM b c).1)).1))),
             ve (.bool (sameM ((mulM ((mulM a b).1) c).1) ((mulM a ((mulM b c).1)).1))),
             ve (.bool (sameM ((mulM ((mulM a b).1) c).1) ((mulM a ((mulM b c).1)).1))),
             ve (.bool (sameM ((mulM ((mulM a b).1) c).1) ((mulM a ((mulM b c).1)).1)))] hs1464 (.eq (.eq (.eq (.eq (.eq (.eq (.eq (.eq (.eq (.eq (.eq (.eq (.eq (.eq (.eq (.eq (.eq (.eq (.eq (.eq (.eq (.eq (.eq (.nil)))))))))))))))))))))))) ?_ ?_
          · skip
            refine .o1 (ck rfl rfl rfl (fun _ w hn k => ⟨#[], rfl, fun _ => by kernel_rfl, first_c  _⟩) fun _ => rfl) ?_
            refine .o1 (tk rfl rfl fun _ w hn k => ⟨_, v_move rfl (k.eq1 0 89 rfl), rfl⟩) ?_
            refine .o1 (tg rfl rfl rfl (fun _ _ k => k.eq1 1 90 rfl) fun _ w hn k => ⟨_, v_move rfl (k.fx 16 hv1476), rfl⟩) ?_
            refine .o1 (tg rfl rfl rfl (fun _ _ k => k.eq1 1 90 rfl) fun _ w hn k => ⟨_, v_not rfl (k.eq1 2 91 rfl), rfl⟩) ?_
            refine .o1 (tg rfl rfl rfl (fun _ _ k => k.eq1 1 90 rfl) fun _ w hn k => ⟨_, v_move rfl (k.eq1 3 92 rfl), rfl⟩) ?_
            refine .o1 (tg rfl rfl rfl (fun _ _ k => k.eq1 4 93 rfl) fun _ w hn k => ⟨_, v_move rfl (k.fx 18 hv1478), rfl⟩) ?_
            refine .o1 (tg rfl rfl rfl (fun _ _ k => k.eq1 4 93 rfl) fun _ w hn k => ⟨_, v_not rfl (k.eq1 5 94 rfl), rfl⟩) ?_
            refine .o1 (tg rfl rfl rfl (fun _ _ k => k.eq1 1 90 rfl) fun _ w hn k => ⟨_, v_pickF rfl (k.eq1 4 93 rfl) (k.eq1 6 95 rfl), rfl⟩) ?_
            refine .o1 (tg rfl rfl rfl (fun _ _ k => k.eq1 1 90 rfl) fun _ w hn k => ⟨_, v_move rfl (k.eq1 7 96 rfl), rfl⟩) ?_
            refine .o1 (tg rfl rfl rfl (fun _ _ k => k.eq1 8 97 rfl) fun _ w hn k => ⟨_, v_move rfl (k.fx 20 hv1480), rfl⟩) ?_
            refine .o1 (tg rfl rfl rfl (fun _ _ k => k.eq1 8 97 rfl) fun _ w hn k => ⟨_, v_not rfl (k.eq1 9 98 rfl), rfl⟩) ?_
            refine .o1 (tg rfl rfl rfl (fun _ _ k => k.eq1 1 90 rfl) fun _ w hn k => ⟨_, v_pickF rfl (k.eq1 8 97 rfl) (k.eq1 10 99 rfl), rfl⟩) ?_
            refine .o1 (tg rfl rfl rfl (fun _ _ k => k.eq1 1 90 rfl) fun _ w hn k => ⟨_, v_move rfl (k.eq1 11 100 rfl), rfl⟩) ?_
            refine .o1 (tg rfl rfl rfl (fun _ _ k => k.eq1 12 101 rfl) fun _ w hn k => ⟨_, v_move rfl (k.fx 22 hv1482), rfl⟩) ?_
            refine .o1 (tg rfl rfl rfl (fun _ _ k => k.eq1 12 101 rfl) fun _ w hn k => ⟨_, v_not rfl (k.eq1 13 102 rfl), rfl⟩) ?_
            refine .o1 (tg rfl rfl rfl (fun _ _ k => k.eq1 1 90 rfl) fun _ w hn k => ⟨_, v_pickF rfl (k.eq1 12 101 rfl) (k.eq1 14 103 rfl), rfl⟩) ?_
            refine .o1 (tg rfl rfl rfl (fun _ _ k => k.eq1 1 90 rfl) fun _ w hn k => ⟨_, v_move rfl (k.eq1 15 104 rfl), rfl⟩) ?_
            refine .o1 (tg rfl rfl rfl (fun _ _ k => k.eq1 16 105 rfl) fun _ w hn k => ⟨_, v_load rfl (k.fx 19 h1469) (l_two Tryd.isAgg23 Tryd.sizeOf23 (hb1460.new_ hn)), rfl⟩) ?_
            refine .o1 (tg rfl rfl rfl (fun _ _ k => k.eq1 16 105 rfl) fun _ w hn k => ⟨_, v_load rfl (k.fx 21 h1473) (l_two Tryd.isAgg23 Tryd.sizeOf23 (hb1455.new_ hn)), rfl⟩) ?_
            refine .o1 (cg rfl rfl rfl (fun _ _ k => k.eq1 16 105 rfl) rfl (fun _ w hn k => ⟨#[nv ((mulM ((mulM a b).1) c).1), nv ((mulM a ((mulM b c).1)).1)], args2 (k.eq1 17 106 rfl) (k.eq1 18 107 rfl), fun _ => by kernel_rfl, same_c ((mulM ((mulM a b).1) c).1) ((mulM a ((mulM b c).1)).1) _⟩) fun _ => rfl) ?_
            refine .o1 (tg rfl rfl rfl (fun _ _ k => k.eq1 1 90 rfl) fun _ w hn k => ⟨_, v_pickF rfl (k.eq1 16 105 rfl) (k.eq1 19 108 rfl), rfl⟩) ?_
            refine .o1 (tk rfl rfl fun _ w hn k => ⟨_, v_pickT rfl (k.eq1 1 90 rfl) (k.eq1 20 109 rfl), rfl⟩) ?_
            refine .o1 (tk rfl rfl fun _ w hn k => ⟨_, v_assign rfl (k.eq1 21 110 rfl), rfl⟩) ?_
            exact .nil
          intro a1483 w1484 hn1485 ha1486
          have hs1487 := ha1486.size.trans hs1464
          have hd1488 := ha1486.defers.trans hd1465
          have h1489 := ha1486.ge 22 6 rfl
          have hN1490 := hN1461.transNew hn1485
          clear hs1464 hd1465 h1466 hv1476 hv1478 h1469 hv1480 h1473 hv1482 hb1460 hq1407 hb1455 hq1451 hN1461 ha1486 hn1485
          refine st_nil ?_
          refine hK _ _ ?_
          clear hK K
          refine wp_ret (ret_k hd1488 (v := .bool (sameM ((mulM ((mulM a b).1) c).1) ((mulM a ((mulM b c).1)).1))) (res_t rfl h1489 _) ?_)
          exact ⟨congrArg (fun b => Ending.returned (.bool b)) (mul_assoc ht1475 ht1477 ht1479 ht1481), hN1490⟩
        have hv1491 : a1462.eval (.tmp 22) = .bool false := h1474.trans (congrArg Value.bool ht1481)
        clear h1474
        refine wp_g0 [true, true, true, true, true, true, true, true, true, true, true, true, true, true, true, true, true, true, true, true, true, true, true] [] 111
          [ve (.bool true),
           ve (.bool true),
           ve (.bool true),
           ve (.bool false),
           ve (.bool false),
           ve (.bool true),
           ve (.bool false),
           ve (.bool false),
           ve (.bool false),
           ve (.bool true),
           ve (.bool false),
           ve (.bool false),
           ve (.bool false),
           ve (.bool false),
           ve (.bool true),
           ve (.bool true),
           ve (.bool true),
           ve undef,
           ve undef,
           ve undef,
           ve (.bool true),
           ve (.bool true),
           ve (.bool true)] hs1464 (.eq (.eq (.eq (.eq (.eq (.eq (.eq (.eq (.eq (.eq (.eq (.eq (.eq (.eq (.eq (.eq (.eq (.eq (.eq (.eq (.eq (.eq (.eq (.nil)))))))))))))))))))))))) ?_ ?_
        · skip
          refine .o1 (ck rfl rfl rfl (fun _ w hn k => ⟨#[], rfl, fun _ => by kernel_rfl, first_c  _⟩) fun _ => rfl) ?_
          refine .o1 (tk rfl rfl fun _ w hn k => ⟨_, v_move rfl (k.eq1 0 89 rfl), rfl⟩) ?_
          refine .o1 (tg rfl rfl rfl (fun _ _ k => k.eq1 1 90 rfl) fun _ w hn k => ⟨_, v_move rfl (k.fx 16 hv1476), rfl⟩) ?_
          refine .o1 (tg rfl rfl rfl (fun _ _ k => k.eq1 1 90 rfl) fun _ w hn k => ⟨_, v_not rfl (k.eq1 2 91 rfl), rfl⟩) ?_
          refine .o1 (tg rfl rfl rfl (fun _ _ k => k.eq1 1 90 rfl) fun _ w hn k => ⟨_, v_move rfl (k.eq1 3 92 rfl), rfl⟩) ?_
          refine .o1 (tg rfl rfl rfl (fun _ _ k => k.eq1 4 93 rfl) fun _ w hn k => ⟨_, v_move rfl (k.fx 18 hv1478), rfl⟩) ?_
          refine .o1 (tg rfl rfl rfl (fun _ _ k => k.eq1 4 93 rfl) fun _ w hn k => ⟨_, v_not rfl (k.eq1 5 94 rfl), rfl⟩) ?_
          refine .o1 (tg rfl rfl rfl (fun _ _ k => k.eq1 1 90 rfl) fun _ w hn k => ⟨_, v_pickF rfl (k.eq1 4 93 rfl) (k.eq1 6 95 rfl), rfl⟩) ?_
          refine .o1 (tg rfl rfl rfl (fun _ _ k => k.eq1 1 90 rfl) fun _ w hn k => ⟨_, v_move rfl (k.eq1 7 96 rfl), rfl⟩) ?_
          refine .o1 (tg rfl rfl rfl (fun _ _ k => k.eq1 8 97 rfl) fun _ w hn k => ⟨_, v_move rfl (k.fx 20 hv1480), rfl⟩) ?_
          refine .o1 (tg rfl rfl rfl (fun _ _ k => k.eq1 8 97 rfl) fun _ w hn k => ⟨_, v_not rfl (k.eq1 9 98 rfl), rfl⟩) ?_
          refine .o1 (tg rfl rfl rfl (fun _ _ k => k.eq1 1 90 rfl) fun _ w hn k => ⟨_, v_pickF rfl (k.eq1 8 97 rfl) (k.eq1 10 99 rfl), rfl⟩) ?_
          refine .o1 (tg rfl rfl rfl (fun _ _ k => k.eq1 1 90 rfl) fun _ w hn k => ⟨_, v_move rfl (k.eq1 11 100 rfl), rfl⟩) ?_
          refine .o1 (tg rfl rfl rfl (fun _ _ k => k.eq1 12 101 rfl) fun _ w hn k => ⟨_, v_move rfl (k.fx 22 hv1491), rfl⟩) ?_
          refine .o1 (tg rfl rfl rfl (fun _ _ k => k.eq1 12 101 rfl) fun _ w hn k => ⟨_, v_not rfl (k.eq1 13 102 rfl), rfl⟩) ?_
          refine .o1 (tg rfl rfl rfl (fun _ _ k => k.eq1 1 90 rfl) fun _ w hn k => ⟨_, v_pickF rfl (k.eq1 12 101 rfl) (k.eq1 14 103 rfl), rfl⟩) ?_
          refine .o1 (tg rfl rfl rfl (fun _ _ k => k.eq1 1 90 rfl) fun _ w hn k => ⟨_, v_move rfl (k.eq1 15 104 rfl), rfl⟩) ?_
          refine .o1 (sk rfl rfl rfl (fun _ _ _ k => k.eq1 16 105 rfl) (fun _ => rfl)) ?_
          refine .o1 (sk rfl rfl rfl (fun _ _ _ k => k.eq1 16 105 rfl) (fun _ => rfl)) ?_
          refine .o1 (sk rfl rfl rfl (fun _ _ _ k => k.eq1 16 105 rfl) (fun _ => rfl)) ?_
          refine .o1 (tg rfl rfl rfl (fun _ _ k => k.eq1 1 90 rfl) fun _ w hn k => ⟨_, v_pickT rfl (k.eq1 16 105 rfl) rfl, rfl⟩) ?_
          refine .o1 (tk rfl rfl fun _ w hn k => ⟨_, v_pickT rfl (k.eq1 1 90 rfl) (k.eq1 20 109 rfl), rfl⟩) ?_
          refine .o1 (tk rfl rfl fun _ w hn k => ⟨_, v_assign rfl (k.eq1 21 110 rfl), rfl⟩) ?_
          exact .nil
        intro a1492 w1493 hn1494 ha1495
        have hs1496 := ha1495.size.trans hs1464
        have hd1497 := ha1495.defers.trans hd1465
        have h1498 := ha1495.ge 22 6 rfl
        have hN1499 := hN1461.transNew hn1494
        clear hs1464 hd1465 h1466 hv1476 hv1478 h1469 hv1480 h1473 hv1491 hb1460 hq1407 hb1455 hq1451 hN1461 ha1495 hn1494
        refine st_nil ?_
        refine hK _ _ ?_
        clear hK K
        refine wp_ret (ret_k hd1497 (v := .bool true) (res_t rfl h1498 _) ?_)
        exact ⟨rfl, hN1499⟩
      have hv1500 : a1462.eval (.tmp 20) = .bool false := h1470.trans (congrArg Value.bool ht1479)
      clear h1470
      refine wp_g0 [true, true, true, true, true, true, true, true, true, true, true, true, true, true, true, true, true, true, true, true, true, true, true] [] 111
        [ve (.bool true),
         ve (.bool true),
         ve (.bool true),
         ve (.bool false),
         ve (.bool false),
         ve (.bool true),
         ve (.bool false),
         ve (.bool false),
         ve (.bool false),
         ve (.bool false),
         ve (.bool true),
         ve (.bool true),
         ve (.bool true),
         ve undef,
         ve undef,
         ve (.bool true),
         ve (.bool true),
         ve undef,
         ve undef,
         ve undef,
         ve (.bool true),
         ve (.bool true),
         ve (.bool true)] hs1464 (.eq (.eq (.eq (.eq (.eq (.eq (.eq (.eq (.eq (.eq (.eq (.eq (.eq (.eq (.eq (.eq (.eq (.eq (.eq (.eq (.eq (.eq (.eq (.nil)))))))))))))))))))))))) ?_ ?_
      · skip
        refine .o1 (ck rfl rfl rfl (fun _ w hn k => ⟨#[], rfl, fun _ => by kernel_rfl, first_c  _⟩) fun _ => rfl) ?_
        refine .o1 (tk rfl rfl fun _ w hn k => ⟨_, v_move rfl (k.eq1 0 89 rfl), rfl⟩) ?_
        refine .o1 (tg rfl rfl rfl (fun _ _ k => k.eq1 1 90 rfl) fun _ w hn k => ⟨_, v_move rfl (k.fx 16 hv1476), rfl⟩) ?_
        refine .o1 (tg rfl rfl rfl (fun _ _ k => k.eq1 1 90 rfl) fun _ w hn k => ⟨_, v_not rfl (k.eq1 2 91 rfl), rfl⟩) ?_
        refine .o1 (tg rfl rfl rfl (fun _ _ k => k.eq1 1 90 rfl) fun _ w hn k => ⟨_, v_move rfl (k.eq1 3 92 rfl), rfl⟩) ?_
        refine .o1 (tg rfl rfl rfl (fun _ _ k => k.eq1 4 93 rfl) fun _ w hn k => ⟨_, v_move rfl (k.fx 18 hv1478), rfl⟩) ?_
        refine .o1 (tg rfl rfl rfl (fun _ _ k => k.eq1 4 93 rfl) fun _ w hn k => ⟨_, v_not rfl (k.eq1 5 94 rfl), rfl⟩) ?_
        refine .o1 (tg rfl rfl rfl (fun _ _ k => k.eq1 1 90 rfl) fun _ w hn k => ⟨_, v_pickF rfl (k.eq1 4 93 rfl) (k.eq1 6 95 rfl), rfl⟩) ?_
        refine .o1 (tg rfl rfl rfl (fun _ _ k => k.eq1 1 90 rfl) fun _ w hn k => ⟨_, v_move rfl (k.eq1 7 96 rfl), rfl⟩) ?_
        refine .o1 (tg rfl rfl rfl (fun _ _ k => k.eq1 8 97 rfl) fun _ w hn k => ⟨_, v_move rfl (k.fx 20 hv1500), rfl⟩) ?_
        refine .o1 (tg rfl rfl rfl (fun _ _ k => k.eq1 8 97 rfl) fun _ w hn k => ⟨_, v_not rfl (k.eq1 9 98 rfl), rfl⟩) ?_
        refine .o1 (tg rfl rfl rfl (fun _ _ k => k.eq1 1 90 rfl) fun _ w hn k => ⟨_, v_pickF rfl (k.eq1 8 97 rfl) (k.eq1 10 99 rfl), rfl⟩) ?_
        refine .o1 (tg rfl rfl rfl (fun _ _ k => k.eq1 1 90 rfl) fun _ w hn k => ⟨_, v_move rfl (k.eq1 11 100 rfl), rfl⟩) ?_
        refine .o1 (sk rfl rfl rfl (fun _ _ _ k => k.eq1 12 101 rfl) (fun _ => rfl)) ?_
        refine .o1 (sk rfl rfl rfl (fun _ _ _ k => k.eq1 12 101 rfl) (fun _ => rfl)) ?_
        refine .o1 (tg rfl rfl rfl (fun _ _ k => k.eq1 1 90 rfl) fun _ w hn k => ⟨_, v_pickT rfl (k.eq1 12 101 rfl) rfl, rfl⟩) ?_
        refine .o1 (tg rfl rfl rfl (fun _ _ k => k.eq1 1 90 rfl) fun _ w hn k => ⟨_, v_move rfl (k.eq1 15 104 rfl), rfl⟩) ?_
        refine .o1 (sk rfl rfl rfl (fun _ _ _ k => k.eq1 16 105 rfl) (fun _ => rfl)) ?_
        refine .o1 (sk rfl rfl rfl (fun _ _ _ k => k.eq1 16 105 rfl) (fun _ => rfl)) ?_
        refine .o1 (sk rfl rfl rfl (fun _ _ _ k => k.eq1 16 105 rfl) (fun _ => rfl)) ?_
        refine .o1 (tg rfl rfl rfl (fun _ _ k => k.eq1 1 90 rfl) fun _ w hn k => ⟨_, v_pickT rfl (k.eq1 16 105 rfl) rfl, rfl⟩) ?_
        refine .o1 (tk rfl rfl fun _ w hn k => ⟨_, v_pickT rfl (k.eq1 1 90 rfl) (k.eq1 20 109 rfl), rfl⟩) ?_
        refine .o1 (tk rfl rfl fun _ w hn k => ⟨_, v_assign rfl (k.eq1 21 110 rfl), rfl⟩) ?_
        exact .nil
      intro a1501 w1502 hn1503 ha1504
      have hs1505 := ha1504.size.trans hs1464
      have hd1506 := ha1504.defers.trans hd1465
      have h1507 := ha1504.ge 22 6 rfl
      have hN1508 := hN1461.transNew hn1503
      clear hs1464 hd1465 h1466 hv1476 hv1478 h1469 hv1500 h1473 h1474 hb1460 hq1407 hb1455 hq1451 hN1461 ha1504 hn1503
      refine st_nil ?_
      refine hK _ _ ?_
      clear hK K
      refine wp_ret (ret_k hd1506 (v := .bool true) (res_t rfl h1507 _) ?_)
      exact ⟨rfl, hN1508⟩
    have hv1509 : a1462.eval (.tmp 18) = .bool false := h1468.trans (congrArg Value.bool ht1477)
    clear h1468
    refine wp_g0 [true, true, true, true, true, true, true, true, true, true, true, true, true, true, true, true, true, true, true, true, true, true, true] [] 111
      [ve (.bool true),
       ve (.bool true),
       ve (.bool true),
       ve (.bool false),
       ve (.bool false),
       ve (.bool false),
       ve (.bool true),
       ve (.bool true),
       ve (.bool true),
       ve undef,
       ve undef,
       ve (.bool true),
       ve (.bool true),
       ve undef,
       ve undef,
       ve (.bool true),
       ve (.bool true),
       ve undef,
       ve undef,
       ve undef,
       ve (.bool true),
       ve (.bool true),
       ve (.bool true)] hs1464 (.eq (.eq (.eq (.eq (.eq (.eq (.eq (.eq (.eq (.eq (.eq (.eq (.eq (.eq (.eq (.eq (.eq (.eq (.eq (.eq (.eq (.eq (.eq (.nil)))))))))))))))))))))))) ?_ ?_
    · skip
      refine .o1 (ck rfl rfl rfl (fun _ w hn k => ⟨#[], rfl, fun _ => by kernel_rfl, first_c  _⟩) fun _ => rfl) ?_
      refine .o1 (tk rfl rfl fun _ w hn k => ⟨_, v_move rfl (k.eq1 0 89 rfl), rfl⟩) ?_
      refine .o1 (tg rfl rfl rfl (fun _ _ k => k.eq1 1 90 rfl) fun _ w hn k => ⟨_, v_move rfl (k.fx 16 hv1476), rfl⟩) ?_
      refine .o1 (tg rfl rfl rfl (fun _ _ k => k.eq1 1 90 rfl) fun _ w hn k => ⟨_, v_not rfl (k.eq1 2 91 rfl), rfl⟩) ?_
      refine .o1 (tg rfl rfl rfl (fun _ _ k => k.eq1 1 90 rfl) fun _ w hn k => ⟨_, v_move rfl (k.eq1 3 92 rfl), rfl⟩) ?_
      refine .o1 (tg rfl rfl rfl (fun _ _ k => k.eq1 4 93 rfl) fun _ w hn k => ⟨_, v_move rfl (k.fx 18 hv1509), rfl⟩) ?_
      refine .o1 (tg rfl rfl rfl (fun _ _ k => k.eq1 4 93 rfl) fun _ w hn k => ⟨_, v_not rfl (k.eq1 5 94 rfl), rfl⟩) ?_
      refine .o1 (tg rfl rfl rfl (fun _ _ k => k.eq1 1 90 rfl) fun _ w hn k => ⟨_, v_pickF rfl (k.eq1 4 93 rfl) (k.eq1 6 95 rfl), rfl⟩) ?_
      refine .o1 (tg rfl rfl rfl (fun _ _ k => k.eq1 1 90 rfl) fun _ w hn k => ⟨_, v_move rfl (k.eq1 7 96 rfl), rfl⟩) ?_
      refine .o1 (sk rfl rfl rfl (fun _ _ _ k => k.eq1 8 97 rfl) (fun _ => rfl)) ?_
      refine .o1 (sk rfl rfl rfl (fun _ _ _ k => k.eq1 8 97 rfl) (fun _ => rfl)) ?_
      refine .o1 (tg rfl rfl rfl (fun _ _ k => k.eq1 1 90 rfl) fun _ w hn k => ⟨_, v_pickT rfl (k.eq1 8 97 rfl) rfl, rfl⟩) ?_
      refine .o1 (tg rfl rfl rfl (fun _ _ k => k.eq1 1 90 rfl) fun _ w hn k => ⟨_, v_move rfl (k.eq1 11 100 rfl), rfl⟩) ?_
      refine .o1 (sk rfl rfl rfl (fun _ _ _ k => k.eq1 12 101 rfl) (fun _ => rfl)) ?_
      refine .o1 (sk rfl rfl rfl (fun _ _ _ k => k.eq1 12 101 rfl) (fun _ => rfl)) ?_
      refine .o1 (tg rfl rfl rfl (fun _ _ k => k.eq1 1 90 rfl) fun _ w hn k => ⟨_, v_pickT rfl (k.eq1 12 101 rfl) rfl, rfl⟩) ?_
      refine .o1 (tg rfl rfl rfl (fun _ _ k => k.eq1 1 90 rfl) fun _ w hn k => ⟨_, v_move rfl (k.eq1 15 104 rfl), rfl⟩) ?_
      refine .o1 (sk rfl rfl rfl (fun _ _ _ k => k.eq1 16 105 rfl) (fun _ => rfl)) ?_
      refine .o1 (sk rfl rfl rfl (fun _ _ _ k => k.eq1 16 105 rfl) (fun _ => rfl)) ?_
      refine .o1 (sk rfl rfl rfl (fun _ _ _ k => k.eq1 16 105 rfl) (fun _ => rfl)) ?_
      refine .o1 (tg rfl rfl rfl (fun _ _ k => k.eq1 1 90 rfl) fun _ w hn k => ⟨_, v_pickT rfl (k.eq1 16 105 rfl) rfl, rfl⟩) ?_
      refine .o1 (tk rfl rfl fun _ w hn k => ⟨_, v_pickT rfl (k.eq1 1 90 rfl) (k.eq1 20 109 rfl), rfl⟩) ?_
      refine .o1 (tk rfl rfl fun _ w hn k => ⟨_, v_assign rfl (k.eq1 21 110 rfl), rfl⟩) ?_
      exact .nil
    intro a1510 w1511 hn1512 ha1513
    have hs1514 := ha1513.size.trans hs1464
    have hd1515 := ha1513.defers.trans hd1465
    have h1516 := ha1513.ge 22 6 rfl
    have hN1517 := hN1461.transNew hn1512
    clear hs1464 hd1465 h1466 hv1476 hv1509 h1469 h1470 h1473 h1474 hb1460 hq1407 hb1455 hq1451 hN1461 ha1513 hn1512
    refine st_nil ?_
    refine hK _ _ ?_
    clear hK K
    refine wp_ret (ret_k hd1515 (v := .bool true) (res_t rfl h1516 _) ?_)
    exact ⟨rfl, hN1517⟩
  have hv1518 : a1462.eval (.tmp 16) = .bool false := h1467.trans (congrArg Value.bool ht1475)
  clear h1467
  refine wp_g0 [true, true, true, true, true, true, true, true, true, true, true, true, true, true, true, true, true, true, true, true, true, true, true] [] 111
    [ve (.bool true),
     ve (.bool true),
     ve (.bool false),
     ve (.bool true),
     ve (.bool true),
     ve undef,
     ve undef,
     ve (.bool true),
     ve (.bool true),
     ve undef,
     ve undef,
     ve (.bool true),
     ve (.bool true),
     ve undef,
     ve undef,
     ve (.bool true),
     ve (.bool true),
     ve undef,
     ve undef,
     ve undef,
     ve (.bool true),
     ve (.bool true),
     ve (.bool true)] hs1464 (.eq (.eq (.eq (.eq (.eq (.eq (.eq (.eq (.eq (.eq (.eq (.eq (.eq (.eq (.eq (.eq (.eq (.eq (.eq (.eq (.eq (.eq (.eq (.nil)))))))))))))))))))))))) ?_ ?_
  · skip
    refine .o1 (ck rfl rfl rfl (fun _ w hn k => ⟨#[], rfl, fun _ => by kernel_rfl, first_c  _⟩) fun _ => rfl) ?_
    refine .o1 (tk rfl rfl fun _ w hn k => ⟨_, v_move rfl (k.eq1 0 89 rfl), rfl⟩) ?_
    refine .o1 (tg rfl rfl rfl (fun _ _ k => k.eq1 1 90 rfl) fun _ w hn k => ⟨_, v_move rfl (k.fx 16 hv1518), rfl⟩) ?_
    refine .o1 (tg rfl rfl rfl (fun _ _ k => k.eq1 1 90 rfl) fun _ w hn k => ⟨_, v_not rfl (k.eq1 2 91 rfl), rfl⟩) ?_
    refine .o1 (tg rfl rfl rfl (fun _ _ k => k.eq1 1 90 rfl) fun _ w hn k => ⟨_, v_move rfl (k.eq1 3 92 rfl), rfl⟩) ?_
    refine .o1 (sk rfl rfl rfl (fun _ _ _ k => k.eq1 4 93 rfl) (fun _ => rfl)) ?_
    refine .o1 (sk rfl rfl rfl (fun _ _ _ k => k.eq1 4 93 rfl) (fun _ => rfl)) ?_
    refine .o1 (tg rfl rfl rfl (fun _ _ k => k.eq1 1 90 rfl) fun _ w hn k => ⟨_, v_pickT rfl (k.eq1 4 93 rfl) rfl, rfl⟩) ?_
    refine .o1 (tg rfl rfl rfl (fun _ _ k => k.eq1 1 90 rfl) fun _ w hn k => ⟨_, v_move rfl (k.eq1 7 96 rfl), rfl⟩) ?_
    refine .o1 (sk rfl rfl rfl (fun _ _ _ k => k.eq1 8 97 rfl) (fun _ => rfl)) ?_
    refine .o1 (sk rfl rfl rfl (fun _ _ _ k => k.eq1 8 97 rfl) (fun _ => rfl)) ?_
    refine .o1 (tg rfl rfl rfl (fun _ _ k => k.eq1 1 90 rfl) fun _ w hn k => ⟨_, v_pickT rfl (k.eq1 8 97 rfl) rfl, rfl⟩) ?_
    refine .o1 (tg rfl rfl rfl (fun _ _ k => k.eq1 1 90 rfl) fun _ w hn k => ⟨_, v_move rfl (k.eq1 11 100 rfl), rfl⟩) ?_
    refine .o1 (sk rfl rfl rfl (fun _ _ _ k => k.eq1 12 101 rfl) (fun _ => rfl)) ?_
    refine .o1 (sk rfl rfl rfl (fun _ _ _ k => k.eq1 12 101 rfl) (fun _ => rfl)) ?_
    refine .o1 (tg rfl rfl rfl (fun _ _ k => k.eq1 1 90 rfl) fun _ w hn k => ⟨_, v_pickT rfl (k.eq1 12 101 rfl) rfl, rfl⟩) ?_
    refine .o1 (tg rfl rfl rfl (fun _ _ k => k.eq1 1 90 rfl) fun _ w hn k => ⟨_, v_move rfl (k.eq1 15 104 rfl), rfl⟩) ?_
    refine .o1 (sk rfl rfl rfl (fun _ _ _ k => k.eq1 16 105 rfl) (fun _ => rfl)) ?_
    refine .o1 (sk rfl rfl rfl (fun _ _ _ k => k.eq1 16 105 rfl) (fun _ => rfl)) ?_
    refine .o1 (sk rfl rfl rfl (fun _ _ _ k => k.eq1 16 105 rfl) (fun _ => rfl)) ?_
    refine .o1 (tg rfl rfl rfl (fun _ _ k => k.eq1 1 90 rfl) fun _ w hn k => ⟨_, v_pickT rfl (k.eq1 16 105 rfl) rfl, rfl⟩) ?_
    refine .o1 (tk rfl rfl fun _ w hn k => ⟨_, v_pickT rfl (k.eq1 1 90 rfl) (k.eq1 20 109 rfl), rfl⟩) ?_
    refine .o1 (tk rfl rfl fun _ w hn k => ⟨_, v_assign rfl (k.eq1 21 110 rfl), rfl⟩) ?_
    exact .nil
  intro a1519 w1520 hn1521 ha1522
  have hs1523 := ha1522.size.trans hs1464
  have hd1524 := ha1522.defers.trans hd1465
  have h1525 := ha1522.ge 22 6 rfl
  have hN1526 := hN1461.transNew hn1521
  clear hs1464 hd1465 h1466 hv1518 h1468 h1469 h1470 h1473 h1474 hb1460 hq1407 hb1455 hq1451 hN1461 ha1522 hn1521
  refine st_nil ?_
  refine hK _ _ ?_
  clear hK K
  refine wp_ret (ret_k hd1524 (v := .bool true) (res_t rfl h1525 _) ?_)
  exact ⟨rfl, hN1526⟩
end Go.Proofs.YtldakajmhfdfgaaDoor
