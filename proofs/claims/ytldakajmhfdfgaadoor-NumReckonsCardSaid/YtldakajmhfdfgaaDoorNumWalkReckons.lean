/- NumReckons: the walk -/
import Derived.Test.YtldakajmhfdfgaaDoorNumF
import Derived.Test.YtldakajmhfdfgaaDoorNumR2
namespace Go.Proofs.YtldakajmhfdfgaaDoor
open Go.RowKit
set_option linter.unusedSimpArgs false
set_option linter.unusedVariables false
set_option maxHeartbeats 8000000 in
set_option maxRecDepth 100000 in
theorem reckons_walk (a : Nm) (b : Nm) (w : World) : Calls Tryd.prog 8 #[nv a, nv b] w (IsRet (.bool true) w) := by
  refine enter_abs Tryd.func8 rfl fun a0 hs0 hd0 hp => ?_
  have hs0 : a0.tmps.size = 123 := hs0
  have hN0 : New w w := Upd.refl _ _
  have hp0 : a0.eval (.tmp 0) = nv a := hp 0 _ rfl
  have hp1 : a0.eval (.tmp 1) = nv b := hp 1 _ rfl
  clear hp
  refine wp_seq_k fun K hK => ?_
  refine wp_g [true, true, true] [] [] 123
    [IsNew w 23 [iv a.k, iv a.n],
     IsNew w 23 [iv b.k, iv b.n],
     ve (.bool false)]
    [0, 1] (newsCons (fun v w h => IsNew.old h) (newsCons (fun v w h => IsNew.old h) newsNil)) hs0 (.nw (.nw (.eq (.nil)))) ?_ (fun i h => by cases h) ?_
  · skip
    refine .o2 (step_allocN (cs := [iv a.k, iv a.n]) (t := 23) rfl (noG rfl) (fun _ w hn k => v_box rfl (k.fx 0 hp0) (fun w => rfl)) (fun q _ hq hb => ⟨q, rfl, hq, hb⟩)) ?_
    refine .o2 (step_allocN (cs := [iv b.k, iv b.n]) (t := 23) rfl (noG rfl) (fun _ w hn k => v_box rfl (k.fx 1 hp1) (fun w => rfl)) (fun q _ hq hb => ⟨q, rfl, hq, hb⟩)) ?_
    refine .o1 (tk rfl rfl fun _ w hn k => ⟨_, v_assign rfl rfl, rfl⟩) ?_
    exact .nil
  intro a1 w2 hn3 ha4
  have hs5 := ha4.size.trans hs0
  have hd6 := ha4.defers.trans hd0
  obtain ⟨q8, h7, hq9, hb10⟩ : IsNew _ _ _ _ _ := ha4.got 0 2 rfl (by kernel_rfl)
  obtain ⟨q12, h11, hq13, hb14⟩ : IsNew _ _ _ _ _ := ha4.got 1 3 rfl (by kernel_rfl)
  have h15 := ha4.ge 2 4 rfl
  have hq16 := Nat.le_trans hN0.size hq9
  have hq17 := Nat.le_trans hN0.size hq13
  have hN18 := hN0.transNew hn3
  clear hs0 hd0 hp0 hp1 hq9 hq13 hN0 ha4 hn3
  refine st_nil ?_
  refine hK _ _ ?_
  clear hK K
  refine wp_seq_k fun K hK => ?_
  refine wp_seq_k fun K hK => ?_
  refine wp_g0 [true, true] [] 123
    [ve (.bool true),
     ve (.bool false)] hs5 (.eq (.eq (.nil))) ?_ ?_
  · skip
    refine .o1 (ck rfl rfl rfl (fun _ w hn k => ⟨#[], rfl, fun _ => by kernel_rfl, first_c  _⟩) fun _ => rfl) ?_
    refine .o1 (tk rfl rfl fun _ w hn k => ⟨_, v_not rfl (k.eq1 0 21 rfl), rfl⟩) ?_
    exact .nil
  intro a19 w20 hn21 ha22
  have hs23 := ha22.size.trans hs5
  have hd24 := ha22.defers.trans hd6
  have h25 := ha22.fx 2 h7
  have h26 := ha22.fx 3 h11
  have h27 := ha22.fx 4 h15
  have h28 := ha22.ge 1 22 rfl
  have hb29 := hb10.new_ hn21
  have hb30 := hb14.new_ hn21
  have hN31 := hN18.transNew hn21
  clear hs5 hd6 h7 h11 h15 hb10 hb14 hN18 ha22 hn21
  refine st_nil ?_
  refine hK _ _ ?_
  clear hK K
  refine wp_cond_false h28 ?_
  refine wp_skip ?_
  refine hK _ _ ?_
  clear hK K
  refine wp_seq_k fun K hK => ?_
  refine wp_g [true, true, true, true, true, true, true, false, false] [5] [(7, false), (8, true)] 123
    [ve (nv a),
     ve (nv b),
     ve (.tuple #[nv ((addM a b).1), .bool ((addM a b).2)]),
     ve (.tuple #[nv ((addM a b).1), .bool ((addM a b).2)]),
     ve (nv ((addM a b).1)),
     ve (.bool ((addM a b).2)),
     IsNew w20 23 [iv 0, iv 0],
     vt,
     vt]
    [6] (newsCons (fun v w h => IsNew.old h) newsNil) hs23 (.eq (.eq (.eq (.eq (.eq (.eq (.nw (.tt (.tt (.nil)))))))))) ?_ ?_ ?_
  · skip
    refine .o1 (tk rfl rfl fun _ w hn k => ⟨_, v_load rfl (k.fx 2 h25) (l_two Tryd.isAgg23 Tryd.sizeOf23 (hb29.new_ hn)), rfl⟩) ?_
    refine .o1 (tk rfl rfl fun _ w hn k => ⟨_, v_load rfl (k.fx 3 h26) (l_two Tryd.isAgg23 Tryd.sizeOf23 (hb30.new_ hn)), rfl⟩) ?_
    refine .o1 (ck rfl rfl rfl (fun _ w hn k => ⟨#[nv a, nv b], args2 (k.eq1 0 24 rfl) (k.eq1 1 25 rfl), fun _ => by kernel_rfl, add_c a b _⟩) fun _ => rfl) ?_
    refine .o1 (tk rfl rfl fun _ w hn k => ⟨_, v_move rfl (k.eq1 2 26 rfl), rfl⟩) ?_
    refine .o1 (tk rfl rfl fun _ w hn k => ⟨_, v_extract rfl (k.eq1 3 23 rfl) rfl, rfl⟩) ?_
    refine .o3 ?_
    refine .o2 (step_allocN (cs := [iv 0, iv 0]) (t := 23) rfl (noG rfl) (fun _ w hn k => rfl) (fun q _ hq hb => ⟨q, rfl, hq, hb⟩)) ?_
    refine .off ?_
    refine .off ?_
    exact .nil
  · skip
    intro i h
    simp only [List.contains_eq_mem, List.mem_cons, List.not_mem_nil, or_false, decide_eq_true_eq] at h
    subst h
    · exact eager_take rfl rfl fun _ w hn k => ⟨.bool ((addM a b).2), fun w => v_extract rfl (k.eq1 3 23 rfl) rfl, rfl⟩
  intro a32 w33 hn34 ha35
  have hs36 := ha35.size.trans hs23
  have hd37 := ha35.defers.trans hd24
  have h38 := ha35.fx 2 h25
  have h39 := ha35.fx 3 h26
  have h40 := ha35.fx 4 h27
  have h41 := ha35.ge 4 27 rfl
  have h42 := ha35.ge 5 28 rfl
  obtain ⟨q44, h43, hq45, hb46⟩ : IsNew _ _ _ _ _ := ha35.got 6 5 rfl (by kernel_rfl)
  have hb47 := hb29.new_ hn34
  have hb48 := hb30.new_ hn34
  have hne49 : q8 ≠ q44 := by have h1 := hb29.lt; have h2 := hq45; omega
  have hne50 : q12 ≠ q44 := by have h1 := hb30.lt; have h2 := hq45; omega
  have hq51 := Nat.le_trans hN31.size hq45
  have hN52 := hN31.transNew hn34
  clear hs23 hd24 h25 h26 h27 h28 hb29 hb30 hq45 hN31 ha35 hn34
  obtain ⟨w53, -, hst54, hb55, hu56, hf57⟩ := s_two (v0 := iv ((addM a b).1.k)) (v1 := iv ((addM a b).1.n)) Tryd.sizeOf23 rfl rfl rfl hb46
  refine st_act rfl rfl fun K58 hL59 => a_store' rfl h43 h41 hst54 (hL59 _ _ trivial ?_)
  have hb60 := hf57 _ _ _ (hne49) hb47
  have hb61 := hf57 _ _ _ (hne50) hb48
  have hN62 := hN52.trans hu56 (fun k hk hkb => by subst hkb; omega)
  clear hb46 hst54 K58 hL59 hN52 hb47 hb48 hu56 hf57
  refine st_take rfl rfl (y_assign (v := .bool ((addM a b).2)) rfl h42) rfl ?_
  obtain ⟨a63, ha64⟩ : ∃ a', a' = a32.put (some 6) (.bool ((addM a b).2)) := ⟨_, rfl⟩
  have hs65 : a63.tmps.size = 123 := by rw [ha64, put_size]; exact hs36
  have hd66 : a63.defers = [] := by rw [ha64, put_defers]; exact hd37
  have h67 : a63.eval (.tmp 2) = pv q8 := by rw [ha64, put_ne _ _ _ _ (by decide)]; exact h38
  have h68 : a63.eval (.tmp 3) = pv q12 := by rw [ha64, put_ne _ _ _ _ (by decide)]; exact h39
  have h69 : a63.eval (.tmp 4) = .bool false := by rw [ha64, put_ne _ _ _ _ (by decide)]; exact h40
  have h70 : a63.eval (.tmp 27) = nv ((addM a b).1) := by rw [ha64, put_ne _ _ _ _ (by decide)]; exact h41
  have h71 : a63.eval (.tmp 28) = .bool ((addM a b).2) := by rw [ha64, put_ne _ _ _ _ (by decide)]; exact h42
  have h72 : a63.eval (.tmp 5) = pv q44 := by rw [ha64, put_ne _ _ _ _ (by decide)]; exact h43
  have h73 : a63.eval (.tmp 6) = .bool ((addM a b).2) := by rw [ha64]; exact put_same _ _ _ (by rw [hs36]; decide)
  show stepsTo _ _ _ _ _ (a32.put (some 6) (.bool ((addM a b).2))) _
  rw [← ha64]
  clear ha64 hs36 hd37 h38 h39 h40 h41 h42 h43
  clear hne49
  clear hne50
  refine st_nil ?_
  clear h70 h71
  refine hK _ _ ?_
  clear hK K
  refine wp_seq_k fun K hK => ?_
  refine wp_g [true, true, true, true, true, true, true, false, false] [5] [(7, false), (8, true)] 123
    [ve (nv a),
     ve (nv b),
     ve (.tuple #[nv ((addM a b).1), .bool ((addM a b).2)]),
     ve (.tuple #[nv ((addM a b).1), .bool ((addM a b).2)]),
     ve (nv ((addM a b).1)),
     ve (.bool ((addM a b).2)),
     IsNew w53 23 [iv 0, iv 0],
     vt,
     vt]
    [6] (newsCons (fun v w h => IsNew.old h) newsNil) hs65 (.eq (.eq (.eq (.eq (.eq (.eq (.nw (.tt (.tt (.nil)))))))))) ?_ ?_ ?_
  · skip
    refine .o1 (tk rfl rfl fun _ w hn k => ⟨_, v_load rfl (k.fx 2 h67) (l_two Tryd.isAgg23 Tryd.sizeOf23 (hb60.new_ hn)), rfl⟩) ?_
    refine .o1 (tk rfl rfl fun _ w hn k => ⟨_, v_load rfl (k.fx 3 h68) (l_two Tryd.isAgg23 Tryd.sizeOf23 (hb61.new_ hn)), rfl⟩) ?_
    refine .o1 (ck rfl rfl rfl (fun _ w hn k => ⟨#[nv a, nv b], args2 (k.eq1 0 30 rfl) (k.eq1 1 31 rfl), fun _ => by kernel_rfl, radd_c a b _⟩) fun _ => rfl) ?_
    refine .o1 (tk rfl rfl fun _ w hn k => ⟨_, v_move rfl (k.eq1 2 32 rfl), rfl⟩) ?_
    refine .o1 (tk rfl rfl fun _ w hn k => ⟨_, v_extract rfl (k.eq1 3 29 rfl) rfl, rfl⟩) ?_
    refine .o3 ?_
    refine .o2 (step_allocN (cs := [iv 0, iv 0]) (t := 23) rfl (noG rfl) (fun _ w hn k => rfl) (fun q _ hq hb => ⟨q, rfl, hq, hb⟩)) ?_
    refine .off ?_
    refine .off ?_
    exact .nil
  · skip
    intro i h
    simp only [List.contains_eq_mem, List.mem_cons, List.not_mem_nil, or_false, decide_eq_true_eq] at h
    subst h
    · exact eager_take rfl rfl fun _ w hn k => ⟨.bool ((addM a b).2), fun w => v_extract rfl (k.eq1 3 29 rfl) rfl, rfl⟩
  intro a74 w75 hn76 ha77
  have hs78 := ha77.size.trans hs65
  have hd79 := ha77.defers.trans hd66
  have h80 := ha77.fx 2 h67
  have h81 := ha77.fx 3 h68
  have h82 := ha77.fx 4 h69
  have h83 := ha77.fx 5 h72
  have h84 := ha77.fx 6 h73
  have h85 := ha77.ge 4 33 rfl
  have h86 := ha77.ge 5 34 rfl
  obtain ⟨q88, h87, hq89, hb90⟩ : IsNew _ _ _ _ _ := ha77.got 6 7 rfl (by kernel_rfl)
  have hb91 := hb60.new_ hn76
  have hb92 := hb61.new_ hn76
  have hb93 := hb55.new_ hn76
  have hne94 : q8 ≠ q88 := by have h1 := hb60.lt; have h2 := hq89; omega
  have hne95 : q12 ≠ q88 := by have h1 := hb61.lt; have h2 := hq89; omega
  have hne96 : q44 ≠ q88 := by have h1 := hb55.lt; have h2 := hq89; omega
  have hq97 := Nat.le_trans hN62.size hq89
  have hN98 := hN62.transNew hn76
  clear hs65 hd66 h67 h68 h69 h72 h73 hb60 hb61 hb55 hq89 hN62 ha77 hn76
  obtain ⟨w99, -, hst100, hb101, hu102, hf103⟩ := s_two (v0 := iv ((addM a b).1.k)) (v1 := iv ((addM a b).1.n)) Tryd.sizeOf23 rfl rfl rfl hb90
  refine st_act rfl rfl fun K104 hL105 => a_store' rfl h87 h85 hst100 (hL105 _ _ trivial ?_)
  have hb106 := hf103 _ _ _ (hne94) hb91
  have hb107 := hf103 _ _ _ (hne95) hb92
  have hb108 := hf103 _ _ _ (hne96) hb93
  have hN109 := hN98.trans hu102 (fun k hk hkb => by subst hkb; omega)
  clear hb90 hst100 K104 hL105 hN98 hb91 hb92 hb93 hu102 hf103
  refine st_take rfl rfl (y_assign (v := .bool ((addM a b).2)) rfl h86) rfl ?_
  obtain ⟨a110, ha111⟩ : ∃ a', a' = a74.put (some 8) (.bool ((addM a b).2)) := ⟨_, rfl⟩
  have hs112 : a110.tmps.size = 123 := by rw [ha111, put_size]; exact hs78
  have hd113 : a110.defers = [] := by rw [ha111, put_defers]; exact hd79
  have h114 : a110.eval (.tmp 2) = pv q8 := by rw [ha111, put_ne _ _ _ _ (by decide)]; exact h80
  have h115 : a110.eval (.tmp 3) = pv q12 := by rw [ha111, put_ne _ _ _ _ (by decide)]; exact h81
  have h116 : a110.eval (.tmp 4) = .bool false := by rw [ha111, put_ne _ _ _ _ (by decide)]; exact h82
  have h117 : a110.eval (.tmp 5) = pv q44 := by rw [ha111, put_ne _ _ _ _ (by decide)]; exact h83
  have h118 : a110.eval (.tmp 6) = .bool ((addM a b).2) := by rw [ha111, put_ne _ _ _ _ (by decide)]; exact h84
  have h119 : a110.eval (.tmp 33) = nv ((addM a b).1) := by rw [ha111, put_ne _ _ _ _ (by decide)]; exact h85
  have h120 : a110.eval (.tmp 34) = .bool ((addM a b).2) := by rw [ha111, put_ne _ _ _ _ (by decide)]; exact h86
  have h121 : a110.eval (.tmp 7) = pv q88 := by rw [ha111, put_ne _ _ _ _ (by decide)]; exact h87
  have h122 : a110.eval (.tmp 8) = .bool ((addM a b).2) := by rw [ha111]; exact put_same _ _ _ (by rw [hs78]; decide)
  show stepsTo _ _ _ _ _ (a74.put (some 8) (.bool ((addM a b).2))) _
  rw [← ha111]
  clear ha111 hs78 hd79 h80 h81 h82 h83 h84 h85 h86 h87
  clear hne94
  clear hne95
  clear hne96
  refine st_nil ?_
  clear h119 h120
  refine hK _ _ ?_
  clear hK K
  refine wp_seq_k fun K hK => ?_
  refine wp_g [true, true, true, true, true, true, true, false, false] [5] [(7, false), (8, true)] 123
    [ve (nv a),
     ve (nv b),
     ve (.tuple #[nv ((addM a (negM b)).1), .bool ((addM a (negM b)).2)]),
     ve (.tuple #[nv ((addM a (negM b)).1), .bool ((addM a (negM b)).2)]),
     ve (nv ((addM a (negM b)).1)),
     ve (.bool ((addM a (negM b)).2)),
     IsNew w99 23 [iv 0, iv 0],
     vt,
     vt]
    [6] (newsCons (fun v w h => IsNew.old h) newsNil) hs112 (.eq (.eq (.eq (.eq (.eq (.eq (.nw (.tt (.tt (.nil)))))))))) ?_ ?_ ?_
  · skip
    refine .o1 (tk rfl rfl fun _ w hn k => ⟨_, v_load rfl (k.fx 2 h114) (l_two Tryd.isAgg23 Tryd.sizeOf23 (hb106.new_ hn)), rfl⟩) ?_
    refine .o1 (tk rfl rfl fun _ w hn k => ⟨_, v_load rfl (k.fx 3 h115) (l_two Tryd.isAgg23 Tryd.sizeOf23 (hb107.new_ hn)), rfl⟩) ?_
    refine .o1 (ck rfl rfl rfl (fun _ w hn k => ⟨#[nv a, nv b], args2 (k.eq1 0 36 rfl) (k.eq1 1 37 rfl), fun _ => by kernel_rfl, sub_c a b _⟩) fun _ => rfl) ?_
    refine .o1 (tk rfl rfl fun _ w hn k => ⟨_, v_move rfl (k.eq1 2 38 rfl), rfl⟩) ?_
    refine .o1 (tk rfl rfl fun _ w hn k => ⟨_, v_extract rfl (k.eq1 3 35 rfl) rfl, rfl⟩) ?_
    refine .o3 ?_
    refine .o2 (step_allocN (cs := [iv 0, iv 0]) (t := 23) rfl (noG rfl) (fun _ w hn k => rfl) (fun q _ hq hb => ⟨q, rfl, hq, hb⟩)) ?_
    refine .off ?_
    refine .off ?_
    exact .nil
  · skip
    intro i h
    simp only [List.contains_eq_mem, List.mem_cons, List.not_mem_nil, or_false, decide_eq_true_eq] at h
    subst h
    · exact eager_take rfl rfl fun _ w hn k => ⟨.bool ((addM a (negM b)).2), fun w => v_extract rfl (k.eq1 3 35 rfl) rfl, rfl⟩
  intro a123 w124 hn125 ha126
  have hs127 := ha126.size.trans hs112
  have hd128 := ha126.defers.trans hd113
  have h129 := ha126.fx 2 h114
  have h130 := ha126.fx 3 h115
  have h131 := ha126.fx 4 h116
  have h132 := ha126.fx 5 h117
  have h133 := ha126.fx 6 h118
  have h134 := ha126.fx 7 h121
  have h135 := ha126.fx 8 h122
  have h136 := ha126.ge 4 39 rfl
  have h137 := ha126.ge 5 40 rfl
  obtain ⟨q139, h138, hq140, hb141⟩ : IsNew _ _ _ _ _ := ha126.got 6 9 rfl (by kernel_rfl)
  have hb142 := hb106.new_ hn125
  have hb143 := hb107.new_ hn125
  have hb144 := hb108.new_ hn125
  have hb145 := hb101.new_ hn125
  have hne146 : q8 ≠ q139 := by have h1 := hb106.lt; have h2 := hq140; omega
  have hne147 : q12 ≠ q139 := by have h1 := hb107.lt; have h2 := hq140; omega
  have hne148 : q44 ≠ q139 := by have h1 := hb108.lt; have h2 := hq140; omega
  have hne149 : q88 ≠ q139 := by have h1 := hb101.lt; have h2 := hq140; omega
  have hq150 := Nat.le_trans hN109.size hq140
  have hN151 := hN109.transNew hn125
  clear hs112 hd113 h114 h115 h116 h117 h118 h121 h122 hb106 hb107 hb108 hb101 hq140 hN109 ha126 hn125
  obtain ⟨w152, -, hst153, hb154, hu155, hf156⟩ := s_two (v0 := iv ((addM a (negM b)).1.k)) (v1 := iv ((addM a (negM b)).1.n)) Tryd.sizeOf23 rfl rfl rfl hb141
  refine st_act rfl rfl fun K157 hL158 => a_store' rfl h138 h136 hst153 (hL158 _ _ trivial ?_)
  have hb159 := hf156 _ _ _ (hne146) hb142
  have hb160 := hf156 _ _ _ (hne147) hb143
  have hb161 := hf156 _ _ _ (hne148) hb144
  have hb162 := hf156 _ _ _ (hne149) hb145
  have hN163 := hN151.trans hu155 (fun k hk hkb => by subst hkb; omega)
  clear hb141 hst153 K157 hL158 hN151 hb142 hb143 hb144 hb145 hu155 hf156
  refine st_take rfl rfl (y_assign (v := .bool ((addM a (negM b)).2)) rfl h137) rfl ?_
  obtain ⟨a164, ha165⟩ : ∃ a', a' = a123.put (some 10) (.bool ((addM a (negM b)).2)) := ⟨_, rfl⟩
  have hs166 : a164.tmps.size = 123 := by rw [ha165, put_size]; exact hs127
  have hd167 : a164.defers = [] := by rw [ha165, put_defers]; exact hd128
  have h168 : a164.eval (.tmp 2) = pv q8 := by rw [ha165, put_ne _ _ _ _ (by decide)]; exact h129
  have h169 : a164.eval (.tmp 3) = pv q12 := by rw [ha165, put_ne _ _ _ _ (by decide)]; exact h130
  have h170 : a164.eval (.tmp 4) = .bool false := by rw [ha165, put_ne _ _ _ _ (by decide)]; exact h131
  have h171 : a164.eval (.tmp 5) = pv q44 := by rw [ha165, put_ne _ _ _ _ (by decide)]; exact h132
  have h172 : a164.eval (.tmp 6) = .bool ((addM a b).2) := by rw [ha165, put_ne _ _ _ _ (by decide)]; exact h133
  have h173 : a164.eval (.tmp 7) = pv q88 := by rw [ha165, put_ne _ _ _ _ (by decide)]; exact h134
  have h174 : a164.eval (.tmp 8) = .bool ((addM a b).2) := by rw [ha165, put_ne _ _ _ _ (by decide)]; exact h135
  have h175 : a164.eval (.tmp 39) = nv ((addM a (negM b)).1) := by rw [ha165, put_ne _ _ _ _ (by decide)]; exact h136
  have h176 : a164.eval (.tmp 40) = .bool ((addM a (negM b)).2) := by rw [ha165, put_ne _ _ _ _ (by decide)]; exact h137
  have h177 : a164.eval (.tmp 9) = pv q139 := by rw [ha165, put_ne _ _ _ _ (by decide)]; exact h138
  have h178 : a164.eval (.tmp 10) = .bool ((addM a (negM b)).2) := by rw [ha165]; exact put_same _ _ _ (by rw [hs127]; decide)
  show stepsTo _ _ _ _ _ (a123.put (some 10) (.bool ((addM a (negM b)).2))) _
  rw [← ha165]
  clear ha165 hs127 hd128 h129 h130 h131 h132 h133 h134 h135 h136 h137 h138
  clear hne146
  clear hne147
  clear hne148
  clear hne149
  refine st_nil ?_
  clear h175 h176
  refine hK _ _ ?_
  clear hK K
  refine wp_seq_k fun K hK => ?_
  refine wp_g [true, true, true, true, true, true, true, false, false] [5] [(7, false), (8, true)] 123
    [ve (nv a),
     ve (nv b),
     ve (.tuple #[nv ((addM a (negM b)).1), .bool ((addM a (negM b)).2)]),
     ve (.tuple #[nv ((addM a (negM b)).1), .bool ((addM a (negM b)).2)]),
     ve (nv ((addM a (negM b)).1)),
     ve (.bool ((addM a (negM b)).2)),
     IsNew w152 23 [iv 0, iv 0],
     vt,
     vt]
    [6] (newsCons (fun v w h => IsNew.old h) newsNil) hs166 (.eq (.eq (.eq (.eq (.eq (.eq (.nw (.tt (.tt (.nil)))))))))) ?_ ?_ ?_
  · skip
    refine .o1 (tk rfl rfl fun _ w hn k => ⟨_, v_load rfl (k.fx 2 h168) (l_two Tryd.isAgg23 Tryd.sizeOf23 (hb159.new_ hn)), rfl⟩) ?_
    refine .o1 (tk rfl rfl fun _ w hn k => ⟨_, v_load rfl (k.fx 3 h169) (l_two Tryd.isAgg23 Tryd.sizeOf23 (hb160.new_ hn)), rfl⟩) ?_
    refine .o1 (ck rfl rfl rfl (fun _ w hn k => ⟨#[nv a, nv b], args2 (k.eq1 0 42 rfl) (k.eq1 1 43 rfl), fun _ => by kernel_rfl, rsub_c a b _⟩) fun _ => rfl) ?_
    refine .o1 (tk rfl rfl fun _ w hn k => ⟨_, v_move rfl (k.eq1 2 44 rfl), rfl⟩) ?_
    refine .o1 (tk rfl rfl fun _ w hn k => ⟨_, v_extract rfl (k.eq1 3 41 rfl) rfl, rfl⟩) ?_
    refine .o3 ?_
    refine .o2 (step_allocN (cs := [iv 0, iv 0]) (t := 23) rfl (noG rfl) (fun _ w hn k => rfl) (fun q _ hq hb => ⟨q, rfl, hq, hb⟩)) ?_
    refine .off ?_
    refine .off ?_
    exact .nil
  · skip
    intro i h
    simp only [List.contains_eq_mem, List.mem_cons, List.not_mem_nil, or_false, decide_eq_true_eq] at h
    subst h
    · exact eager_take rfl rfl fun _ w hn k => ⟨.bool ((addM a (negM b)).2), fun w => v_extract rfl (k.eq1 3 41 rfl) rfl, rfl⟩
  intro a179 w180 hn181 ha182
  have hs183 := ha182.size.trans hs166
  have hd184 := ha182.defers.trans hd167
  have h185 := ha182.fx 2 h168
  have h186 := ha182.fx 3 h169
  have h187 := ha182.fx 4 h170
  have h188 := ha182.fx 5 h171
  have h189 := ha182.fx 6 h172
  have h190 := ha182.fx 7 h173
  have h191 := ha182.fx 8 h174
  have h192 := ha182.fx 9 h177
  have h193 := ha182.fx 10 h178
  have h194 := ha182.ge 4 45 rfl
  have h195 := ha182.ge 5 46 rfl
  obtain ⟨q197, h196, hq198, hb199⟩ : IsNew _ _ _ _ _ := ha182.got 6 11 rfl (by kernel_rfl)
  have hb200 := hb159.new_ hn181
  have hb201 := hb160.new_ hn181
  have hb202 := hb161.new_ hn181
  have hb203 := hb162.new_ hn181
  have hb204 := hb154.new_ hn181
  have hne205 : q8 ≠ q197 := by have h1 := hb159.lt; have h2 := hq198; omega
  have hne206 : q12 ≠ q197 := by have h1 := hb160.lt; have h2 := hq198; omega
  have hne207 : q44 ≠ q197 := by have h1 := hb161.lt; have h2 := hq198; omega
  have hne208 : q88 ≠ q197 := by have h1 := hb162.lt; have h2 := hq198; omega
  have hne209 : q139 ≠ q197 := by have h1 := hb154.lt; have h2 := hq198; omega
  have hq210 := Nat.le_trans hN163.size hq198
  have hN211 := hN163.transNew hn181
  clear hs166 hd167 h168 h169 h170 h171 h172 h173 h174 h177 h178 hb159 hb160 hb161 hb162 hb154 hq198 hN163 ha182 hn181
  obtain ⟨w212, -, hst213, hb214, hu215, hf216⟩ := s_two (v0 := iv ((addM a (negM b)).1.k)) (v1 := iv ((addM a (negM b)).1.n)) Tryd.sizeOf23 rfl rfl rfl hb199
  refine st_act rfl rfl fun K217 hL218 => a_store' rfl h196 h194 hst213 (hL218 _ _ trivial ?_)
  have hb219 := hf216 _ _ _ (hne205) hb200
  have hb220 := hf216 _ _ _ (hne206) hb201
  have hb221 := hf216 _ _ _ (hne207) hb202
  have hb222 := hf216 _ _ _ (hne208) hb203
  have hb223 := hf216 _ _ _ (hne209) hb204
  have hN224 := hN211.trans hu215 (fun k hk hkb => by subst hkb; omega)
  clear hb199 hst213 K217 hL218 hN211 hb200 hb201 hb202 hb203 hb204 hu215 hf216
  refine st_take rfl rfl (y_assign (v := .bool ((addM a (negM b)).2)) rfl h195) rfl ?_
  obtain ⟨a225, ha226⟩ : ∃ a', a' = a179.put (some 12) (.bool ((addM a (negM b)).2)) := ⟨_, rfl⟩
  have hs227 : a225.tmps.size = 123 := by rw [ha226, put_size]; exact hs183
  have hd228 : a225.defers = [] := by rw [ha226, put_defers]; exact hd184
  have h229 : a225.eval (.tmp 2) = pv q8 := by rw [ha226, put_ne _ _ _ _ (by decide)]; exact h185
  have h230 : a225.eval (.tmp 3) = pv q12 := by rw [ha226, put_ne _ _ _ _ (by decide)]; exact h186
  have h231 : a225.eval (.tmp 4) = .bool false := by rw [ha226, put_ne _ _ _ _ (by decide)]; exact h187
  have h232 : a225.eval (.tmp 5) = pv q44 := by rw [ha226, put_ne _ _ _ _ (by decide)]; exact h188
  have h233 : a225.eval (.tmp 6) = .bool ((addM a b).2) := by rw [ha226, put_ne _ _ _ _ (by decide)]; exact h189
  have h234 : a225.eval (.tmp 7) = pv q88 := by rw [ha226, put_ne _ _ _ _ (by decide)]; exact h190
  have h235 : a225.eval (.tmp 8) = .bool ((addM a b).2) := by rw [ha226, put_ne _ _ _ _ (by decide)]; exact h191
  have h236 : a225.eval (.tmp 9) = pv q139 := by rw [ha226, put_ne _ _ _ _ (by decide)]; exact h192
  have h237 : a225.eval (.tmp 10) = .bool ((addM a (negM b)).2) := by rw [ha226, put_ne _ _ _ _ (by decide)]; exact h193
  have h238 : a225.eval (.tmp 45) = nv ((addM a (negM b)).1) := by rw [ha226, put_ne _ _ _ _ (by decide)]; exact h194
  have h239 : a225.eval (.tmp 46) = .bool ((addM a (negM b)).2) := by rw [ha226, put_ne _ _ _ _ (by decide)]; exact h195
  have h240 : a225.eval (.tmp 11) = pv q197 := by rw [ha226, put_ne _ _ _ _ (by decide)]; exact h196
  have h241 : a225.eval (.tmp 12) = .bool ((addM a (negM b)).2) := by rw [ha226]; exact put_same _ _ _ (by rw [hs183]; decide)
  show stepsTo _ _ _ _ _ (a179.put (some 12) (.bool ((addM a (negM b)).2))) _
  rw [← ha226]
  clear ha226 hs183 hd184 h185 h186 h187 h188 h189 h190 h191 h192 h193 h194 h195 h196
  clear hne205
  clear hne206
  clear hne207
  clear hne208
  clear hne209
  refine st_nil ?_
  clear h238 h239
  refine hK _ _ ?_
  clear hK K
  refine wp_seq_k fun K hK => ?_
  refine wp_g [true, true, true, true, true, true, true, false, false] [5] [(7, false), (8, true)] 123
    [ve (nv a),
     ve (nv b),
     ve (.tuple #[nv ((mulM a b).1), .bool ((mulM a b).2)]),
     ve (.tuple #[nv ((mulM a b).1), .bool ((mulM a b).2)]),
     ve (nv ((mulM a b).1)),
     ve (.bool ((mulM a b).2)),
     IsNew w212 23 [iv 0, iv 0],
     vt,
     vt]
    [6] (newsCons (fun v w h => IsNew.old h) newsNil) hs227 (.eq (.eq (.eq (.eq (.eq (.eq (.nw (.tt (.tt (.nil)))))))))) ?_ ?_ ?_
  · skip
    refine .o1 (tk rfl rfl fun _ w hn k => ⟨_, v_load rfl (k.fx 2 h229) (l_two Tryd.isAgg23 Tryd.sizeOf23 (hb219.new_ hn)), rfl⟩) ?_
    refine .o1 (tk rfl rfl fun _ w hn k => ⟨_, v_load rfl (k.fx 3 h230) (l_two Tryd.isAgg23 Tryd.sizeOf23 (hb220.new_ hn)), rfl⟩) ?_
    refine .o1 (ck rfl rfl rfl (fun _ w hn k => ⟨#[nv a, nv b], args2 (k.eq1 0 48 rfl) (k.eq1 1 49 rfl), fun _ => by kernel_rfl, mul_c a b _⟩) fun _ => rfl) ?_
    refine .o1 (tk rfl rfl fun _ w hn k => ⟨_, v_move rfl (k.eq1 2 50 rfl), rfl⟩) ?_
    refine .o1 (tk rfl rfl fun _ w hn k => ⟨_, v_extract rfl (k.eq1 3 47 rfl) rfl, rfl⟩) ?_
    refine .o3 ?_
    refine .o2 (step_allocN (cs := [iv 0, iv 0]) (t := 23) rfl (noG rfl) (fun _ w hn k => rfl) (fun q _ hq hb => ⟨q, rfl, hq, hb⟩)) ?_
    refine .off ?_
    refine .off ?_
    exact .nil
  · skip
    intro i h
    simp only [List.contains_eq_mem, List.mem_cons, List.not_mem_nil, or_false, decide_eq_true_eq] at h
    subst h
    · exact eager_take rfl rfl fun _ w hn k => ⟨.bool ((mulM a b).2), fun w => v_extract rfl (k.eq1 3 47 rfl) rfl, rfl⟩
  intro a242 w243 hn244 ha245
  have hs246 := ha245.size.trans hs227
  have hd247 := ha245.defers.trans hd228
  have h248 := ha245.fx 2 h229
  have h249 := ha245.fx 3 h230
  have h250 := ha245.fx 4 h231
  have h251 := ha245.fx 5 h232
  have h252 := ha245.fx 6 h233
  have h253 := ha245.fx 7 h234
  have h254 := ha245.fx 8 h235
  have h255 := ha245.fx 9 h236
  have h256 := ha245.fx 10 h237
  have h257 := ha245.fx 11 h240
  have h258 := ha245.fx 12 h241
  have h259 := ha245.ge 4 51 rfl
  have h260 := ha245.ge 5 52 rfl
  obtain ⟨q262, h261, hq263, hb264⟩ : IsNew _ _ _ _ _ := ha245.got 6 13 rfl (by kernel_rfl)
  have hb265 := hb219.new_ hn244
  have hb266 := hb220.new_ hn244
  have hb267 := hb221.new_ hn244
  have hb268 := hb222.new_ hn244
  have hb269 := hb223.new_ hn244
  have hb270 := hb214.new_ hn244
  have hne271 : q8 ≠ q262 := by have h1 := hb219.lt; have h2 := hq263; omega
  have hne272 : q12 ≠ q262 := by have h1 := hb220.lt; have h2 := hq263; omega
  have hne273 : q44 ≠ q262 := by have h1 := hb221.lt; have h2 := hq263; omega
  have hne274 : q88 ≠ q262 := by have h1 := hb222.lt; have h2 := hq263; omega
  have hne275 : q139 ≠ q262 := by have h1 := hb223.lt; have h2 := hq263; omega
  have hne276 : q197 ≠ q262 := by have h1 := hb214.lt; have h2 := hq263; omega
  have hq277 := Nat.le_trans hN224.size hq263
  have hN278 := hN224.transNew hn244
  clear hs227 hd228 h229 h230 h231 h232 h233 h234 h235 h236 h237 h240 h241 hb219 hb220 hb221 hb222 hb223 hb214 hq263 hN224 ha245 hn244
  obtain ⟨w279, -, hst280, hb281, hu282, hf283⟩ := s_two (v0 := iv ((mulM a b).1.k)) (v1 := iv ((mulM a b).1.n)) Tryd.sizeOf23 rfl rfl rfl hb264
  refine st_act rfl rfl fun K284 hL285 => a_store' rfl h261 h259 hst280 (hL285 _ _ trivial ?_)
  have hb286 := hf283 _ _ _ (hne271) hb265
  have hb287 := hf283 _ _ _ (hne272) hb266
  have hb288 := hf283 _ _ _ (hne273) hb267
  have hb289 := hf283 _ _ _ (hne274) hb268
  have hb290 := hf283 _ _ _ (hne275) hb269
  have hb291 := hf283 _ _ _ (hne276) hb270
  have hN292 := hN278.trans hu282 (fun k hk hkb => by subst hkb; omega)
  clear hb264 hst280 K284 hL285 hN278 hb265 hb266 hb267 hb268 hb269 hb270 hu282 hf283
  refine st_take rfl rfl (y_assign (v := .bool ((mulM a b).2)) rfl h260) rfl ?_
  obtain ⟨a293, ha294⟩ : ∃ a', a' = a242.put (some 14) (.bool ((mulM a b).2)) := ⟨_, rfl⟩
  have hs295 : a293.tmps.size = 123 := by rw [ha294, put_size]; exact hs246
  have hd296 : a293.defers = [] := by rw [ha294, put_defers]; exact hd247
  have h297 : a293.eval (.tmp 2) = pv q8 := by rw [ha294, put_ne _ _ _ _ (by decide)]; exact h248
  have h298 : a293.eval (.tmp 3) = pv q12 := by rw [ha294, put_ne _ _ _ _ (by decide)]; exact h249
  have h299 : a293.eval (.tmp 4) = .bool false := by rw [ha294, put_ne _ _ _ _ (by decide)]; exact h250
  have h300 : a293.eval (.tmp 5) = pv q44 := by rw [ha294, put_ne _ _ _ _ (by decide)]; exact h251
  have h301 : a293.eval (.tmp 6) = .bool ((addM a b).2) := by rw [ha294, put_ne _ _ _ _ (by decide)]; exact h252
  have h302 : a293.eval (.tmp 7) = pv q88 := by rw [ha294, put_ne _ _ _ _ (by decide)]; exact h253
  have h303 : a293.eval (.tmp 8) = .bool ((addM a b).2) := by rw [ha294, put_ne _ _ _ _ (by decide)]; exact h254
  have h304 : a293.eval (.tmp 9) = pv q139 := by rw [ha294, put_ne _ _ _ _ (by decide)]; exact h255
  have h305 : a293.eval (.tmp 10) = .bool ((addM a (negM b)).2) := by rw [ha294, put_ne _ _ _ _ (by decide)]; exact h256
  have h306 : a293.eval (.tmp 11) = pv q197 := by rw [ha294, put_ne _ _ _ _ (by decide)]; exact h257
  have h307 : a293.eval (.tmp 12) = .bool ((addM a (negM b)).2) := by rw [ha294, put_ne _ _ _ _ (by decide)]; exact h258
  have h308 : a293.eval (.tmp 51) = nv ((mulM a b).1) := by rw [ha294, put_ne _ _ _ _ (by decide)]; exact h259
  have h309 : a293.eval (.tmp 52) = .bool ((mulM a b).2) := by rw [ha294, put_ne _ _ _ _ (by decide)]; exact h260
  have h310 : a293.eval (.tmp 13) = pv q262 := by rw [ha294, put_ne _ _ _ _ (by decide)]; exact h261
  have h311 : a293.eval (.tmp 14) = .bool ((mulM a b).2) := by rw [ha294]; exact put_same _ _ _ (by rw [hs246]; decide)
  show stepsTo _ _ _ _ _ (a242.put (some 14) (.bool ((mulM a b).2))) _
  rw [← ha294]
  clear ha294 hs246 hd247 h248 h249 h250 h251 h252 h253 h254 h255 h256 h257 h258 h259 h260 h261
  clear hne271
  clear hne272
  clear hne273
  clear hne274
  clear hne275
  clear hne276
  refine st_nil ?_
  clear h308 h309
  refine hK _ _ ?_
  clear hK K
  refine wp_seq_k fun K hK => ?_
  refine wp_g [true, true, true, true, true, true, true, false, false] [5] [(7, false), (8, true)] 123
    [ve (nv a),
     ve (nv b),
     ve (.tuple #[nv ((mulM a b).1), .bool ((mulM a b).2)]),
     ve (.tuple #[nv ((mulM a b).1), .bool ((mulM a b).2)]),
     ve (nv ((mulM a b).1)),
     ve (.bool ((mulM a b).2)),
     IsNew w279 23 [iv 0, iv 0],
     vt,
     vt]
    [6] (newsCons (fun v w h => IsNew.old h) newsNil) hs295 (.eq (.eq (.eq (.eq (.eq (.eq (.nw (.tt (.tt (.nil)))))))))) ?_ ?_ ?_
  · skip
    refine .o1 (tk rfl rfl fun _ w hn k => ⟨_, v_load rfl (k.fx 2 h297) (l_two Tryd.isAgg23 Tryd.sizeOf23 (hb286.new_ hn)), rfl⟩) ?_
    refine .o1 (tk rfl rfl fun _ w hn k => ⟨_, v_load rfl (k.fx 3 h298) (l_two Tryd.isAgg23 Tryd.sizeOf23 (hb287.new_ hn)), rfl⟩) ?_
    refine .o1 (ck rfl rfl rfl (fun _ w hn k => ⟨#[nv a, nv b], args2 (k.eq1 0 54 rfl) (k.eq1 1 55 rfl), fun _ => by kernel_rfl, rmul_c a b _⟩) fun _ => rfl) ?_
    refine .o1 (tk rfl rfl fun _ w hn k => ⟨_, v_move rfl (k.eq1 2 56 rfl), rfl⟩) ?_
    refine .o1 (tk rfl rfl fun _ w hn k => ⟨_, v_extract rfl (k.eq1 3 53 rfl) rfl, rfl⟩) ?_
    refine .o3 ?_
    refine .o2 (step_allocN (cs := [iv 0, iv 0]) (t := 23) rfl (noG rfl) (fun _ w hn k => rfl) (fun q _ hq hb => ⟨q, rfl, hq, hb⟩)) ?_
    refine .off ?_
    refine .off ?_
    exact .nil
  · skip
    intro i h
    simp only [List.contains_eq_mem, List.mem_cons, List.not_mem_nil, or_false, decide_eq_true_eq] at h
    subst h
    · exact eager_take rfl rfl fun _ w hn k => ⟨.bool ((mulM a b).2), fun w => v_extract rfl (k.eq1 3 53 rfl) rfl, rfl⟩
  intro a312 w313 hn314 ha315
  have hs316 := ha315.size.trans hs295
  have hd317 := ha315.defers.trans hd296
  have h318 := ha315.fx 2 h297
  have h319 := ha315.fx 3 h298
  have h320 := ha315.fx 4 h299
  have h321 := ha315.fx 5 h300
  have h322 := ha315.fx 6 h301
  have h323 := ha315.fx 7 h302
  have h324 := ha315.fx 8 h303
  have h325 := ha315.fx 9 h304
  have h326 := ha315.fx 10 h305
  have h327 := ha315.fx 11 h306
  have h328 := ha315.fx 12 h307
  have h329 := ha315.fx 13 h310
  have h330 := ha315.fx 14 h311
  have h331 := ha315.ge 4 57 rfl
  have h332 := ha315.ge 5 58 rfl
  obtain ⟨q334, h333, hq335, hb336⟩ : IsNew _ _ _ _ _ := ha315.got 6 15 rfl (by kernel_rfl)
  have hb337 := hb286.new_ hn314
  have hb338 := hb287.new_ hn314
  have hb339 := hb288.new_ hn314
  have hb340 := hb289.new_ hn314
  have hb341 := hb290.new_ hn314
  have hb342 := hb291.new_ hn314
  have hb343 := hb281.new_ hn314
  have hne344 : q8 ≠ q334 := by have h1 := hb286.lt; have h2 := hq335; omega
  have hne345 : q12 ≠ q334 := by have h1 := hb287.lt; have h2 := hq335; omega
  have hne346 : q44 ≠ q334 := by have h1 := hb288.lt; have h2 := hq335; omega
  have hne347 : q88 ≠ q334 := by have h1 := hb289.lt; have h2 := hq335; omega
  have hne348 : q139 ≠ q334 := by have h1 := hb290.lt; have h2 := hq335; omega
  have hne349 : q197 ≠ q334 := by have h1 := hb291.lt; have h2 := hq335; omega
  have hne350 : q262 ≠ q334 := by have h1 := hb281.lt; have h2 := hq335; omega
  have hq351 := Nat.le_trans hN292.size hq335
  have hN352 := hN292.transNew hn314
  clear hs295 hd296 h297 h298 h299 h300 h301 h302 h303 h304 h305 h306 h307 h310 h311 hb286 hb287 hb288 hb289 hb290 hb291 hb281 hq335 hN292 ha315 hn314
  obtain ⟨w353, -, hst354, hb355, hu356, hf357⟩ := s_two (v0 := iv ((mulM a b).1.k)) (v1 := iv ((mulM a b).1.n)) Tryd.sizeOf23 rfl rfl rfl hb336
  refine st_act rfl rfl fun K358 hL359 => a_store' rfl h333 h331 hst354 (hL359 _ _ trivial ?_)
  have hb360 := hf357 _ _ _ (hne344) hb337
  have hb361 := hf357 _ _ _ (hne345) hb338
  have hb362 := hf357 _ _ _ (hne346) hb339
  have hb363 := hf357 _ _ _ (hne347) hb340
  have hb364 := hf357 _ _ _ (hne348) hb341
  have hb365 := hf357 _ _ _ (hne349) hb342
  have hb366 := hf357 _ _ _ (hne350) hb343
  have hN367 := hN352.trans hu356 (fun k hk hkb => by subst hkb; omega)
  clear hb336 hst354 K358 hL359 hN352 hb337 hb338 hb339 hb340 hb341 hb342 hb343 hu356 hf357
  refine st_take rfl rfl (y_assign (v := .bool ((mulM a b).2)) rfl h332) rfl ?_
  obtain ⟨a368, ha369⟩ : ∃ a', a' = a312.put (some 16) (.bool ((mulM a b).2)) := ⟨_, rfl⟩
  have hs370 : a368.tmps.size = 123 := by rw [ha369, put_size]; exact hs316
  have hd371 : a368.defers = [] := by rw [ha369, put_defers]; exact hd317
  have h372 : a368.eval (.tmp 2) = pv q8 := by rw [ha369, put_ne _ _ _ _ (by decide)]; exact h318
  have h373 : a368.eval (.tmp 3) = pv q12 := by rw [ha369, put_ne _ _ _ _ (by decide)]; exact h319
  have h374 : a368.eval (.tmp 4) = .bool false := by rw [ha369, put_ne _ _ _ _ (by decide)]; exact h320
  have h375 : a368.eval (.tmp 5) = pv q44 := by rw [ha369, put_ne _ _ _ _ (by decide)]; exact h321
  have h376 : a368.eval (.tmp 6) = .bool ((addM a b).2) := by rw [ha369, put_ne _ _ _ _ (by decide)]; exact h322
  have h377 : a368.eval (.tmp 7) = pv q88 := by rw [ha369, put_ne _ _ _ _ (by decide)]; exact h323
  have h378 : a368.eval (.tmp 8) = .bool ((addM a b).2) := by rw [ha369, put_ne _ _ _ _ (by decide)]; exact h324
  have h379 : a368.eval (.tmp 9) = pv q139 := by rw [ha369, put_ne _ _ _ _ (by decide)]; exact h325
  have h380 : a368.eval (.tmp 10) = .bool ((addM a (negM b)).2) := by rw [ha369, put_ne _ _ _ _ (by decide)]; exact h326
  have h381 : a368.eval (.tmp 11) = pv q197 := by rw [ha369, put_ne _ _ _ _ (by decide)]; exact h327
  have h382 : a368.eval (.tmp 12) = .bool ((addM a (negM b)).2) := by rw [ha369, put_ne _ _ _ _ (by decide)]; exact h328
  have h383 : a368.eval (.tmp 13) = pv q262 := by rw [ha369, put_ne _ _ _ _ (by decide)]; exact h329
  have h384 : a368.eval (.tmp 14) = .bool ((mulM a b).2) := by rw [ha369, put_ne _ _ _ _ (by decide)]; exact h330
  have h385 : a368.eval (.tmp 57) = nv ((mulM a b).1) := by rw [ha369, put_ne _ _ _ _ (by decide)]; exact h331
  have h386 : a368.eval (.tmp 58) = .bool ((mulM a b).2) := by rw [ha369, put_ne _ _ _ _ (by decide)]; exact h332
  have h387 : a368.eval (.tmp 15) = pv q334 := by rw [ha369, put_ne _ _ _ _ (by decide)]; exact h333
  have h388 : a368.eval (.tmp 16) = .bool ((mulM a b).2) := by rw [ha369]; exact put_same _ _ _ (by rw [hs316]; decide)
  show stepsTo _ _ _ _ _ (a312.put (some 16) (.bool ((mulM a b).2))) _
  rw [← ha369]
  clear ha369 hs316 hd317 h318 h319 h320 h321 h322 h323 h324 h325 h326 h327 h328 h329 h330 h331 h332 h333
  clear hne344
  clear hne345
  clear hne346
  clear hne347
  clear hne348
  clear hne349
  clear hne350
  refine st_nil ?_
  clear h385 h386
  refine hK _ _ ?_
  clear hK K
  refine wp_seq_k fun K hK => ?_
  refine wp_g [true, true, true, true, true, true, true, false, false] [5] [(7, false), (8, true)] 123
    [ve (nv a),
     ve (nv b),
     ve (.tuple #[nv ((divM a b).1), .bool ((divM a b).2)]),
     ve (.tuple #[nv ((divM a b).1), .bool ((divM a b).2)]),
     ve (nv ((divM a b).1)),
     ve (.bool ((divM a b).2)),
     IsNew w353 23 [iv 0, iv 0],
     vt,
     vt]
    [6] (newsCons (fun v w h => IsNew.old h) newsNil) hs370 (.eq (.eq (.eq (.eq (.eq (.eq (.nw (.tt (.tt (.nil)))))))))) ?_ ?_ ?_
  · skip
    refine .o1 (tk rfl rfl fun _ w hn k => ⟨_, v_load rfl (k.fx 2 h372) (l_two Tryd.isAgg23 Tryd.sizeOf23 (hb360.new_ hn)), rfl⟩) ?_
    refine .o1 (tk rfl rfl fun _ w hn k => ⟨_, v_load rfl (k.fx 3 h373) (l_two Tryd.isAgg23 Tryd.sizeOf23 (hb361.new_ hn)), rfl⟩) ?_
    refine .o1 (ck rfl rfl rfl (fun _ w hn k => ⟨#[nv a, nv b], args2 (k.eq1 0 60 rfl) (k.eq1 1 61 rfl), fun _ => by kernel_rfl, div_c a b _⟩) fun _ => rfl) ?_
    refine .o1 (tk rfl rfl fun _ w hn k => ⟨_, v_move rfl (k.eq1 2 62 rfl), rfl⟩) ?_
    refine .o1 (tk rfl rfl fun _ w hn k => ⟨_, v_extract rfl (k.eq1 3 59 rfl) rfl, rfl⟩) ?_
    refine .o3 ?_
    refine .o2 (step_allocN (cs := [iv 0, iv 0]) (t := 23) rfl (noG rfl) (fun _ w hn k => rfl) (fun q _ hq hb => ⟨q, rfl, hq, hb⟩)) ?_
    refine .off ?_
    refine .off ?_
    exact .nil
  · skip
    intro i h
    simp only [List.contains_eq_mem, List.mem_cons, List.not_mem_nil, or_false, decide_eq_true_eq] at h
    subst h
    · exact eager_take rfl rfl fun _ w hn k => ⟨.bool ((divM a b).2), fun w => v_extract rfl (k.eq1 3 59 rfl) rfl, rfl⟩
  intro a389 w390 hn391 ha392
  have hs393 := ha392.size.trans hs370
  have hd394 := ha392.defers.trans hd371
  have h395 := ha392.fx 2 h372
  have h396 := ha392.fx 3 h373
  have h397 := ha392.fx 4 h374
  have h398 := ha392.fx 5 h375
  have h399 := ha392.fx 6 h376
  have h400 := ha392.fx 7 h377
  have h401 := ha392.fx 8 h378
  have h402 := ha392.fx 9 h379
  have h403 := ha392.fx 10 h380
  have h404 := ha392.fx 11 h381
  have h405 := ha392.fx 12 h382
  have h406 := ha392.fx 13 h383
  have h407 := ha392.fx 14 h384
  have h408 := ha392.fx 15 h387
  have h409 := ha392.fx 16 h388
  have h410 := ha392.ge 4 63 rfl
  have h411 := ha392.ge 5 64 rfl
  obtain ⟨q413, h412, hq414, hb415⟩ : IsNew _ _ _ _ _ := ha392.got 6 17 rfl (by kernel_rfl)
  have hb416 := hb360.new_ hn391
  have hb417 := hb361.new_ hn391
  have hb418 := hb362.new_ hn391
  have hb419 := hb363.new_ hn391
  have hb420 := hb364.new_ hn391
  have hb421 := hb365.new_ hn391
  have hb422 := hb366.new_ hn391
  have hb423 := hb355.new_ hn391
  have hne424 : q8 ≠ q413 := by have h1 := hb360.lt; have h2 := hq414; omega
  have hne425 : q12 ≠ q413 := by have h1 := hb361.lt; have h2 := hq414; omega
  have hne426 : q44 ≠ q413 := by have h1 := hb362.lt; have h2 := hq414; omega
  have hne427 : q88 ≠ q413 := by have h1 := hb363.lt; have h2 := hq414; omega
  have hne428 : q139 ≠ q413 := by have h1 := hb364.lt; have h2 := hq414; omega
  have hne429 : q197 ≠ q413 := by have h1 := hb365.lt; have h2 := hq414; omega
  have hne430 : q262 ≠ q413 := by have h1 := hb366.lt; have h2 := hq414; omega
  have hne431 : q334 ≠ q413 := by have h1 := hb355.lt; have h2 := hq414; omega
  have hq432 := Nat.le_trans hN367.size hq414
  have hN433 := hN367.transNew hn391
  clear hs370 hd371 h372 h373 h374 h375 h376 h377 h378 h379 h380 h381 h382 h383 h384 h387 h388 hb360 hb361 hb362 hb363 hb364 hb365 hb366 hb355 hq414 hN367 ha392 hn391
  obtain ⟨w434, -, hst435, hb436, hu437, hf438⟩ := s_two (v0 := iv ((divM a b).1.k)) (v1 := iv ((divM a b).1.n)) Tryd.sizeOf23 rfl rfl rfl hb415
  refine st_act rfl rfl fun K439 hL440 => a_store' rfl h412 h410 hst435 (hL440 _ _ trivial ?_)
  have hb441 := hf438 _ _ _ (hne424) hb416
  have hb442 := hf438 _ _ _ (hne425) hb417
  have hb443 := hf438 _ _ _ (hne426) hb418
  have hb444 := hf438 _ _ _ (hne427) hb419
  have hb445 := hf438 _ _ _ (hne428) hb420
  have hb446 := hf438 _ _ _ (hne429) hb421
  have hb447 := hf438 _ _ _ (hne430) hb422
  have hb448 := hf438 _ _ _ (hne431) hb423
  have hN449 := hN433.trans hu437 (fun k hk hkb => by subst hkb; omega)
  clear hb415 hst435 K439 hL440 hN433 hb416 hb417 hb418 hb419 hb420 hb421 hb422 hb423 hu437 hf438
  refine st_take rfl rfl (y_assign (v := .bool ((divM a b).2)) rfl h411) rfl ?_
  obtain ⟨a450, ha451⟩ : ∃ a', a' = a389.put (some 18) (.bool ((divM a b).2)) := ⟨_, rfl⟩
  have hs452 : a450.tmps.size = 123 := by rw [ha451, put_size]; exact hs393
  have hd453 : a450.defers = [] := by rw [ha451, put_defers]; exact hd394
  have h454 : a450.eval (.tmp 2) = pv q8 := by rw [ha451, put_ne _ _ _ _ (by decide)]; exact h395
  have h455 : a450.eval (.tmp 3) = pv q12 := by rw [ha451, put_ne _ _ _ _ (by decide)]; exact h396
  have h456 : a450.eval (.tmp 4) = .bool false := by rw [ha451, put_ne _ _ _ _ (by decide)]; exact h397
  have h457 : a450.eval (.tmp 5) = pv q44 := by rw [ha451, put_ne _ _ _ _ (by decide)]; exact h398
  have h458 : a450.eval (.tmp 6) = .bool ((addM a b).2) := by rw [ha451, put_ne _ _ _ _ (by decide)]; exact h399
  have h459 : a450.eval (.tmp 7) = pv q88 := by rw [ha451, put_ne _ _ _ _ (by decide)]; exact h400
  have h460 : a450.eval (.tmp 8) = .bool ((addM a b).2) := by rw [ha451, put_ne _ _ _ _ (by decide)]; exact h401
  have h461 : a450.eval (.tmp 9) = pv q139 := by rw [ha451, put_ne _ _ _ _ (by decide)]; exact h402
  have h462 : a450.eval (.tmp 10) = .bool ((addM a (negM b)).2) := by rw [ha451, put_ne _ _ _ _ (by decide)]; exact h403
  have h463 : a450.eval (.tmp 11) = pv q197 := by rw [ha451, put_ne _ _ _ _ (by decide)]; exact h404
  have h464 : a450.eval (.tmp 12) = .bool ((addM a (negM b)).2) := by rw [ha451, put_ne _ _ _ _ (by decide)]; exact h405
  have h465 : a450.eval (.tmp 13) = pv q262 := by rw [ha451, put_ne _ _ _ _ (by decide)]; exact h406
  have h466 : a450.eval (.tmp 14) = .bool ((mulM a b).2) := by rw [ha451, put_ne _ _ _ _ (by decide)]; exact h407
  have h467 : a450.eval (.tmp 15) = pv q334 := by rw [ha451, put_ne _ _ _ _ (by decide)]; exact h408
  have h468 : a450.eval (.tmp 16) = .bool ((mulM a b).2) := by rw [ha451, put_ne _ _ _ _ (by decide)]; exact h409
  have h469 : a450.eval (.tmp 63) = nv ((divM a b).1) := by rw [ha451, put_ne _ _ _ _ (by decide)]; exact h410
  have h470 : a450.eval (.tmp 64) = .bool ((divM a b).2) := by rw [ha451, put_ne _ _ _ _ (by decide)]; exact h411
  have h471 : a450.eval (.tmp 17) = pv q413 := by rw [ha451, put_ne _ _ _ _ (by decide)]; exact h412
  have h472 : a450.eval (.tmp 18) = .bool ((divM a b).2) := by rw [ha451]; exact put_same _ _ _ (by rw [hs393]; decide)
  show stepsTo _ _ _ _ _ (a389.put (some 18) (.bool ((divM a b).2))) _
  rw [← ha451]
  clear ha451 hs393 hd394 h395 h396 h397 h398 h399 h400 h401 h402 h403 h404 h405 h406 h407 h408 h409 h410 h411 h412
  clear hne424
  clear hne425
  clear hne426
  clear hne427
  clear hne428
  clear hne429
  clear hne430
  clear hne431
  refine st_nil ?_
  clear h469 h470
  refine hK _ _ ?_
  clear hK K
  refine wp_seq_k fun K hK => ?_
  refine wp_g [true, true, true, true, true, true, true, false, false] [5] [(7, false), (8, true)] 123
    [ve (nv a),
     ve (nv b),
     ve (.tuple #[nv ((divM a b).1), .bool ((divM a b).2)]),
     ve (.tuple #[nv ((divM a b).1), .bool ((divM a b).2)]),
     ve (nv ((divM a b).1)),
     ve (.bool ((divM a b).2)),
     IsNew w434 23 [iv 0, iv 0],
     vt,
     vt]
    [6] (newsCons (fun v w h => IsNew.old h) newsNil) hs452 (.eq (.eq (.eq (.eq (.eq (.eq (.nw (.tt (.tt (.nil)))))))))) ?_ ?_ ?_
  · skip
    refine .o1 (tk rfl rfl fun _ w hn k => ⟨_, v_load rfl (k.fx 2 h454) (l_two Tryd.isAgg23 Tryd.sizeOf23 (hb441.new_ hn)), rfl⟩) ?_
    refine .o1 (tk rfl rfl fun _ w hn k => ⟨_, v_load rfl (k.fx 3 h455) (l_two Tryd.isAgg23 Tryd.sizeOf23 (hb442.new_ hn)), rfl⟩) ?_
    refine .o1 (ck rfl rfl rfl (fun _ w hn k => ⟨#[nv a, nv b], args2 (k.eq1 0 66 rfl) (k.eq1 1 67 rfl), fun _ => by kernel_rfl, rdiv_c a b _⟩) fun _ => rfl) ?_
    refine .o1 (tk rfl rfl fun _ w hn k => ⟨_, v_move rfl (k.eq1 2 68 rfl), rfl⟩) ?_
    refine .o1 (tk rfl rfl fun _ w hn k => ⟨_, v_extract rfl (k.eq1 3 65 rfl) rfl, rfl⟩) ?_
    refine .o3 ?_
    refine .o2 (step_allocN (cs := [iv 0, iv 0]) (t := 23) rfl (noG rfl) (fun _ w hn k => rfl) (fun q _ hq hb => ⟨q, rfl, hq, hb⟩)) ?_
    refine .off ?_
    refine .off ?_
    exact .nil
  · skip
    intro i h
    simp only [List.contains_eq_mem, List.mem_cons, List.not_mem_nil, or_false, decide_eq_true_eq] at h
    subst h
    · exact eager_take rfl rfl fun _ w hn k => ⟨.bool ((divM a b).2), fun w => v_extract rfl (k.eq1 3 65 rfl) rfl, rfl⟩
  intro a473 w474 hn475 ha476
  have hs477 := ha476.size.trans hs452
  have hd478 := ha476.defers.trans hd453
  have h479 := ha476.fx 2 h454
  have h480 := ha476.fx 3 h455
  have h481 := ha476.fx 4 h456
  have h482 := ha476.fx 5 h457
  have h483 := ha476.fx 6 h458
  have h484 := ha476.fx 7 h459
  have h485 := ha476.fx 8 h460
  have h486 := ha476.fx 9 h461
  have h487 := ha476.fx 10 h462
  have h488 := ha476.fx 11 h463
  have h489 := ha476.fx 12 h464
  have h490 := ha476.fx 13 h465
  have h491 := ha476.fx 14 h466
  have h492 := ha476.fx 15 h467
  have h493 := ha476.fx 16 h468
  have h494 := ha476.fx 17 h471
  have h495 := ha476.fx 18 h472
  have h496 := ha476.ge 4 69 rfl
  have h497 := ha476.ge 5 70 rfl
  obtain ⟨q499, h498, hq500, hb501⟩ : IsNew _ _ _ _ _ := ha476.got 6 19 rfl (by kernel_rfl)
  have hb502 := hb441.new_ hn475
  have hb503 := hb442.new_ hn475
  have hb504 := hb443.new_ hn475
  have hb505 := hb444.new_ hn475
  have hb506 := hb445.new_ hn475
  have hb507 := hb446.new_ hn475
  have hb508 := hb447.new_ hn475
  have hb509 := hb448.new_ hn475
  have hb510 := hb436.new_ hn475
  have hne511 : q8 ≠ q499 := by have h1 := hb441.lt; have h2 := hq500; omega
  have hne512 : q12 ≠ q499 := by have h1 := hb442.lt; have h2 := hq500; omega
  have hne513 : q44 ≠ q499 := by have h1 := hb443.lt; have h2 := hq500; omega
  have hne514 : q88 ≠ q499 := by have h1 := hb444.lt; have h2 := hq500; omega
  have hne515 : q139 ≠ q499 := by have h1 := hb445.lt; have h2 := hq500; omega
  have hne516 : q197 ≠ q499 := by have h1 := hb446.lt; have h2 := hq500; omega
  have hne517 : q262 ≠ q499 := by have h1 := hb447.lt; have h2 := hq500; omega
  have hne518 : q334 ≠ q499 := by have h1 := hb448.lt; have h2 := hq500; omega
  have hne519 : q413 ≠ q499 := by have h1 := hb436.lt; have h2 := hq500; omega
  have hq520 := Nat.le_trans hN449.size hq500
  have hN521 := hN449.transNew hn475
  clear hs452 hd453 h454 h455 h456 h457 h458 h459 h460 h461 h462 h463 h464 h465 h466 h467 h468 h471 h472 hb441 hb442 hb443 hb444 hb445 hb446 hb447 hb448 hb436 hq500 hN449 ha476 hn475
  obtain ⟨w522, -, hst523, hb524, hu525, hf526⟩ := s_two (v0 := iv ((divM a b).1.k)) (v1 := iv ((divM a b).1.n)) Tryd.sizeOf23 rfl rfl rfl hb501
  refine st_act rfl rfl fun K527 hL528 => a_store' rfl h498 h496 hst523 (hL528 _ _ trivial ?_)
  have hb529 := hf526 _ _ _ (hne511) hb502
  have hb530 := hf526 _ _ _ (hne512) hb503
  have hb531 := hf526 _ _ _ (hne513) hb504
  have hb532 := hf526 _ _ _ (hne514) hb505
  have hb533 := hf526 _ _ _ (hne515) hb506
  have hb534 := hf526 _ _ _ (hne516) hb507
  have hb535 := hf526 _ _ _ (hne517) hb508
  have hb536 := hf526 _ _ _ (hne518) hb509
  have hb537 := hf526 _ _ _ (hne519) hb510
  have hN538 := hN521.trans hu525 (fun k hk hkb => by subst hkb; omega)
  clear hb501 hst523 K527 hL528 hN521 hb502 hb503 hb504 hb505 hb506 hb507 hb508 hb509 hb510 hu525 hf526
  refine st_take rfl rfl (y_assign (v := .bool ((divM a b).2)) rfl h497) rfl ?_
  obtain ⟨a539, ha540⟩ : ∃ a', a' = a473.put (some 20) (.bool ((divM a b).2)) := ⟨_, rfl⟩
  have hs541 : a539.tmps.size = 123 := by rw [ha540, put_size]; exact hs477
  have hd542 : a539.defers = [] := by rw [ha540, put_defers]; exact hd478
  have h543 : a539.eval (.tmp 2) = pv q8 := by rw [ha540, put_ne _ _ _ _ (by decide)]; exact h479
  have h544 : a539.eval (.tmp 3) = pv q12 := by rw [ha540, put_ne _ _ _ _ (by decide)]; exact h480
  have h545 : a539.eval (.tmp 4) = .bool false := by rw [ha540, put_ne _ _ _ _ (by decide)]; exact h481
  have h546 : a539.eval (.tmp 5) = pv q44 := by rw [ha540, put_ne _ _ _ _ (by decide)]; exact h482
  have h547 : a539.eval (.tmp 6) = .bool ((addM a b).2) := by rw [ha540, put_ne _ _ _ _ (by decide)]; exact h483
  have h548 : a539.eval (.tmp 7) = pv q88 := by rw [ha540, put_ne _ _ _ _ (by decide)]; exact h484
  have h549 : a539.eval (.tmp 8) = .bool ((addM a b).2) := by rw [ha540, put_ne _ _ _ _ (by decide)]; exact h485
  have h550 : a539.eval (.tmp 9) = pv q139 := by rw [ha540, put_ne _ _ _ _ (by decide)]; exact h486
  have h551 : a539.eval (.tmp 10) = .bool ((addM a (negM b)).2) := by rw [ha540, put_ne _ _ _ _ (by decide)]; exact h487
  have h552 : a539.eval (.tmp 11) = pv q197 := by rw [ha540, put_ne _ _ _ _ (by decide)]; exact h488
  have h553 : a539.eval (.tmp 12) = .bool ((addM a (negM b)).2) := by rw [ha540, put_ne _ _ _ _ (by decide)]; exact h489
  have h554 : a539.eval (.tmp 13) = pv q262 := by rw [ha540, put_ne _ _ _ _ (by decide)]; exact h490
  have h555 : a539.eval (.tmp 14) = .bool ((mulM a b).2) := by rw [ha540, put_ne _ _ _ _ (by decide)]; exact h491
  have h556 : a539.eval (.tmp 15) = pv q334 := by rw [ha540, put_ne _ _ _ _ (by decide)]; exact h492
  have h557 : a539.eval (.tmp 16) = .bool ((mulM a b).2) := by rw [ha540, put_ne _ _ _ _ (by decide)]; exact h493
  have h558 : a539.eval (.tmp 17) = pv q413 := by rw [ha540, put_ne _ _ _ _ (by decide)]; exact h494
  have h559 : a539.eval (.tmp 18) = .bool ((divM a b).2) := by rw [ha540, put_ne _ _ _ _ (by decide)]; exact h495
  have h560 : a539.eval (.tmp 69) = nv ((divM a b).1) := by rw [ha540, put_ne _ _ _ _ (by decide)]; exact h496
  have h561 : a539.eval (.tmp 70) = .bool ((divM a b).2) := by rw [ha540, put_ne _ _ _ _ (by decide)]; exact h497
  have h562 : a539.eval (.tmp 19) = pv q499 := by rw [ha540, put_ne _ _ _ _ (by decide)]; exact h498
  have h563 : a539.eval (.tmp 20) = .bool ((divM a b).2) := by rw [ha540]; exact put_same _ _ _ (by rw [hs477]; decide)
  show stepsTo _ _ _ _ _ (a473.put (some 20) (.bool ((divM a b).2))) _
  rw [← ha540]
  clear ha540 hs477 hd478 h479 h480 h481 h482 h483 h484 h485 h486 h487 h488 h489 h490 h491 h492 h493 h494 h495 h496 h497 h498
  clear hne511
  clear hne512
  clear hne513
  clear hne514
  clear hne515
  clear hne516
  clear hne517
  clear hne518
  clear hne519
  refine st_nil ?_
  clear h560 h561
  refine hK _ _ ?_
  clear hK K
  refine wp_seq_k fun K hK => ?_
  rcases Bool.eq_false_or_eq_true (mayB a) with ht564 | ht564
  · skip
    have ht565 : (eqN ((addM a b).1) ((addM a b).1) && ((addM a b).2) == ((addM a b).2)) = true := is_refl _ _
    have ht566 : (eqN ((addM a (negM b)).1) ((addM a (negM b)).1) && ((addM a (negM b)).2) == ((addM a (negM b)).2)) = true := is_refl _ _
    have ht567 : (eqN ((mulM a b).1) ((mulM a b).1) && ((mulM a b).2) == ((mulM a b).2)) = true := is_refl _ _
    have ht568 : (eqN ((divM a b).1) ((divM a b).1) && ((divM a b).2) == ((divM a b).2)) = true := is_refl _ _
    have ht569 : (eqN (remM a b) (remM a b)) = true := eqN_refl _
    refine wp_g0 [true, true, true, true, true, true, true, true, true, true, true, true, true, true, true, true, true, true, true, true, true, true, true, true, true, true, true, true, true, true, true, true, true, true, true, true, true, true, true, true, true, true, true, true, true, true, true, true, true, true, true, true, true] [] 123
      [ve (.bool true),
       ve (.bool true),
       ve (nv a),
       ve (.bool true),
       ve (nv a),
       ve (.bool true),
       ve (.bool true),
       ve (.bool true),
       ve (.bool true),
       ve (nv ((addM a b).1)),
       ve (.bool ((addM a b).2)),
       ve (nv ((addM a b).1)),
       ve (.bool ((addM a b).2)),
       ve (.bool true),
       ve (.bool true),
       ve (.bool true),
       ve (nv ((addM a (negM b)).1)),
       ve (.bool ((addM a (negM b)).2)),
       ve (nv ((addM a (negM b)).1)),
       ve (.bool ((addM a (negM b)).2)),
       ve (.bool true),
       ve (.bool true),
       ve (.bool true),
       ve (nv ((mulM a b).1)),
       ve (.bool ((mulM a b).2)),
       ve (nv ((mulM a b).1)),
       ve (.bool ((mulM a b).2)),
       ve (.bool true),
       ve (.bool true),
       ve (.bool true),
       ve (nv ((divM a b).1)),
       ve (.bool ((divM a b).2)),
       ve (nv ((divM a b).1)),
       ve (.bool ((divM a b).2)),
       ve (.bool true),
       ve (.bool true),
       ve (.bool true),
       ve (nv a),
       ve (nv b),
       ve (nv (remM a b)),
       ve (nv a),
       ve (nv b),
       ve (nv (remM a b)),
       ve (.bool true),
       ve (.bool true),
       ve (.bool true),
       ve (nv a),
       ve (nv (negM a)),
       ve (nv a),
       ve (nv (negM a)),
       ve (.bool (eqN (negM a) (negM a))),
       ve (.bool (eqN (negM a) (negM a))),
       ve (.bool (eqN (negM a) (negM a)))] hs541 (.eq (.eq (.eq (.eq (.eq (.eq (.eq (.eq (.eq (.eq (.eq (.eq (.eq (.eq (.eq (.eq (.eq (.eq (.eq (.eq (.eq (.eq (.eq (.eq (.eq (.eq (.eq (.eq (.eq (.eq (.eq (.eq (.eq (.eq (.eq (.eq (.eq (.eq (.eq (.eq (.eq (.eq (.eq (.eq (.eq (.eq (.eq (.eq (.eq (.eq (.eq (.eq (.eq (.nil)))))))))))))))))))))))))))))))))))))))))))))))))))))) ?_ ?_
    · skip
      refine .o1 (ck rfl rfl rfl (fun _ w hn k => ⟨#[], rfl, fun _ => by kernel_rfl, first_c  _⟩) fun _ => rfl) ?_
      refine .o1 (tk rfl rfl fun _ w hn k => ⟨_, v_move rfl (k.eq1 0 71 rfl), rfl⟩) ?_
      refine .o1 (tg rfl rfl rfl (fun _ _ k => k.eq1 1 72 rfl) fun _ w hn k => ⟨_, v_load rfl (k.fx 2 h543) (l_two Tryd.isAgg23 Tryd.sizeOf23 (hb529.new_ hn)), rfl⟩) ?_
      refine .o1 (cg rfl rfl rfl (fun _ _ k => k.eq1 1 72 rfl) rfl (fun _ w hn k => ⟨#[nv a], args1 (k.eq1 2 73 rfl), fun _ => by kernel_rfl, may_c a _⟩) fun _ => congrArg Value.bool ht564) ?_
      refine .o1 (tg rfl rfl rfl (fun _ _ k => k.eq1 1 72 rfl) fun _ w hn k => ⟨_, v_load rfl (k.fx 2 h543) (l_two Tryd.isAgg23 Tryd.sizeOf23 (hb529.new_ hn)), rfl⟩) ?_
      refine .o1 (cg rfl rfl rfl (fun _ _ k => k.eq1 1 72 rfl) rfl (fun _ w hn k => ⟨#[nv a], args1 (k.eq1 4 75 rfl), fun _ => by kernel_rfl, rmay_c a _⟩) fun _ => congrArg Value.bool ht564) ?_
      refine .o1 (tg rfl rfl rfl (fun _ _ k => k.eq1 1 72 rfl) fun _ w hn k => ⟨_, v_bin rfl (k.eq1 3 74 rfl) (k.eq1 5 76 rfl) (fun _ => rfl) (fun w => by kernel_rfl), rfl⟩) ?_
      refine .o1 (tk rfl rfl fun _ w hn k => ⟨_, v_pickT rfl (k.eq1 1 72 rfl) (k.eq1 6 77 rfl), rfl⟩) ?_
      refine .o1 (tk rfl rfl fun _ w hn k => ⟨_, v_move rfl (k.eq1 7 78 rfl), rfl⟩) ?_
      refine .o1 (tg rfl rfl rfl (fun _ _ k => k.eq1 8 79 rfl) fun _ w hn k => ⟨_, v_load rfl (k.fx 5 h546) (l_two Tryd.isAgg23 Tryd.sizeOf23 (hb531.new_ hn)), rfl⟩) ?_
      refine .o1 (tg rfl rfl rfl (fun _ _ k => k.eq1 8 79 rfl) fun _ w hn k => ⟨_, v_move rfl (k.fx 6 h547), rfl⟩) ?_
      refine .o1 (tg rfl rfl rfl (fun _ _ k => k.eq1 8 79 rfl) fun _ w hn k => ⟨_, v_load rfl (k.fx 7 h548) (l_two Tryd.isAgg23 Tryd.sizeOf23 (hb532.new_ hn)), rfl⟩) ?_
      refine .o1 (tg rfl rfl rfl (fun _ _ k => k.eq1 8 79 rfl) fun _ w hn k => ⟨_, v_move rfl (k.fx 8 h549), rfl⟩) ?_
      refine .o1 (cg rfl rfl rfl (fun _ _ k => k.eq1 8 79 rfl) rfl (fun _ w hn k => ⟨#[nv ((addM a b).1), .bool ((addM a b).2), nv ((addM a b).1), .bool ((addM a b).2)], args4 (k.eq1 9 80 rfl) (k.eq1 10 81 rfl) (k.eq1 11 82 rfl) (k.eq1 12 83 rfl), fun _ => by kernel_rfl, is_c ((addM a b).1) ((addM a b).2) ((addM a b).1) ((addM a b).2) _⟩) fun _ => congrArg Value.bool ht565) ?_
      refine .o1 (tk rfl rfl fun _ w hn k => ⟨_, v_pickT rfl (k.eq1 8 79 rfl) (k.eq1 13 84 rfl), rfl⟩) ?_
      refine .o1 (tk rfl rfl fun _ w hn k => ⟨_, v_move rfl (k.eq1 14 85 rfl), rfl⟩) ?_
      refine .o1 (tg rfl rfl rfl (fun _ _ k => k.eq1 15 86 rfl) fun _ w hn k => ⟨_, v_load rfl (k.fx 9 h550) (l_two Tryd.isAgg23 Tryd.sizeOf23 (hb533.new_ hn)), rfl⟩) ?_
      refine .o1 (tg rfl rfl rfl (fun _ _ k => k.eq1 15 86 rfl) fun _ w hn k => ⟨_, v_move rfl (k.fx 10 h551), rfl⟩) ?_
      refine .o1 (tg rfl rfl rfl (fun _ _ k => k.eq1 15 86 rfl) fun _ w hn k => ⟨_, v_load rfl (k.fx 11 h552) (l_two Tryd.isAgg23 Tryd.sizeOf23 (hb534.new_ hn)), rfl⟩) ?_
      refine .o1 (tg rfl rfl rfl (fun _ _ k => k.eq1 15 86 rfl) fun _ w hn k => ⟨_, v_move rfl (k.fx 12 h553), rfl⟩) ?_
      refine .o1 (cg rfl rfl rfl (fun _ _ k => k.eq1 15 86 rfl) rfl (fun _ w hn k => ⟨#[nv ((addM a (negM b)).1), .bool ((addM a (negM b)).2), nv ((addM a (negM b)).1), .bool ((addM a (negM b)).2)], args4 (k.eq1 16 87 rfl) (k.eq1 17 88 rfl) (k.eq1 18 89 rfl) (k.eq1 19 90 rfl), fun _ => by kernel_rfl, is_c ((addM a (negM b)).1) ((addM a (negM b)).2) ((addM a (negM b)).1) ((addM a (negM b)).2) _⟩) fun _ => congrArg Value.bool ht566) ?_
      refine .o1 (tk rfl rfl fun _ w hn k => ⟨_, v_pickT rfl (k.eq1 15 86 rfl) (k.eq1 20 91 rfl), rfl⟩) ?_
      refine .o1 (tk rfl rfl fun _ w hn k => ⟨_, v_move rfl (k.eq1 21 92 rfl), rfl⟩) ?_
      refine .o1 (tg rfl rfl rfl (fun _ _ k => k.eq1 22 93 rfl) fun _ w hn k => ⟨_, v_load rfl (k.fx 13 h554) (l_two Tryd.isAgg23 Tryd.sizeOf23 (hb535.new_ hn)), rfl⟩) ?_
      refine .o1 (tg rfl rfl rfl (fun _ _ k => k.eq1 22 93 rfl) fun _ w hn k => ⟨_, v_move rfl (k.fx 14 h555), rfl⟩) ?_
      refine .o1 (tg rfl rfl rfl (fun _ _ k => k.eq1 22 93 rfl) fun _ w hn k => ⟨_, v_load rfl (k.fx 15 h556) (l_two Tryd.isAgg23 Tryd.sizeOf23 (hb536.new_ hn)), rfl⟩) ?_
      refine .o1 (tg rfl rfl rfl (fun _ _ k => k.eq1 22 93 rfl) fun _ w hn k => ⟨_, v_move rfl (k.fx 16 h557), rfl⟩) ?_
      refine .o1 (cg rfl rfl rfl (fun _ _ k => k.eq1 22 93 rfl) rfl (fun _ w hn k => ⟨#[nv ((mulM a b).1), .bool ((mulM a b).2), nv ((mulM a b).1), .bool ((mulM a b).2)], args4 (k.eq1 23 94 rfl) (k.eq1 24 95 rfl) (k.eq1 25 96 rfl) (k.eq1 26 97 rfl), fun _ => by kernel_rfl, is_c ((mulM a b).1) ((mulM a b).2) ((mulM a b).1) ((mulM a b).2) _⟩) fun _ => congrArg Value.bool ht567) ?_
      refine .o1 (tk rfl rfl fun _ w hn k => ⟨_, v_pickT rfl (k.eq1 22 93 rfl) (k.eq1 27 98 rfl), rfl⟩) ?_
      refine .o1 (tk rfl rfl fun _ w hn k => ⟨_, v_move rfl (k.eq1 28 99 rfl), rfl⟩) ?_
      refine .o1 (tg rfl rfl rfl (fun _ _ k => k.eq1 29 100 rfl) fun _ w hn k => ⟨_, v_load rfl (k.fx 17 h558) (l_two Tryd.isAgg23 Tryd.sizeOf23 (hb537.new_ hn)), rfl⟩) ?_
      refine .o1 (tg rfl rfl rfl (fun _ _ k => k.eq1 29 100 rfl) fun _ w hn k => ⟨_, v_move rfl (k.fx 18 h559), rfl⟩) ?_
      refine .o1 (tg rfl rfl rfl (fun _ _ k => k.eq1 29 100 rfl) fun _ w hn k => ⟨_, v_load rfl (k.fx 19 h562) (l_two Tryd.isAgg23 Tryd.sizeOf23 (hb524.new_ hn)), rfl⟩) ?_
      refine .o1 (tg rfl rfl rfl (fun _ _ k => k.eq1 29 100 rfl) fun _ w hn k => ⟨_, v_move rfl (k.fx 20 h563), rfl⟩) ?_
      refine .o1 (cg rfl rfl rfl (fun _ _ k => k.eq1 29 100 rfl) rfl (fun _ w hn k => ⟨#[nv ((divM a b).1), .bool ((divM a b).2), nv ((divM a b).1), .bool ((divM a b).2)], args4 (k.eq1 30 101 rfl) (k.eq1 31 102 rfl) (k.eq1 32 103 rfl) (k.eq1 33 104 rfl), fun _ => by kernel_rfl, is_c ((divM a b).1) ((divM a b).2) ((divM a b).1) ((divM a b).2) _⟩) fun _ => congrArg Value.bool ht568) ?_
      refine .o1 (tk rfl rfl fun _ w hn k => ⟨_, v_pickT rfl (k.eq1 29 100 rfl) (k.eq1 34 105 rfl), rfl⟩) ?_
      refine .o1 (tk rfl rfl fun _ w hn k => ⟨_, v_move rfl (k.eq1 35 106 rfl), rfl⟩) ?_
      refine .o1 (tg rfl rfl rfl (fun _ _ k => k.eq1 36 107 rfl) fun _ w hn k => ⟨_, v_load rfl (k.fx 2 h543) (l_two Tryd.isAgg23 Tryd.sizeOf23 (hb529.new_ hn)), rfl⟩) ?_
      refine .o1 (tg rfl rfl rfl (fun _ _ k => k.eq1 36 107 rfl) fun _ w hn k => ⟨_, v_load rfl (k.fx 3 h544) (l_two Tryd.isAgg23 Tryd.sizeOf23 (hb530.new_ hn)), rfl⟩) ?_
      refine .o1 (cg rfl rfl rfl (fun _ _ k => k.eq1 36 107 rfl) rfl (fun _ w hn k => ⟨#[nv a, nv b], args2 (k.eq1 37 108 rfl) (k.eq1 38 109 rfl), fun _ => by kernel_rfl, rem_c a b _⟩) fun _ => rfl) ?_
      refine .o1 (tg rfl rfl rfl (fun _ _ k => k.eq1 36 107 rfl) fun _ w hn k => ⟨_, v_load rfl (k.fx 2 h543) (l_two Tryd.isAgg23 Tryd.sizeOf23 (hb529.new_ hn)), rfl⟩) ?_
      refine .o1 (tg rfl rfl rfl (fun _ _ k => k.eq1 36 107 rfl) fun _ w hn k => ⟨_, v_load rfl (k.fx 3 h544) (l_two Tryd.isAgg23 Tryd.sizeOf23 (hb530.new_ hn)), rfl⟩) ?_
      refine .o1 (cg rfl rfl rfl (fun _ _ k => k.eq1 36 107 rfl) rfl (fun _ w hn k => ⟨#[nv a, nv b], args2 (k.eq1 40 111 rfl) (k.eq1 41 112 rfl), fun _ => by kernel_rfl, rrem_c a b _⟩) fun _ => rfl) ?_
      refine .o1 (cg rfl rfl rfl (fun _ _ k => k.eq1 36 107 rfl) rfl (fun _ w hn k => ⟨#[nv (remM a b), nv (remM a b)], args2 (k.eq1 39 110 rfl) (k.eq1 42 113 rfl), fun _ => by kernel_rfl, rnum_c (remM a b) (remM a b) _⟩) fun _ => congrArg Value.bool ht569) ?_
      refine .o1 (tk rfl rfl fun _ w hn k => ⟨_, v_pickT rfl (k.eq1 36 107 rfl) (k.eq1 43 114 rfl), rfl⟩) ?_
      refine .o1 (tk rfl rfl fun _ w hn k => ⟨_, v_move rfl (k.eq1 44 115 rfl), rfl⟩) ?_
      refine .o1 (tg rfl rfl rfl (fun _ _ k => k.eq1 45 116 rfl) fun _ w hn k => ⟨_, v_load rfl (k.fx 2 h543) (l_two Tryd.isAgg23 Tryd.sizeOf23 (hb529.new_ hn)), rfl⟩) ?_
      refine .o1 (cg rfl rfl rfl (fun _ _ k => k.eq1 45 116 rfl) rfl (fun _ w hn k => ⟨#[nv a], args1 (k.eq1 46 117 rfl), fun _ => by kernel_rfl, neg_c a _⟩) fun _ => rfl) ?_
      refine .o1 (tg rfl rfl rfl (fun _ _ k => k.eq1 45 116 rfl) fun _ w hn k => ⟨_, v_load rfl (k.fx 2 h543) (l_two Tryd.isAgg23 Tryd.sizeOf23 (hb529.new_ hn)), rfl⟩) ?_
      refine .o1 (cg rfl rfl rfl (fun _ _ k => k.eq1 45 116 rfl) rfl (fun _ w hn k => ⟨#[nv a], args1 (k.eq1 48 119 rfl), fun _ => by kernel_rfl, rneg_c a _⟩) fun _ => rfl) ?_
      refine .o1 (cg rfl rfl rfl (fun _ _ k => k.eq1 45 116 rfl) rfl (fun _ w hn k => ⟨#[nv (negM a), nv (negM a)], args2 (k.eq1 47 118 rfl) (k.eq1 49 120 rfl), fun _ => by kernel_rfl, rnum_c (negM a) (negM a) _⟩) fun _ => rfl) ?_
      refine .o1 (tk rfl rfl fun _ w hn k => ⟨_, v_pickT rfl (k.eq1 45 116 rfl) (k.eq1 50 121 rfl), rfl⟩) ?_
      refine .o1 (tk rfl rfl fun _ w hn k => ⟨_, v_assign rfl (k.eq1 51 122 rfl), rfl⟩) ?_
      exact .nil
    intro a570 w571 hn572 ha573
    have hs574 := ha573.size.trans hs541
    have hd575 := ha573.defers.trans hd542
    have h576 := ha573.ge 52 4 rfl
    have hN577 := hN538.transNew hn572
    clear hs541 hd542 h543 h544 h545 h546 h547 h548 h549 h550 h551 h552 h553 h554 h555 h556 h557 h558 h559 h562 h563 hb529 hq16 hb530 hq17 hb531 hq51 hb532 hq97 hb533 hq150 hb534 hq210 hb535 hq277 hb536 hq351 hb537 hq432 hb524 hq520 hN538 ha573 hn572
    refine st_nil ?_
    refine hK _ _ ?_
    clear hK K
    refine wp_ret (ret_k hd575 (v := .bool (eqN (negM a) (negM a))) (res_t rfl h576 _) ?_)
    exact ⟨congrArg (fun b => Ending.returned (.bool b)) (eqN_refl _), hN577⟩
  have ht578 : (eqN ((addM a b).1) ((addM a b).1) && ((addM a b).2) == ((addM a b).2)) = true := is_refl _ _
  have ht579 : (eqN ((addM a (negM b)).1) ((addM a (negM b)).1) && ((addM a (negM b)).2) == ((addM a (negM b)).2)) = true := is_refl _ _
  have ht580 : (eqN ((mulM a b).1) ((mulM a b).1) && ((mulM a b).2) == ((mulM a b).2)) = true := is_refl _ _
  have ht581 : (eqN ((divM a b).1) ((divM a b).1) && ((divM a b).2) == ((divM a b).2)) = true := is_refl _ _
  have ht582 : (eqN (remM a b) (remM a b)) = true := eqN_refl _
  refine wp_g0 [true, true, true, true, true, true, true, true, true, true, true, true, true, true, true, true, true, true, true, true, true, true, true, true, true, true, true, true, true, true, true, true, true, true, true, true, true, true, true, true, true, true, true, true, true, true, true, true, true, true, true, true, true] [] 123
    [ve (.bool true),
     ve (.bool true),
     ve (nv a),
     ve (.bool false),
     ve (nv a),
     ve (.bool false),
     ve (.bool true),
     ve (.bool true),
     ve (.bool true),
     ve (nv ((addM a b).1)),
     ve (.bool ((addM a b).2)),
     ve (nv ((addM a b).1)),
     ve (.bool ((addM a b).2)),
     ve (.bool true),
     ve (.bool true),
     ve (.bool true),
     ve (nv ((addM a (negM b)).1)),
     ve (.bool ((addM a (negM b)).2)),
     ve (nv ((addM a (negM b)).1)),
     ve (.bool ((addM a (negM b)).2)),
     ve (.bool true),
     ve (.bool true),
     ve (.bool true),
     ve (nv ((mulM a b).1)),
     ve (.bool ((mulM a b).2)),
     ve (nv ((mulM a b).1)),
     ve (.bool ((mulM a b).2)),
     ve (.bool true),
     ve (.bool true),
     ve (.bool true),
     ve (nv ((divM a b).1)),
     ve (.bool ((divM a b).2)),
     ve (nv ((divM a b).1)),
     ve (.bool ((divM a b).2)),
     ve (.bool true),
     ve (.bool true),
     ve (.bool true),
     ve (nv a),
     ve (nv b),
     ve (nv (remM a b)),
     ve (nv a),
     ve (nv b),
     ve (nv (remM a b)),
     ve (.bool true),
     ve (.bool true),
     ve (.bool true),
     ve (nv a),
     ve (nv (negM a)),
     ve (nv a),
     ve (nv (negM a)),
     ve (.bool (eqN (negM a) (negM a))),
     ve (.bool (eqN (negM a) (negM a))),
     ve (.bool (eqN (negM a) (negM a)))] hs541 (.eq (.eq (.eq (.eq (.eq (.eq (.eq (.eq (.eq (.eq (.eq (.eq (.eq (.eq (.eq (.eq (.eq (.eq (.eq (.eq (.eq (.eq (.eq (.eq (.eq (.eq (.eq (.eq (.eq (.eq (.eq (.eq (.eq (.eq (.eq (.eq (.eq (.eq (.eq (.eq (.eq (.eq (.eq (.eq (.eq (.eq (.eq (.eq (.eq (.eq (.eq (.eq (.eq (.nil)))))))))))))))))))))))))))))))))))))))))))))))))))))) ?_ ?_
  · skip
    refine .o1 (ck rfl rfl rfl (fun _ w hn k => ⟨#[], rfl, fun _ => by kernel_rfl, first_c  _⟩) fun _ => rfl) ?_
    refine .o1 (tk rfl rfl fun _ w hn k => ⟨_, v_move rfl (k.eq1 0 71 rfl), rfl⟩) ?_
    refine .o1 (tg rfl rfl rfl (fun _ _ k => k.eq1 1 72 rfl) fun _ w hn k => ⟨_, v_load rfl (k.fx 2 h543) (l_two Tryd.isAgg23 Tryd.sizeOf23 (hb529.new_ hn)), rfl⟩) ?_
    refine .o1 (cg rfl rfl rfl (fun _ _ k => k.eq1 1 72 rfl) rfl (fun _ w hn k => ⟨#[nv a], args1 (k.eq1 2 73 rfl), fun _ => by kernel_rfl, may_c a _⟩) fun _ => congrArg Value.bool ht564) ?_
    refine .o1 (tg rfl rfl rfl (fun _ _ k => k.eq1 1 72 rfl) fun _ w hn k => ⟨_, v_load rfl (k.fx 2 h543) (l_two Tryd.isAgg23 Tryd.sizeOf23 (hb529.new_ hn)), rfl⟩) ?_
    refine .o1 (cg rfl rfl rfl (fun _ _ k => k.eq1 1 72 rfl) rfl (fun _ w hn k => ⟨#[nv a], args1 (k.eq1 4 75 rfl), fun _ => by kernel_rfl, rmay_c a _⟩) fun _ => congrArg Value.bool ht564) ?_
    refine .o1 (tg rfl rfl rfl (fun _ _ k => k.eq1 1 72 rfl) fun _ w hn k => ⟨_, v_bin rfl (k.eq1 3 74 rfl) (k.eq1 5 76 rfl) (fun _ => rfl) (fun w => by kernel_rfl), rfl⟩) ?_
    refine .o1 (tk rfl rfl fun _ w hn k => ⟨_, v_pickT rfl (k.eq1 1 72 rfl) (k.eq1 6 77 rfl), rfl⟩) ?_
    refine .o1 (tk rfl rfl fun _ w hn k => ⟨_, v_move rfl (k.eq1 7 78 rfl), rfl⟩) ?_
    refine .o1 (tg rfl rfl rfl (fun _ _ k => k.eq1 8 79 rfl) fun _ w hn k => ⟨_, v_load rfl (k.fx 5 h546) (l_two Tryd.isAgg23 Tryd.sizeOf23 (hb531.new_ hn)), rfl⟩) ?_
    refine .o1 (tg rfl rfl rfl (fun _ _ k => k.eq1 8 79 rfl) fun _ w hn k => ⟨_, v_move rfl (k.fx 6 h547), rfl⟩) ?_
    refine .o1 (tg rfl rfl rfl (fun _ _ k => k.eq1 8 79 rfl) fun _ w hn k => ⟨_, v_load rfl (k.fx 7 h548) (l_two Tryd.isAgg23 Tryd.sizeOf23 (hb532.new_ hn)), rfl⟩) ?_
    refine .o1 (tg rfl rfl rfl (fun _ _ k => k.eq1 8 79 rfl) fun _ w hn k => ⟨_, v_move rfl (k.fx 8 h549), rfl⟩) ?_
    refine .o1 (cg rfl rfl rfl (fun _ _ k => k.eq1 8 79 rfl) rfl (fun _ w hn k => ⟨#[nv ((addM a b).1), .bool ((addM a b).2), nv ((addM a b).1), .bool ((addM a b).2)], args4 (k.eq1 9 80 rfl) (k.eq1 10 81 rfl) (k.eq1 11 82 rfl) (k.eq1 12 83 rfl), fun _ => by kernel_rfl, is_c ((addM a b).1) ((addM a b).2) ((addM a b).1) ((addM a b).2) _⟩) fun _ => congrArg Value.bool ht578) ?_
    refine .o1 (tk rfl rfl fun _ w hn k => ⟨_, v_pickT rfl (k.eq1 8 79 rfl) (k.eq1 13 84 rfl), rfl⟩) ?_
    refine .o1 (tk rfl rfl fun _ w hn k => ⟨_, v_move rfl (k.eq1 14 85 rfl), rfl⟩) ?_
    refine .o1 (tg rfl rfl rfl (fun _ _ k => k.eq1 15 86 rfl) fun _ w hn k => ⟨_, v_load rfl (k.fx 9 h550) (l_two Tryd.isAgg23 Tryd.sizeOf23 (hb533.new_ hn)), rfl⟩) ?_
    refine .o1 (tg rfl rfl rfl (fun _ _ k => k.eq1 15 86 rfl) fun _ w hn k => ⟨_, v_move rfl (k.fx 10 h551), rfl⟩) ?_
    refine .o1 (tg rfl rfl rfl (fun _ _ k => k.eq1 15 86 rfl) fun _ w hn k => ⟨_, v_load rfl (k.fx 11 h552) (l_two Tryd.isAgg23 Tryd.sizeOf23 (hb534.new_ hn)), rfl⟩) ?_
    refine .o1 (tg rfl rfl rfl (fun _ _ k => k.eq1 15 86 rfl) fun _ w hn k => ⟨_, v_move rfl (k.fx 12 h553), rfl⟩) ?_
    refine .o1 (cg rfl rfl rfl (fun _ _ k => k.eq1 15 86 rfl) rfl (fun _ w hn k => ⟨#[nv ((addM a (negM b)).1), .bool ((addM a (negM b)).2), nv ((addM a (negM b)).1), .bool ((addM a (negM b)).2)], args4 (k.eq1 16 87 rfl) (k.eq1 17 88 rfl) (k.eq1 18 89 rfl) (k.eq1 19 90 rfl), fun _ => by kernel_rfl, is_c ((addM a (negM b)).1) ((addM a (negM b)).2) ((addM a (negM b)).1) ((addM a (negM b)).2) _⟩) fun _ => congrArg Value.bool ht579) ?_
    refine .o1 (tk rfl rfl fun _ w hn k => ⟨_, v_pickT rfl (k.eq1 15 86 rfl) (k.eq1 20 91 rfl), rfl⟩) ?_
    refine .o1 (tk rfl rfl fun _ w hn k => ⟨_, v_move rfl (k.eq1 21 92 rfl), rfl⟩) ?_
    refine .o1 (tg rfl rfl rfl (fun _ _ k => k.eq1 22 93 rfl) fun _ w hn k => ⟨_, v_load rfl (k.fx 13 h554) (l_two Tryd.isAgg23 Tryd.sizeOf23 (hb535.new_ hn)), rfl⟩) ?_
    refine .o1 (tg rfl rfl rfl (fun _ _ k => k.eq1 22 93 rfl) fun _ w hn k => ⟨_, v_move rfl (k.fx 14 h555), rfl⟩) ?_
    refine .o1 (tg rfl rfl rfl (fun _ _ k => k.eq1 22 93 rfl) fun _ w hn k => ⟨_, v_load rfl (k.fx 15 h556) (l_two Tryd.isAgg23 Tryd.sizeOf23 (hb536.new_ hn)), rfl⟩) ?_
    refine .o1 (tg rfl rfl rfl (fun _ _ k => k.eq1 22 93 rfl) fun _ w hn k => ⟨_, v_move rfl (k.fx 16 h557), rfl⟩) ?_
    refine .o1 (cg rfl rfl rfl (fun _ _ k => k.eq1 22 93 rfl) rfl (fun _ w hn k => ⟨#[nv ((mulM a b).1), .bool ((mulM a b).2), nv ((mulM a b).1), .bool ((mulM a b).2)], args4 (k.eq1 23 94 rfl) (k.eq1 24 95 rfl) (k.eq1 25 96 rfl) (k.eq1 26 97 rfl), fun _ => by kernel_rfl, is_c ((mulM a b).1) ((mulM a b).2) ((mulM a b).1) ((mulM a b).2) _⟩) fun _ => congrArg Value.bool ht580) ?_
    refine .o1 (tk rfl rfl fun _ w hn k => ⟨_, v_pickT rfl (k.eq1 22 93 rfl) (k.eq1 27 98 rfl), rfl⟩) ?_
    refine .o1 (tk rfl rfl fun _ w hn k => ⟨_, v_move rfl (k.eq1 28 99 rfl), rfl⟩) ?_
    refine .o1 (tg rfl rfl rfl (fun _ _ k => k.eq1 29 100 rfl) fun _ w hn k => ⟨_, v_load rfl (k.fx 17 h558) (l_two Tryd.isAgg23 Tryd.sizeOf23 (hb537.new_ hn)), rfl⟩) ?_
    refine .o1 (tg rfl rfl rfl (fun _ _ k => k.eq1 29 100 rfl) fun _ w hn k => ⟨_, v_move rfl (k.fx 18 h559), rfl⟩) ?_
    refine .o1 (tg rfl rfl rfl (fun _ _ k => k.eq1 29 100 rfl) fun _ w hn k => ⟨_, v_load rfl (k.fx 19 h562) (l_two Tryd.isAgg23 Tryd.sizeOf23 (hb524.new_ hn)), rfl⟩) ?_
    refine .o1 (tg rfl rfl rfl (fun _ _ k => k.eq1 29 100 rfl) fun _ w hn k => ⟨_, v_move rfl (k.fx 20 h563), rfl⟩) ?_
    refine .o1 (cg rfl rfl rfl (fun _ _ k => k.eq1 29 100 rfl) rfl (fun _ w hn k => ⟨#[nv ((divM a b).1), .bool ((divM a b).2), nv ((divM a b).1), .bool ((divM a b).2)], args4 (k.eq1 30 101 rfl) (k.eq1 31 102 rfl) (k.eq1 32 103 rfl) (k.eq1 33 104 rfl), fun _ => by kernel_rfl, is_c ((divM a b).1) ((divM a b).2) ((divM a b).1) ((divM a b).2) _⟩) fun _ => congrArg Value.bool ht581) ?_
    refine .o1 (tk rfl rfl fun _ w hn k => ⟨_, v_pickT rfl (k.eq1 29 100 rfl) (k.eq1 34 105 rfl), rfl⟩) ?_
    refine .o1 (tk rfl rfl fun _ w hn k => ⟨_, v_move rfl (k.eq1 35 106 rfl), rfl⟩) ?_
    refine .o1 (tg rfl rfl rfl (fun _ _ k => k.eq1 36 107 rfl) fun _ w hn k => ⟨_, v_load rfl (k.fx 2 h543) (l_two Tryd.isAgg23 Tryd.sizeOf23 (hb529.new_ hn)), rfl⟩) ?_
    refine .o1 (tg rfl rfl rfl (fun _ _ k => k.eq1 36 107 rfl) fun _ w hn k => ⟨_, v_load rfl (k.fx 3 h544) (l_two Tryd.isAgg23 Tryd.sizeOf23 (hb530.new_ hn)), rfl⟩) ?_
    refine .o1 (cg rfl rfl rfl (fun _ _ k => k.eq1 36 107 rfl) rfl (fun _ w hn k => ⟨#[nv a, nv b], args2 (k.eq1 37 108 rfl) (k.eq1 38 109 rfl), fun _ => by kernel_rfl, rem_c a b _⟩) fun _ => rfl) ?_
    refine .o1 (tg rfl rfl rfl (fun _ _ k => k.eq1 36 107 rfl) fun _ w hn k => ⟨_, v_load rfl (k.fx 2 h543) (l_two Tryd.isAgg23 Tryd.sizeOf23 (hb529.new_ hn)), rfl⟩) ?_
    refine .o1 (tg rfl rfl rfl (fun _ _ k => k.eq1 36 107 rfl) fun _ w hn k => ⟨_, v_load rfl (k.fx 3 h544) (l_two Tryd.isAgg23 Tryd.sizeOf23 (hb530.new_ hn)), rfl⟩) ?_
    refine .o1 (cg rfl rfl rfl (fun _ _ k => k.eq1 36 107 rfl) rfl (fun _ w hn k => ⟨#[nv a, nv b], args2 (k.eq1 40 111 rfl) (k.eq1 41 112 rfl), fun _ => by kernel_rfl, rrem_c a b _⟩) fun _ => rfl) ?_
    refine .o1 (cg rfl rfl rfl (fun _ _ k => k.eq1 36 107 rfl) rfl (fun _ w hn k => ⟨#[nv (remM a b), nv (remM a b)], args2 (k.eq1 39 110 rfl) (k.eq1 42 113 rfl), fun _ => by kernel_rfl, rnum_c (remM a b) (remM a b) _⟩) fun _ => congrArg Value.bool ht582) ?_
    refine .o1 (tk rfl rfl fun _ w hn k => ⟨_, v_pickT rfl (k.eq1 36 107 rfl) (k.eq1 43 114 rfl), rfl⟩) ?_
    refine .o1 (tk rfl rfl fun _ w hn k => ⟨_, v_move rfl (k.eq1 44 115 rfl), rfl⟩) ?_
    refine .o1 (tg rfl rfl rfl (fun _ _ k => k.eq1 45 116 rfl) fun _ w hn k => ⟨_, v_load rfl (k.fx 2 h543) (l_two Tryd.isAgg23 Tryd.sizeOf23 (hb529.new_ hn)), rfl⟩) ?_
    refine .o1 (cg rfl rfl rfl (fun _ _ k => k.eq1 45 116 rfl) rfl (fun _ w hn k => ⟨#[nv a], args1 (k.eq1 46 117 rfl), fun _ => by kernel_rfl, neg_c a _⟩) fun _ => rfl) ?_
    refine .o1 (tg rfl rfl rfl (fun _ _ k => k.eq1 45 116 rfl) fun _ w hn k => ⟨_, v_load rfl (k.fx 2 h543) (l_two Tryd.isAgg23 Tryd.sizeOf23 (hb529.new_ hn)), rfl⟩) ?_
    refine .o1 (cg rfl rfl rfl (fun _ _ k => k.eq1 45 116 rfl) rfl (fun _ w hn k => ⟨#[nv a], args1 (k.eq1 48 119 rfl), fun _ => by kernel_rfl, rneg_c a _⟩) fun _ => rfl) ?_
    refine .o1 (cg rfl rfl rfl (fun _ _ k => k.eq1 45 116 rfl) rfl (fun _ w hn k => ⟨#[nv (negM a), nv (negM a)], args2 (k.eq1 47 118 rfl) (k.eq1 49 120 rfl), fun _ => by kernel_rfl, rnum_c (negM a) (negM a) _⟩) fun _ => rfl) ?_
    refine .o1 (tk rfl rfl fun _ w hn k => ⟨_, v_pickT rfl (k.eq1 45 116 rfl) (k.eq1 50 121 rfl), rfl⟩) ?_
    refine .o1 (tk rfl rfl fun _ w hn k => ⟨_, v_assign rfl (k.eq1 51 122 rfl), rfl⟩) ?_
    exact .nil
  intro a583 w584 hn585 ha586
  have hs587 := ha586.size.trans hs541
  have hd588 := ha586.defers.trans hd542
  have h589 := ha586.ge 52 4 rfl
  have hN590 := hN538.transNew hn585
  clear hs541 hd542 h543 h544 h545 h546 h547 h548 h549 h550 h551 h552 h553 h554 h555 h556 h557 h558 h559 h562 h563 hb529 hq16 hb530 hq17 hb531 hq51 hb532 hq97 hb533 hq150 hb534 hq210 hb535 hq277 hb536 hq351 hb537 hq432 hb524 hq520 hN538 ha586 hn585
  refine st_nil ?_
  refine hK _ _ ?_
  clear hK K
  refine wp_ret (ret_k hd588 (v := .bool (eqN (negM a) (negM a))) (res_t rfl h589 _) ?_)
  exact ⟨congrArg (fun b => Ending.returned (.bool b)) (eqN_refl _), hN590⟩
end Go.Proofs.YtldakajmhfdfgaaDoor
