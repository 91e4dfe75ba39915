/- NumTurns: the walk -/
import Derived.Test.YtldakajmhfdfgaaDoorNumF
import Derived.Test.YtldakajmhfdfgaaDoorNumT
import Derived.Test.YtldakajmhfdfgaaDoorNumMath12
namespace Go.Proofs.YtldakajmhfdfgaaDoor
open Go.RowKit
set_option linter.unusedSimpArgs false
set_option linter.unusedVariables false
set_option maxHeartbeats 8000000 in
set_option maxRecDepth 100000 in
theorem turns_walk (a : Nm) (b : Nm) (w : World) (HT : ItoaOk w) : Calls Tryd.prog 13 #[nv a, nv b] w (IsRet (.bool true) w) := by
  refine enter_abs Tryd.func13 rfl fun a0 hs0 hd0 hp => ?_
  have hs0 : a0.tmps.size = 132 := hs0
  have hN0 : New w w := Upd.refl _ _
  have hp0 : a0.eval (.tmp 0) = nv a := hp 0 _ rfl
  have hp1 : a0.eval (.tmp 1) = nv b := hp 1 _ rfl
  clear hp
  refine wp_seq_k fun K hK => ?_
  refine wp_g [true, true, true] [] [] 132
    [IsNew w 23 [iv a.k, iv a.n],
     IsNew w 23 [iv b.k, iv b.n],
     ve (.bool false)]
    [0, 1] (newsCons (fun v w h => IsNew.old h) (newsCons (fun v w h => IsNew.old h) newsNil)) hs0 (.nw (.nw (.eq (.nil)))) ?_ (fun i h => by cases h) ?_
  · skip
    refine .o2 (step_allocN (cs := [iv a.k, iv a.n]) (t := 23) rfl (noG rfl) (fun _ w hn k => v_box rfl (k.fx 0 hp0) (fun w => rfl)) (fun q _ hq hb => ⟨q, rfl, hq, hb⟩)) ?_
    refine .o2 (step_allocN (cs := [iv b.k, iv b.n]) (t := 23) rfl (noG rfl) (fun _ w hn k => v_box rfl (k.fx 1 hp1) (fun w => rfl)) (fun q _ hq hb => ⟨q, rfl, hq, hb⟩)) ?_
    refine .o1 (tk rfl rfl fun _ w hn k => ⟨_, v_assign rfl rfl, rfl⟩) ?_
    exact .nil
  intro a1 w2 hn3 ha4
  have hs5 := ha4.size.trans hs0
  have hd6 := ha4.defers.trans hd0
  obtain ⟨q8, h7, hq9, hb10⟩ : IsNew _ _ _ _ _ := ha4.got 0 2 rfl (by kernel_rfl)
  obtain ⟨q12, h11, hq13, hb14⟩ : IsNew _ _ _ _ _ := ha4.got 1 3 rfl (by kernel_rfl)
  have h15 := ha4.ge 2 4 rfl
  have hq16 := Nat.le_trans hN0.size hq9
  have hq17 := Nat.le_trans hN0.size hq13
  have hN18 := hN0.transNew hn3
  clear hs0 hd0 hp0 hp1 hq9 hq13 hN0 ha4 hn3
  refine st_nil ?_
  refine hK _ _ ?_
  clear hK K
  refine wp_seq_k fun K hK => ?_
  refine wp_seq_k fun K hK => ?_
  refine wp_g0 [true, true] [] 132
    [ve (.bool true),
     ve (.bool false)] hs5 (.eq (.eq (.nil))) ?_ ?_
  · skip
    refine .o1 (ck rfl rfl rfl (fun _ w hn k => ⟨#[], rfl, fun _ => by kernel_rfl, first_c  _⟩) fun _ => rfl) ?_
    refine .o1 (tk rfl rfl fun _ w hn k => ⟨_, v_not rfl (k.eq1 0 17 rfl), rfl⟩) ?_
    exact .nil
  intro a19 w20 hn21 ha22
  have hs23 := ha22.size.trans hs5
  have hd24 := ha22.defers.trans hd6
  have h25 := ha22.fx 2 h7
  have h26 := ha22.fx 3 h11
  have h27 := ha22.fx 4 h15
  have h28 := ha22.ge 1 18 rfl
  have hb29 := hb10.new_ hn21
  have hb30 := hb14.new_ hn21
  have hN31 := hN18.transNew hn21
  clear hs5 hd6 h7 h11 h15 hb10 hb14 hN18 ha22 hn21
  refine st_nil ?_
  refine hK _ _ ?_
  clear hK K
  refine wp_cond_false h28 ?_
  refine wp_skip ?_
  refine hK _ _ ?_
  clear hK K
  refine wp_seq_k fun K hK => ?_
  refine wp_g [true, true, true, true, true, true, true, false, false] [5] [(7, false), (8, true)] 132
    [ve (nv a),
     ve (nv b),
     ve (.tuple #[nv ((addM a b).1), .bool ((addM a b).2)]),
     ve (.tuple #[nv ((addM a b).1), .bool ((addM a b).2)]),
     ve (nv ((addM a b).1)),
     ve (.bool ((addM a b).2)),
     IsNew w20 23 [iv 0, iv 0],
     vt,
     vt]
    [6] (newsCons (fun v w h => IsNew.old h) newsNil) hs23 (.eq (.eq (.eq (.eq (.eq (.eq (.nw (.tt (.tt (.nil)))))))))) ?_ ?_ ?_
  · skip
    refine .o1 (tk rfl rfl fun _ w hn k => ⟨_, v_load rfl (k.fx 2 h25) (l_two Tryd.isAgg23 Tryd.sizeOf23 (hb29.new_ hn)), rfl⟩) ?_
    refine .o1 (tk rfl rfl fun _ w hn k => ⟨_, v_load rfl (k.fx 3 h26) (l_two Tryd.isAgg23 Tryd.sizeOf23 (hb30.new_ hn)), rfl⟩) ?_
    refine .o1 (ck rfl rfl rfl (fun _ w hn k => ⟨#[nv a, nv b], args2 (k.eq1 0 20 rfl) (k.eq1 1 21 rfl), fun _ => by kernel_rfl, add_c a b _⟩) fun _ => rfl) ?_
    refine .o1 (tk rfl rfl fun _ w hn k => ⟨_, v_move rfl (k.eq1 2 22 rfl), rfl⟩) ?_
    refine .o1 (tk rfl rfl fun _ w hn k => ⟨_, v_extract rfl (k.eq1 3 19 rfl) rfl, rfl⟩) ?_
    refine .o3 ?_
    refine .o2 (step_allocN (cs := [iv 0, iv 0]) (t := 23) rfl (noG rfl) (fun _ w hn k => rfl) (fun q _ hq hb => ⟨q, rfl, hq, hb⟩)) ?_
    refine .off ?_
    refine .off ?_
    exact .nil
  · skip
    intro i h
    simp only [List.contains_eq_mem, List.mem_cons, List.not_mem_nil, or_false, decide_eq_true_eq] at h
    subst h
    · exact eager_take rfl rfl fun _ w hn k => ⟨.bool ((addM a b).2), fun w => v_extract rfl (k.eq1 3 19 rfl) rfl, rfl⟩
  intro a32 w33 hn34 ha35
  have hs36 := ha35.size.trans hs23
  have hd37 := ha35.defers.trans hd24
  have h38 := ha35.fx 2 h25
  have h39 := ha35.fx 3 h26
  have h40 := ha35.fx 4 h27
  have h41 := ha35.ge 4 23 rfl
  have h42 := ha35.ge 5 24 rfl
  obtain ⟨q44, h43, hq45, hb46⟩ : IsNew _ _ _ _ _ := ha35.got 6 5 rfl (by kernel_rfl)
  have hb47 := hb29.new_ hn34
  have hb48 := hb30.new_ hn34
  have hne49 : q8 ≠ q44 := by have h1 := hb29.lt; have h2 := hq45; omega
  have hne50 : q12 ≠ q44 := by have h1 := hb30.lt; have h2 := hq45; omega
  have hq51 := Nat.le_trans hN31.size hq45
  have hN52 := hN31.transNew hn34
  clear hs23 hd24 h25 h26 h27 h28 hb29 hb30 hq45 hN31 ha35 hn34
  obtain ⟨w53, -, hst54, hb55, hu56, hf57⟩ := s_two (v0 := iv ((addM a b).1.k)) (v1 := iv ((addM a b).1.n)) Tryd.sizeOf23 rfl rfl rfl hb46
  refine st_act rfl rfl fun K58 hL59 => a_store' rfl h43 h41 hst54 (hL59 _ _ trivial ?_)
  have hb60 := hf57 _ _ _ (hne49) hb47
  have hb61 := hf57 _ _ _ (hne50) hb48
  have hN62 := hN52.trans hu56 (fun k hk hkb => by subst hkb; omega)
  clear hb46 hst54 K58 hL59 hN52 hb47 hb48 hu56 hf57
  refine st_take rfl rfl (y_assign (v := .bool ((addM a b).2)) rfl h42) rfl ?_
  obtain ⟨a63, ha64⟩ : ∃ a', a' = a32.put (some 6) (.bool ((addM a b).2)) := ⟨_, rfl⟩
  have hs65 : a63.tmps.size = 132 := by rw [ha64, put_size]; exact hs36
  have hd66 : a63.defers = [] := by rw [ha64, put_defers]; exact hd37
  have h67 : a63.eval (.tmp 2) = pv q8 := by rw [ha64, put_ne _ _ _ _ (by decide)]; exact h38
  have h68 : a63.eval (.tmp 3) = pv q12 := by rw [ha64, put_ne _ _ _ _ (by decide)]; exact h39
  have h69 : a63.eval (.tmp 4) = .bool false := by rw [ha64, put_ne _ _ _ _ (by decide)]; exact h40
  have h70 : a63.eval (.tmp 23) = nv ((addM a b).1) := by rw [ha64, put_ne _ _ _ _ (by decide)]; exact h41
  have h71 : a63.eval (.tmp 24) = .bool ((addM a b).2) := by rw [ha64, put_ne _ _ _ _ (by decide)]; exact h42
  have h72 : a63.eval (.tmp 5) = pv q44 := by rw [ha64, put_ne _ _ _ _ (by decide)]; exact h43
  have h73 : a63.eval (.tmp 6) = .bool ((addM a b).2) := by rw [ha64]; exact put_same _ _ _ (by rw [hs36]; decide)
  show stepsTo _ _ _ _ _ (a32.put (some 6) (.bool ((addM a b).2))) _
  rw [← ha64]
  clear ha64 hs36 hd37 h38 h39 h40 h41 h42 h43
  clear hne49
  clear hne50
  refine st_nil ?_
  clear h70 h71
  refine hK _ _ ?_
  clear hK K
  refine wp_seq_k fun K hK => ?_
  refine wp_g [true, true, true, true, true, true, true, false, false] [5] [(7, false), (8, true)] 132
    [ve (nv b),
     ve (nv a),
     ve (.tuple #[nv ((addM b a).1), .bool ((addM b a).2)]),
     ve (.tuple #[nv ((addM b a).1), .bool ((addM b a).2)]),
     ve (nv ((addM b a).1)),
     ve (.bool ((addM b a).2)),
     IsNew w53 23 [iv 0, iv 0],
     vt,
     vt]
    [6] (newsCons (fun v w h => IsNew.old h) newsNil) hs65 (.eq (.eq (.eq (.eq (.eq (.eq (.nw (.tt (.tt (.nil)))))))))) ?_ ?_ ?_
  · skip
    refine .o1 (tk rfl rfl fun _ w hn k => ⟨_, v_load rfl (k.fx 3 h68) (l_two Tryd.isAgg23 Tryd.sizeOf23 (hb61.new_ hn)), rfl⟩) ?_
    refine .o1 (tk rfl rfl fun _ w hn k => ⟨_, v_load rfl (k.fx 2 h67) (l_two Tryd.isAgg23 Tryd.sizeOf23 (hb60.new_ hn)), rfl⟩) ?_
    refine .o1 (ck rfl rfl rfl (fun _ w hn k => ⟨#[nv b, nv a], args2 (k.eq1 0 26 rfl) (k.eq1 1 27 rfl), fun _ => by kernel_rfl, add_c b a _⟩) fun _ => rfl) ?_
    refine .o1 (tk rfl rfl fun _ w hn k => ⟨_, v_move rfl (k.eq1 2 28 rfl), rfl⟩) ?_
    refine .o1 (tk rfl rfl fun _ w hn k => ⟨_, v_extract rfl (k.eq1 3 25 rfl) rfl, rfl⟩) ?_
    refine .o3 ?_
    refine .o2 (step_allocN (cs := [iv 0, iv 0]) (t := 23) rfl (noG rfl) (fun _ w hn k => rfl) (fun q _ hq hb => ⟨q, rfl, hq, hb⟩)) ?_
    refine .off ?_
    refine .off ?_
    exact .nil
  · skip
    intro i h
    simp only [List.contains_eq_mem, List.mem_cons, List.not_mem_nil, or_false, decide_eq_true_eq] at h
    subst h
    · exact eager_take rfl rfl fun _ w hn k => ⟨.bool ((addM b a).2), fun w => v_extract rfl (k.eq1 3 25 rfl) rfl, rfl⟩
  intro a74 w75 hn76 ha77
  have hs78 := ha77.size.trans hs65
  have hd79 := ha77.defers.trans hd66
  have h80 := ha77.fx 2 h67
  have h81 := ha77.fx 3 h68
  have h82 := ha77.fx 4 h69
  have h83 := ha77.fx 5 h72
  have h84 := ha77.fx 6 h73
  have h85 := ha77.ge 4 29 rfl
  have h86 := ha77.ge 5 30 rfl
  obtain ⟨q88, h87, hq89, hb90⟩ : IsNew _ _ _ _ _ := ha77.got 6 7 rfl (by kernel_rfl)
  have hb91 := hb60.new_ hn76
  have hb92 := hb61.new_ hn76
  have hb93 := hb55.new_ hn76
  have hne94 : q8 ≠ q88 := by have h1 := hb60.lt; have h2 := hq89; omega
  have hne95 : q12 ≠ q88 := by have h1 := hb61.lt; have h2 := hq89; omega
  have hne96 : q44 ≠ q88 := by have h1 := hb55.lt; have h2 := hq89; omega
  have hq97 := Nat.le_trans hN62.size hq89
  have hN98 := hN62.transNew hn76
  clear hs65 hd66 h67 h68 h69 h72 h73 hb60 hb61 hb55 hq89 hN62 ha77 hn76
  obtain ⟨w99, -, hst100, hb101, hu102, hf103⟩ := s_two (v0 := iv ((addM b a).1.k)) (v1 := iv ((addM b a).1.n)) Tryd.sizeOf23 rfl rfl rfl hb90
  refine st_act rfl rfl fun K104 hL105 => a_store' rfl h87 h85 hst100 (hL105 _ _ trivial ?_)
  have hb106 := hf103 _ _ _ (hne94) hb91
  have hb107 := hf103 _ _ _ (hne95) hb92
  have hb108 := hf103 _ _ _ (hne96) hb93
  have hN109 := hN98.trans hu102 (fun k hk hkb => by subst hkb; omega)
  clear hb90 hst100 K104 hL105 hN98 hb91 hb92 hb93 hu102 hf103
  refine st_take rfl rfl (y_assign (v := .bool ((addM b a).2)) rfl h86) rfl ?_
  obtain ⟨a110, ha111⟩ : ∃ a', a' = a74.put (some 8) (.bool ((addM b a).2)) := ⟨_, rfl⟩
  have hs112 : a110.tmps.size = 132 := by rw [ha111, put_size]; exact hs78
  have hd113 : a110.defers = [] := by rw [ha111, put_defers]; exact hd79
  have h114 : a110.eval (.tmp 2) = pv q8 := by rw [ha111, put_ne _ _ _ _ (by decide)]; exact h80
  have h115 : a110.eval (.tmp 3) = pv q12 := by rw [ha111, put_ne _ _ _ _ (by decide)]; exact h81
  have h116 : a110.eval (.tmp 4) = .bool false := by rw [ha111, put_ne _ _ _ _ (by decide)]; exact h82
  have h117 : a110.eval (.tmp 5) = pv q44 := by rw [ha111, put_ne _ _ _ _ (by decide)]; exact h83
  have h118 : a110.eval (.tmp 6) = .bool ((addM a b).2) := by rw [ha111, put_ne _ _ _ _ (by decide)]; exact h84
  have h119 : a110.eval (.tmp 29) = nv ((addM b a).1) := by rw [ha111, put_ne _ _ _ _ (by decide)]; exact h85
  have h120 : a110.eval (.tmp 30) = .bool ((addM b a).2) := by rw [ha111, put_ne _ _ _ _ (by decide)]; exact h86
  have h121 : a110.eval (.tmp 7) = pv q88 := by rw [ha111, put_ne _ _ _ _ (by decide)]; exact h87
  have h122 : a110.eval (.tmp 8) = .bool ((addM b a).2) := by rw [ha111]; exact put_same _ _ _ (by rw [hs78]; decide)
  show stepsTo _ _ _ _ _ (a74.put (some 8) (.bool ((addM b a).2))) _
  rw [← ha111]
  clear ha111 hs78 hd79 h80 h81 h82 h83 h84 h85 h86 h87
  clear hne94
  clear hne95
  clear hne96
  refine st_nil ?_
  clear h119 h120
  refine hK _ _ ?_
  clear hK K
  refine wp_seq_k fun K hK => ?_
  refine wp_g [true, true, true, true, true, true, true, false, false] [5] [(7, false), (8, true)] 132
    [ve (nv a),
     ve (nv b),
     ve (.tuple #[nv ((mulM a b).1), .bool ((mulM a b).2)]),
     ve (.tuple #[nv ((mulM a b).1), .bool ((mulM a b).2)]),
     ve (nv ((mulM a b).1)),
     ve (.bool ((mulM a b).2)),
     IsNew w99 23 [iv 0, iv 0],
     vt,
     vt]
    [6] (newsCons (fun v w h => IsNew.old h) newsNil) hs112 (.eq (.eq (.eq (.eq (.eq (.eq (.nw (.tt (.tt (.nil)))))))))) ?_ ?_ ?_
  · skip
    refine .o1 (tk rfl rfl fun _ w hn k => ⟨_, v_load rfl (k.fx 2 h114) (l_two Tryd.isAgg23 Tryd.sizeOf23 (hb106.new_ hn)), rfl⟩) ?_
    refine .o1 (tk rfl rfl fun _ w hn k => ⟨_, v_load rfl (k.fx 3 h115) (l_two Tryd.isAgg23 Tryd.sizeOf23 (hb107.new_ hn)), rfl⟩) ?_
    refine .o1 (ck rfl rfl rfl (fun _ w hn k => ⟨#[nv a, nv b], args2 (k.eq1 0 32 rfl) (k.eq1 1 33 rfl), fun _ => by kernel_rfl, mul_c a b _⟩) fun _ => rfl) ?_
    refine .o1 (tk rfl rfl fun _ w hn k => ⟨_, v_move rfl (k.eq1 2 34 rfl), rfl⟩) ?_
    refine .o1 (tk rfl rfl fun _ w hn k => ⟨_, v_extract rfl (k.eq1 3 31 rfl) rfl, rfl⟩) ?_
    refine .o3 ?_
    refine .o2 (step_allocN (cs := [iv 0, iv 0]) (t := 23) rfl (noG rfl) (fun _ w hn k => rfl) (fun q _ hq hb => ⟨q, rfl, hq, hb⟩)) ?_
    refine .off ?_
    refine .off ?_
    exact .nil
  · skip
    intro i h
    simp only [List.contains_eq_mem, List.mem_cons, List.not_mem_nil, or_false, decide_eq_true_eq] at h
    subst h
    · exact eager_take rfl rfl fun _ w hn k => ⟨.bool ((mulM a b).2), fun w => v_extract rfl (k.eq1 3 31 rfl) rfl, rfl⟩
  intro a123 w124 hn125 ha126
  have hs127 := ha126.size.trans hs112
  have hd128 := ha126.defers.trans hd113
  have h129 := ha126.fx 2 h114
  have h130 := ha126.fx 3 h115
  have h131 := ha126.fx 4 h116
  have h132 := ha126.fx 5 h117
  have h133 := ha126.fx 6 h118
  have h134 := ha126.fx 7 h121
  have h135 := ha126.fx 8 h122
  have h136 := ha126.ge 4 35 rfl
  have h137 := ha126.ge 5 36 rfl
  obtain ⟨q139, h138, hq140, hb141⟩ : IsNew _ _ _ _ _ := ha126.got 6 9 rfl (by kernel_rfl)
  have hb142 := hb106.new_ hn125
  have hb143 := hb107.new_ hn125
  have hb144 := hb108.new_ hn125
  have hb145 := hb101.new_ hn125
  have hne146 : q8 ≠ q139 := by have h1 := hb106.lt; have h2 := hq140; omega
  have hne147 : q12 ≠ q139 := by have h1 := hb107.lt; have h2 := hq140; omega
  have hne148 : q44 ≠ q139 := by have h1 := hb108.lt; have h2 := hq140; omega
  have hne149 : q88 ≠ q139 := by have h1 := hb101.lt; have h2 := hq140; omega
  have hq150 := Nat.le_trans hN109.size hq140
  have hN151 := hN109.transNew hn125
  clear hs112 hd113 h114 h115 h116 h117 h118 h121 h122 hb106 hb107 hb108 hb101 hq140 hN109 ha126 hn125
  obtain ⟨w152, -, hst153, hb154, hu155, hf156⟩ := s_two (v0 := iv ((mulM a b).1.k)) (v1 := iv ((mulM a b).1.n)) Tryd.sizeOf23 rfl rfl rfl hb141
  refine st_act rfl rfl fun K157 hL158 => a_store' rfl h138 h136 hst153 (hL158 _ _ trivial ?_)
  have hb159 := hf156 _ _ _ (hne146) hb142
  have hb160 := hf156 _ _ _ (hne147) hb143
  have hb161 := hf156 _ _ _ (hne148) hb144
  have hb162 := hf156 _ _ _ (hne149) hb145
  have hN163 := hN151.trans hu155 (fun k hk hkb => by subst hkb; omega)
  clear hb141 hst153 K157 hL158 hN151 hb142 hb143 hb144 hb145 hu155 hf156
  refine st_take rfl rfl (y_assign (v := .bool ((mulM a b).2)) rfl h137) rfl ?_
  obtain ⟨a164, ha165⟩ : ∃ a', a' = a123.put (some 10) (.bool ((mulM a b).2)) := ⟨_, rfl⟩
  have hs166 : a164.tmps.size = 132 := by rw [ha165, put_size]; exact hs127
  have hd167 : a164.defers = [] := by rw [ha165, put_defers]; exact hd128
  have h168 : a164.eval (.tmp 2) = pv q8 := by rw [ha165, put_ne _ _ _ _ (by decide)]; exact h129
  have h169 : a164.eval (.tmp 3) = pv q12 := by rw [ha165, put_ne _ _ _ _ (by decide)]; exact h130
  have h170 : a164.eval (.tmp 4) = .bool false := by rw [ha165, put_ne _ _ _ _ (by decide)]; exact h131
  have h171 : a164.eval (.tmp 5) = pv q44 := by rw [ha165, put_ne _ _ _ _ (by decide)]; exact h132
  have h172 : a164.eval (.tmp 6) = .bool ((addM a b).2) := by rw [ha165, put_ne _ _ _ _ (by decide)]; exact h133
  have h173 : a164.eval (.tmp 7) = pv q88 := by rw [ha165, put_ne _ _ _ _ (by decide)]; exact h134
  have h174 : a164.eval (.tmp 8) = .bool ((addM b a).2) := by rw [ha165, put_ne _ _ _ _ (by decide)]; exact h135
  have h175 : a164.eval (.tmp 35) = nv ((mulM a b).1) := by rw [ha165, put_ne _ _ _ _ (by decide)]; exact h136
  have h176 : a164.eval (.tmp 36) = .bool ((mulM a b).2) := by rw [ha165, put_ne _ _ _ _ (by decide)]; exact h137
  have h177 : a164.eval (.tmp 9) = pv q139 := by rw [ha165, put_ne _ _ _ _ (by decide)]; exact h138
  have h178 : a164.eval (.tmp 10) = .bool ((mulM a b).2) := by rw [ha165]; exact put_same _ _ _ (by rw [hs127]; decide)
  show stepsTo _ _ _ _ _ (a123.put (some 10) (.bool ((mulM a b).2))) _
  rw [← ha165]
  clear ha165 hs127 hd128 h129 h130 h131 h132 h133 h134 h135 h136 h137 h138
  clear hne146
  clear hne147
  clear hne148
  clear hne149
  refine st_nil ?_
  clear h175 h176
  refine hK _ _ ?_
  clear hK K
  refine wp_seq_k fun K hK => ?_
  refine wp_g [true, true, true, true, true, true, true, false, false] [5] [(7, false), (8, true)] 132
    [ve (nv b),
     ve (nv a),
     ve (.tuple #[nv ((mulM b a).1), .bool ((mulM b a).2)]),
     ve (.tuple #[nv ((mulM b a).1), .bool ((mulM b a).2)]),
     ve (nv ((mulM b a).1)),
     ve (.bool ((mulM b a).2)),
     IsNew w152 23 [iv 0, iv 0],
     vt,
     vt]
    [6] (newsCons (fun v w h => IsNew.old h) newsNil) hs166 (.eq (.eq (.eq (.eq (.eq (.eq (.nw (.tt (.tt (.nil)))))))))) ?_ ?_ ?_
  · skip
    refine .o1 (tk rfl rfl fun _ w hn k => ⟨_, v_load rfl (k.fx 3 h169) (l_two Tryd.isAgg23 Tryd.sizeOf23 (hb160.new_ hn)), rfl⟩) ?_
    refine .o1 (tk rfl rfl fun _ w hn k => ⟨_, v_load rfl (k.fx 2 h168) (l_two Tryd.isAgg23 Tryd.sizeOf23 (hb159.new_ hn)), rfl⟩) ?_
    refine .o1 (ck rfl rfl rfl (fun _ w hn k => ⟨#[nv b, nv a], args2 (k.eq1 0 38 rfl) (k.eq1 1 39 rfl), fun _ => by kernel_rfl, mul_c b a _⟩) fun _ => rfl) ?_
    refine .o1 (tk rfl rfl fun _ w hn k => ⟨_, v_move rfl (k.eq1 2 40 rfl), rfl⟩) ?_
    refine .o1 (tk rfl rfl fun _ w hn k => ⟨_, v_extract rfl (k.eq1 3 37 rfl) rfl, rfl⟩) ?_
    refine .o3 ?_
    refine .o2 (step_allocN (cs := [iv 0, iv 0]) (t := 23) rfl (noG rfl) (fun _ w hn k => rfl) (fun q _ hq hb => ⟨q, rfl, hq, hb⟩)) ?_
    refine .off ?_
    refine .off ?_
    exact .nil
  · skip
    intro i h
    simp only [List.contains_eq_mem, List.mem_cons, List.not_mem_nil, or_false, decide_eq_true_eq] at h
    subst h
    · exact eager_take rfl rfl fun _ w hn k => ⟨.bool ((mulM b a).2), fun w => v_extract rfl (k.eq1 3 37 rfl) rfl, rfl⟩
  intro a179 w180 hn181 ha182
  have hs183 := ha182.size.trans hs166
  have hd184 := ha182.defers.trans hd167
  have h185 := ha182.fx 2 h168
  have h186 := ha182.fx 3 h169
  have h187 := ha182.fx 4 h170
  have h188 := ha182.fx 5 h171
  have h189 := ha182.fx 6 h172
  have h190 := ha182.fx 7 h173
  have h191 := ha182.fx 8 h174
  have h192 := ha182.fx 9 h177
  have h193 := ha182.fx 10 h178
  have h194 := ha182.ge 4 41 rfl
  have h195 := ha182.ge 5 42 rfl
  obtain ⟨q197, h196, hq198, hb199⟩ : IsNew _ _ _ _ _ := ha182.got 6 11 rfl (by kernel_rfl)
  have hb200 := hb159.new_ hn181
  have hb201 := hb160.new_ hn181
  have hb202 := hb161.new_ hn181
  have hb203 := hb162.new_ hn181
  have hb204 := hb154.new_ hn181
  have hne205 : q8 ≠ q197 := by have h1 := hb159.lt; have h2 := hq198; omega
  have hne206 : q12 ≠ q197 := by have h1 := hb160.lt; have h2 := hq198; omega
  have hne207 : q44 ≠ q197 := by have h1 := hb161.lt; have h2 := hq198; omega
  have hne208 : q88 ≠ q197 := by have h1 := hb162.lt; have h2 := hq198; omega
  have hne209 : q139 ≠ q197 := by have h1 := hb154.lt; have h2 := hq198; omega
  have hq210 := Nat.le_trans hN163.size hq198
  have hN211 := hN163.transNew hn181
  clear hs166 hd167 h168 h169 h170 h171 h172 h173 h174 h177 h178 hb159 hb160 hb161 hb162 hb154 hq198 hN163 ha182 hn181
  obtain ⟨w212, -, hst213, hb214, hu215, hf216⟩ := s_two (v0 := iv ((mulM b a).1.k)) (v1 := iv ((mulM b a).1.n)) Tryd.sizeOf23 rfl rfl rfl hb199
  refine st_act rfl rfl fun K217 hL218 => a_store' rfl h196 h194 hst213 (hL218 _ _ trivial ?_)
  have hb219 := hf216 _ _ _ (hne205) hb200
  have hb220 := hf216 _ _ _ (hne206) hb201
  have hb221 := hf216 _ _ _ (hne207) hb202
  have hb222 := hf216 _ _ _ (hne208) hb203
  have hb223 := hf216 _ _ _ (hne209) hb204
  have hN224 := hN211.trans hu215 (fun k hk hkb => by subst hkb; omega)
  clear hb199 hst213 K217 hL218 hN211 hb200 hb201 hb202 hb203 hb204 hu215 hf216
  refine st_take rfl rfl (y_assign (v := .bool ((mulM b a).2)) rfl h195) rfl ?_
  obtain ⟨a225, ha226⟩ : ∃ a', a' = a179.put (some 12) (.bool ((mulM b a).2)) := ⟨_, rfl⟩
  have hs227 : a225.tmps.size = 132 := by rw [ha226, put_size]; exact hs183
  have hd228 : a225.defers = [] := by rw [ha226, put_defers]; exact hd184
  have h229 : a225.eval (.tmp 2) = pv q8 := by rw [ha226, put_ne _ _ _ _ (by decide)]; exact h185
  have h230 : a225.eval (.tmp 3) = pv q12 := by rw [ha226, put_ne _ _ _ _ (by decide)]; exact h186
  have h231 : a225.eval (.tmp 4) = .bool false := by rw [ha226, put_ne _ _ _ _ (by decide)]; exact h187
  have h232 : a225.eval (.tmp 5) = pv q44 := by rw [ha226, put_ne _ _ _ _ (by decide)]; exact h188
  have h233 : a225.eval (.tmp 6) = .bool ((addM a b).2) := by rw [ha226, put_ne _ _ _ _ (by decide)]; exact h189
  have h234 : a225.eval (.tmp 7) = pv q88 := by rw [ha226, put_ne _ _ _ _ (by decide)]; exact h190
  have h235 : a225.eval (.tmp 8) = .bool ((addM b a).2) := by rw [ha226, put_ne _ _ _ _ (by decide)]; exact h191
  have h236 : a225.eval (.tmp 9) = pv q139 := by rw [ha226, put_ne _ _ _ _ (by decide)]; exact h192
  have h237 : a225.eval (.tmp 10) = .bool ((mulM a b).2) := by rw [ha226, put_ne _ _ _ _ (by decide)]; exact h193
  have h238 : a225.eval (.tmp 41) = nv ((mulM b a).1) := by rw [ha226, put_ne _ _ _ _ (by decide)]; exact h194
  have h239 : a225.eval (.tmp 42) = .bool ((mulM b a).2) := by rw [ha226, put_ne _ _ _ _ (by decide)]; exact h195
  have h240 : a225.eval (.tmp 11) = pv q197 := by rw [ha226, put_ne _ _ _ _ (by decide)]; exact h196
  have h241 : a225.eval (.tmp 12) = .bool ((mulM b a).2) := by rw [ha226]; exact put_same _ _ _ (by rw [hs183]; decide)
  show stepsTo _ _ _ _ _ (a179.put (some 12) (.bool ((mulM b a).2))) _
  rw [← ha226]
  clear ha226 hs183 hd184 h185 h186 h187 h188 h189 h190 h191 h192 h193 h194 h195 h196
  clear hne205
  clear hne206
  clear hne207
  clear hne208
  clear hne209
  refine st_nil ?_
  clear h238 h239
  refine hK _ _ ?_
  clear hK K
  refine wp_seq_k fun K hK => ?_
  refine wp_seq_k fun K hK => ?_
  have ht242 : (eqN ((addM a b).1) ((addM b a).1) && ((addM a b).2) == ((addM b a).2)) = true := add_turn a b
  have ht243 : (eqN ((mulM a b).1) ((mulM b a).1) && ((mulM a b).2) == ((mulM b a).2)) = true := mul_turn a b
  have ht244 : (mayB ((addM a b).1)) = true := may_add a b
  have ht245 : (mayB ((mulM a b).1)) = true := may_mul a b
  have ht246 : (mayB (remM a b)) = true := may_rem a b
  refine wp_g0 [true, true, true, true, true, true, true, true, true, true, true, true, true, true, true, true, true, true, true, true, true, true, true, true, true, true, true, true, true, true, true] [] 132
    [ve (nv ((addM a b).1)),
     ve (.bool ((addM a b).2)),
     ve (nv ((addM b a).1)),
     ve (.bool ((addM b a).2)),
     ve (.bool true),
     ve (.bool false),
     ve (.bool false),
     ve (nv ((mulM a b).1)),
     ve (.bool ((mulM a b).2)),
     ve (nv ((mulM b a).1)),
     ve (.bool ((mulM b a).2)),
     ve (.bool true),
     ve (.bool false),
     ve (.bool false),
     ve (.bool false),
     ve (nv ((addM a b).1)),
     ve (.bool true),
     ve (.bool false),
     ve (.bool false),
     ve (.bool false),
     ve (nv ((mulM a b).1)),
     ve (.bool true),
     ve (.bool false),
     ve (.bool false),
     ve (.bool false),
     ve (nv a),
     ve (nv b),
     ve (nv (remM a b)),
     ve (.bool true),
     ve (.bool false),
     ve (.bool false)] hs227 (.eq (.eq (.eq (.eq (.eq (.eq (.eq (.eq (.eq (.eq (.eq (.eq (.eq (.eq (.eq (.eq (.eq (.eq (.eq (.eq (.eq (.eq (.eq (.eq (.eq (.eq (.eq (.eq (.eq (.eq (.eq (.nil)))))))))))))))))))))))))))))))) ?_ ?_
  · skip
    refine .o1 (tk rfl rfl fun _ w hn k => ⟨_, v_load rfl (k.fx 5 h232) (l_two Tryd.isAgg23 Tryd.sizeOf23 (hb221.new_ hn)), rfl⟩) ?_
    refine .o1 (tk rfl rfl fun _ w hn k => ⟨_, v_move rfl (k.fx 6 h233), rfl⟩) ?_
    refine .o1 (tk rfl rfl fun _ w hn k => ⟨_, v_load rfl (k.fx 7 h234) (l_two Tryd.isAgg23 Tryd.sizeOf23 (hb222.new_ hn)), rfl⟩) ?_
    refine .o1 (tk rfl rfl fun _ w hn k => ⟨_, v_move rfl (k.fx 8 h235), rfl⟩) ?_
    refine .o1 (ck rfl rfl rfl (fun _ w hn k => ⟨#[nv ((addM a b).1), .bool ((addM a b).2), nv ((addM b a).1), .bool ((addM b a).2)], args4 (k.eq1 0 43 rfl) (k.eq1 1 44 rfl) (k.eq1 2 45 rfl) (k.eq1 3 46 rfl), fun _ => by kernel_rfl, is_c ((addM a b).1) ((addM a b).2) ((addM b a).1) ((addM b a).2) _⟩) fun _ => congrArg Value.bool ht242) ?_
    refine .o1 (tk rfl rfl fun _ w hn k => ⟨_, v_not rfl (k.eq1 4 47 rfl), rfl⟩) ?_
    refine .o1 (tk rfl rfl fun _ w hn k => ⟨_, v_move rfl (k.eq1 5 48 rfl), rfl⟩) ?_
    refine .o1 (tg rfl rfl rfl (fun _ _ k => k.eq1 6 49 rfl) fun _ w hn k => ⟨_, v_load rfl (k.fx 9 h236) (l_two Tryd.isAgg23 Tryd.sizeOf23 (hb223.new_ hn)), rfl⟩) ?_
    refine .o1 (tg rfl rfl rfl (fun _ _ k => k.eq1 6 49 rfl) fun _ w hn k => ⟨_, v_move rfl (k.fx 10 h237), rfl⟩) ?_
    refine .o1 (tg rfl rfl rfl (fun _ _ k => k.eq1 6 49 rfl) fun _ w hn k => ⟨_, v_load rfl (k.fx 11 h240) (l_two Tryd.isAgg23 Tryd.sizeOf23 (hb214.new_ hn)), rfl⟩) ?_
    refine .o1 (tg rfl rfl rfl (fun _ _ k => k.eq1 6 49 rfl) fun _ w hn k => ⟨_, v_move rfl (k.fx 12 h241), rfl⟩) ?_
    refine .o1 (cg rfl rfl rfl (fun _ _ k => k.eq1 6 49 rfl) rfl (fun _ w hn k => ⟨#[nv ((mulM a b).1), .bool ((mulM a b).2), nv ((mulM b a).1), .bool ((mulM b a).2)], args4 (k.eq1 7 50 rfl) (k.eq1 8 51 rfl) (k.eq1 9 52 rfl) (k.eq1 10 53 rfl), fun _ => by kernel_rfl, is_c ((mulM a b).1) ((mulM a b).2) ((mulM b a).1) ((mulM b a).2) _⟩) fun _ => congrArg Value.bool ht243) ?_
    refine .o1 (tg rfl rfl rfl (fun _ _ k => k.eq1 6 49 rfl) fun _ w hn k => ⟨_, v_not rfl (k.eq1 11 54 rfl), rfl⟩) ?_
    refine .o1 (tk rfl rfl fun _ w hn k => ⟨_, v_pickF rfl (k.eq1 6 49 rfl) (k.eq1 12 55 rfl), rfl⟩) ?_
    refine .o1 (tk rfl rfl fun _ w hn k => ⟨_, v_move rfl (k.eq1 13 56 rfl), rfl⟩) ?_
    refine .o1 (tg rfl rfl rfl (fun _ _ k => k.eq1 14 57 rfl) fun _ w hn k => ⟨_, v_load rfl (k.fx 5 h232) (l_two Tryd.isAgg23 Tryd.sizeOf23 (hb221.new_ hn)), rfl⟩) ?_
    refine .o1 (cg rfl rfl rfl (fun _ _ k => k.eq1 14 57 rfl) rfl (fun _ w hn k => ⟨#[nv ((addM a b).1)], args1 (k.eq1 15 58 rfl), fun _ => by kernel_rfl, may_c ((addM a b).1) _⟩) fun _ => congrArg Value.bool ht244) ?_
    refine .o1 (tg rfl rfl rfl (fun _ _ k => k.eq1 14 57 rfl) fun _ w hn k => ⟨_, v_not rfl (k.eq1 16 59 rfl), rfl⟩) ?_
    refine .o1 (tk rfl rfl fun _ w hn k => ⟨_, v_pickF rfl (k.eq1 14 57 rfl) (k.eq1 17 60 rfl), rfl⟩) ?_
    refine .o1 (tk rfl rfl fun _ w hn k => ⟨_, v_move rfl (k.eq1 18 61 rfl), rfl⟩) ?_
    refine .o1 (tg rfl rfl rfl (fun _ _ k => k.eq1 19 62 rfl) fun _ w hn k => ⟨_, v_load rfl (k.fx 9 h236) (l_two Tryd.isAgg23 Tryd.sizeOf23 (hb223.new_ hn)), rfl⟩) ?_
    refine .o1 (cg rfl rfl rfl (fun _ _ k => k.eq1 19 62 rfl) rfl (fun _ w hn k => ⟨#[nv ((mulM a b).1)], args1 (k.eq1 20 63 rfl), fun _ => by kernel_rfl, may_c ((mulM a b).1) _⟩) fun _ => congrArg Value.bool ht245) ?_
    refine .o1 (tg rfl rfl rfl (fun _ _ k => k.eq1 19 62 rfl) fun _ w hn k => ⟨_, v_not rfl (k.eq1 21 64 rfl), rfl⟩) ?_
    refine .o1 (tk rfl rfl fun _ w hn k => ⟨_, v_pickF rfl (k.eq1 19 62 rfl) (k.eq1 22 65 rfl), rfl⟩) ?_
    refine .o1 (tk rfl rfl fun _ w hn k => ⟨_, v_move rfl (k.eq1 23 66 rfl), rfl⟩) ?_
    refine .o1 (tg rfl rfl rfl (fun _ _ k => k.eq1 24 67 rfl) fun _ w hn k => ⟨_, v_load rfl (k.fx 2 h229) (l_two Tryd.isAgg23 Tryd.sizeOf23 (hb219.new_ hn)), rfl⟩) ?_
    refine .o1 (tg rfl rfl rfl (fun _ _ k => k.eq1 24 67 rfl) fun _ w hn k => ⟨_, v_load rfl (k.fx 3 h230) (l_two Tryd.isAgg23 Tryd.sizeOf23 (hb220.new_ hn)), rfl⟩) ?_
    refine .o1 (cg rfl rfl rfl (fun _ _ k => k.eq1 24 67 rfl) rfl (fun _ w hn k => ⟨#[nv a, nv b], args2 (k.eq1 25 68 rfl) (k.eq1 26 69 rfl), fun _ => by kernel_rfl, rem_c a b _⟩) fun _ => rfl) ?_
    refine .o1 (cg rfl rfl rfl (fun _ _ k => k.eq1 24 67 rfl) rfl (fun _ w hn k => ⟨#[nv (remM a b)], args1 (k.eq1 27 70 rfl), fun _ => by kernel_rfl, may_c (remM a b) _⟩) fun _ => congrArg Value.bool ht246) ?_
    refine .o1 (tg rfl rfl rfl (fun _ _ k => k.eq1 24 67 rfl) fun _ w hn k => ⟨_, v_not rfl (k.eq1 28 71 rfl), rfl⟩) ?_
    refine .o1 (tk rfl rfl fun _ w hn k => ⟨_, v_pickF rfl (k.eq1 24 67 rfl) (k.eq1 29 72 rfl), rfl⟩) ?_
    exact .nil
  intro a247 w248 hn249 ha250
  have hs251 := ha250.size.trans hs227
  have hd252 := ha250.defers.trans hd228
  have h253 := ha250.fx 2 h229
  have h254 := ha250.fx 3 h230
  have h255 := ha250.fx 4 h231
  have h256 := ha250.fx 5 h232
  have h257 := ha250.fx 6 h233
  have h258 := ha250.ge 30 73 rfl
  have hb259 := hb219.new_ hn249
  have hb260 := hb220.new_ hn249
  have hb261 := hb221.new_ hn249
  have hN262 := hN224.transNew hn249
  clear hs227 hd228 h229 h230 h231 h232 h233 h234 h235 h236 h237 h240 h241 hb219 hb220 hb221 hb222 hq97 hb223 hq150 hb214 hq210 hN224 ha250 hn249
  refine st_nil ?_
  refine hK _ _ ?_
  clear hK K
  refine wp_cond_false h258 ?_
  refine wp_skip ?_
  refine hK _ _ ?_
  clear hK K
  refine wp_seq_k fun K hK => ?_
  refine wp_seq_k fun K hK => ?_
  rcases Bool.eq_false_or_eq_true (mayB a) with ht263 | ht263
  · skip
    rcases Bool.eq_false_or_eq_true (mayB b) with ht264 | ht264
    · skip
      rcases Bool.eq_false_or_eq_true (decide (a.k = 0)) with ht265 | ht265
      · skip
        have ht265d := of_decide_eq_true ht265
        rcases Bool.eq_false_or_eq_true (decide (b.k = 0)) with ht266 | ht266
        · skip
          have ht266d := of_decide_eq_true ht266
          refine wp_g0 [true, true, true, true, true, true, true, true, true, true, true, true, true, true, true, true, true, true, true] [] 132
            [ve (nv a),
             ve (.bool true),
             ve (.bool true),
             ve (nv b),
             ve (.bool true),
             ve (.bool true),
             ve (.bool true),
             ve (pv q8),
             ve (iv a.k),
             ve (.bool true),
             ve (.bool true),
             ve (.bool true),
             ve (pv q12),
             ve (iv b.k),
             ve (.bool true),
             ve (.bool true),
             ve (.bool true),
             ve (.bool ((addM a b).2)),
             ve (.bool ((addM a b).2))] hs251 (.eq (.eq (.eq (.eq (.eq (.eq (.eq (.eq (.eq (.eq (.eq (.eq (.eq (.eq (.eq (.eq (.eq (.eq (.eq (.nil)))))))))))))))))))) ?_ ?_
          · skip
            refine .o1 (tk rfl rfl fun _ w hn k => ⟨_, v_load rfl (k.fx 2 h253) (l_two Tryd.isAgg23 Tryd.sizeOf23 (hb259.new_ hn)), rfl⟩) ?_
            refine .o1 (ck rfl rfl rfl (fun _ w hn k => ⟨#[nv a], args1 (k.eq1 0 74 rfl), fun _ => by kernel_rfl, may_c a _⟩) fun _ => congrArg Value.bool ht263) ?_
            refine .o1 (tk rfl rfl fun _ w hn k => ⟨_, v_move rfl (k.eq1 1 75 rfl), rfl⟩) ?_
            refine .o1 (tg rfl rfl rfl (fun _ _ k => k.eq1 2 76 rfl) fun _ w hn k => ⟨_, v_load rfl (k.fx 3 h254) (l_two Tryd.isAgg23 Tryd.sizeOf23 (hb260.new_ hn)), rfl⟩) ?_
            refine .o1 (cg rfl rfl rfl (fun _ _ k => k.eq1 2 76 rfl) rfl (fun _ w hn k => ⟨#[nv b], args1 (k.eq1 3 77 rfl), fun _ => by kernel_rfl, may_c b _⟩) fun _ => congrArg Value.bool ht264) ?_
            refine .o1 (tk rfl rfl fun _ w hn k => ⟨_, v_pickT rfl (k.eq1 2 76 rfl) (k.eq1 4 78 rfl), rfl⟩) ?_
            refine .o1 (tk rfl rfl fun _ w hn k => ⟨_, v_move rfl (k.eq1 5 79 rfl), rfl⟩) ?_
            refine .o1 (tg rfl rfl rfl (fun _ _ k => k.eq1 6 80 rfl) fun _ w hn k => ⟨_, v_field rfl (k.fx 2 h253) (fun w => rfl), rfl⟩) ?_
            refine .o1 (tg rfl rfl rfl (fun _ _ k => k.eq1 6 80 rfl) fun _ w hn k => ⟨_, v_load rfl (k.eq1 7 81 rfl) (l_one Tryd.isAgg3 ((hb259.new_ hn).cell 0)), rfl⟩) ?_
            refine .o1 (tg rfl rfl rfl (fun _ _ k => k.eq1 6 80 rfl) fun _ w hn k => ⟨_, v_bin rfl (k.eq1 8 82 rfl) rfl (fun _ => rfl) (r_eql ht265), rfl⟩) ?_
            refine .o1 (tk rfl rfl fun _ w hn k => ⟨_, v_pickT rfl (k.eq1 6 80 rfl) (k.eq1 9 83 rfl), rfl⟩) ?_
            refine .o1 (tk rfl rfl fun _ w hn k => ⟨_, v_move rfl (k.eq1 10 84 rfl), rfl⟩) ?_
            refine .o1 (tg rfl rfl rfl (fun _ _ k => k.eq1 11 85 rfl) fun _ w hn k => ⟨_, v_field rfl (k.fx 3 h254) (fun w => rfl), rfl⟩) ?_
            refine .o1 (tg rfl rfl rfl (fun _ _ k => k.eq1 11 85 rfl) fun _ w hn k => ⟨_, v_load rfl (k.eq1 12 86 rfl) (l_one Tryd.isAgg3 ((hb260.new_ hn).cell 0)), rfl⟩) ?_
            refine .o1 (tg rfl rfl rfl (fun _ _ k => k.eq1 11 85 rfl) fun _ w hn k => ⟨_, v_bin rfl (k.eq1 13 87 rfl) rfl (fun _ => rfl) (r_eql ht266), rfl⟩) ?_
            refine .o1 (tk rfl rfl fun _ w hn k => ⟨_, v_pickT rfl (k.eq1 11 85 rfl) (k.eq1 14 88 rfl), rfl⟩) ?_
            refine .o1 (tk rfl rfl fun _ w hn k => ⟨_, v_move rfl (k.eq1 15 89 rfl), rfl⟩) ?_
            refine .o1 (tg rfl rfl rfl (fun _ _ k => k.eq1 16 90 rfl) fun _ w hn k => ⟨_, v_move rfl (k.fx 6 h257), rfl⟩) ?_
            refine .o1 (tk rfl rfl fun _ w hn k => ⟨_, v_pickT rfl (k.eq1 16 90 rfl) (k.eq1 17 91 rfl), rfl⟩) ?_
            exact .nil
          intro a267 w268 hn269 ha270
          have hs271 := ha270.size.trans hs251
          have hd272 := ha270.defers.trans hd252
          have h273 := ha270.fx 2 h253
          have h274 := ha270.fx 3 h254
          have h275 := ha270.fx 4 h255
          have h276 := ha270.fx 5 h256
          have h277 := ha270.ge 18 92 rfl
          have hb278 := hb259.new_ hn269
          have hb279 := hb260.new_ hn269
          have hb280 := hb261.new_ hn269
          have hN281 := hN262.transNew hn269
          clear hs251 hd252 h253 h254 h255 h256 h257 h258 hb259 hb260 hb261 hN262 ha270 hn269
          refine st_nil ?_
          refine hK _ _ ?_
          clear hK K
          rcases Bool.eq_false_or_eq_true ((addM a b).2) with ht282 | ht282
          · skip
            have hv283 : a267.eval (.tmp 92) = .bool true := h277.trans (congrArg Value.bool ht282)
            clear h277
            refine wp_cond_true hv283 ?_
            refine wp_seq_k fun K hK => ?_
            refine wp_g [true, true, true, true, true, true, true, false, false] [5] [(7, false), (8, true)] 132
              [ve (nv ((addM a b).1)),
               ve (nv b),
               ve (.tuple #[nv ((addM ((addM a b).1) (negM b)).1), .bool ((addM ((addM a b).1) (negM b)).2)]),
               ve (.tuple #[nv ((addM ((addM a b).1) (negM b)).1), .bool ((addM ((addM a b).1) (negM b)).2)]),
               ve (nv ((addM ((addM a b).1) (negM b)).1)),
               ve (.bool ((addM ((addM a b).1) (negM b)).2)),
               IsNew w268 23 [iv 0, iv 0],
               vt,
               vt]
              [6] (newsCons (fun v w h => IsNew.old h) newsNil) hs271 (.eq (.eq (.eq (.eq (.eq (.eq (.nw (.tt (.tt (.nil)))))))))) ?_ ?_ ?_
            · skip
              refine .o1 (tk rfl rfl fun _ w hn k => ⟨_, v_load rfl (k.fx 5 h276) (l_two Tryd.isAgg23 Tryd.sizeOf23 (hb280.new_ hn)), rfl⟩) ?_
              refine .o1 (tk rfl rfl fun _ w hn k => ⟨_, v_load rfl (k.fx 3 h274) (l_two Tryd.isAgg23 Tryd.sizeOf23 (hb279.new_ hn)), rfl⟩) ?_
              refine .o1 (ck rfl rfl rfl (fun _ w hn k => ⟨#[nv ((addM a b).1), nv b], args2 (k.eq1 0 94 rfl) (k.eq1 1 95 rfl), fun _ => by kernel_rfl, sub_c ((addM a b).1) b _⟩) fun _ => rfl) ?_
              refine .o1 (tk rfl rfl fun _ w hn k => ⟨_, v_move rfl (k.eq1 2 96 rfl), rfl⟩) ?_
              refine .o1 (tk rfl rfl fun _ w hn k => ⟨_, v_extract rfl (k.eq1 3 93 rfl) rfl, rfl⟩) ?_
              refine .o3 ?_
              refine .o2 (step_allocN (cs := [iv 0, iv 0]) (t := 23) rfl (noG rfl) (fun _ w hn k => rfl) (fun q _ hq hb => ⟨q, rfl, hq, hb⟩)) ?_
              refine .off ?_
              refine .off ?_
              exact .nil
            · skip
              intro i h
              simp only [List.contains_eq_mem, List.mem_cons, List.not_mem_nil, or_false, decide_eq_true_eq] at h
              subst h
              · exact eager_take rfl rfl fun _ w hn k => ⟨.bool ((addM ((addM a b).1) (negM b)).2), fun w => v_extract rfl (k.eq1 3 93 rfl) rfl, rfl⟩
            intro a284 w285 hn286 ha287
            have hs288 := ha287.size.trans hs271
            have hd289 := ha287.defers.trans hd272
            have h290 := ha287.fx 2 h273
            have h291 := ha287.fx 4 h275
            have h292 := ha287.ge 4 97 rfl
            have h293 := ha287.ge 5 98 rfl
            obtain ⟨q295, h294, hq296, hb297⟩ : IsNew _ _ _ _ _ := ha287.got 6 13 rfl (by kernel_rfl)
            have hb298 := hb278.new_ hn286
            have hne299 : q8 ≠ q295 := by have h1 := hb278.lt; have h2 := hq296; omega
            have hq300 := Nat.le_trans hN281.size hq296
            have hN301 := hN281.transNew hn286
            clear hs271 hd272 h273 h274 h275 h276 hv283 hb278 hb279 hq17 hb280 hq51 hq296 hN281 ha287 hn286
            obtain ⟨w302, -, hst303, hb304, hu305, hf306⟩ := s_two (v0 := iv ((addM ((addM a b).1) (negM b)).1.k)) (v1 := iv ((addM ((addM a b).1) (negM b)).1.n)) Tryd.sizeOf23 rfl rfl rfl hb297
            refine st_act rfl rfl fun K307 hL308 => a_store' rfl h294 h292 hst303 (hL308 _ _ trivial ?_)
            have hb309 := hf306 _ _ _ (hne299) hb298
            have hN310 := hN301.trans hu305 (fun k hk hkb => by subst hkb; omega)
            clear hb297 hst303 K307 hL308 hN301 hb298 hu305 hf306
            refine st_take rfl rfl (y_assign (v := .bool ((addM ((addM a b).1) (negM b)).2)) rfl h293) rfl ?_
            obtain ⟨a311, ha312⟩ : ∃ a', a' = a284.put (some 14) (.bool ((addM ((addM a b).1) (negM b)).2)) := ⟨_, rfl⟩
            have hs313 : a311.tmps.size = 132 := by rw [ha312, put_size]; exact hs288
            have hd314 : a311.defers = [] := by rw [ha312, put_defers]; exact hd289
            have h315 : a311.eval (.tmp 2) = pv q8 := by rw [ha312, put_ne _ _ _ _ (by decide)]; exact h290
            have h316 : a311.eval (.tmp 4) = .bool false := by rw [ha312, put_ne _ _ _ _ (by decide)]; exact h291
            have h317 : a311.eval (.tmp 97) = nv ((addM ((addM a b).1) (negM b)).1) := by rw [ha312, put_ne _ _ _ _ (by decide)]; exact h292
            have h318 : a311.eval (.tmp 98) = .bool ((addM ((addM a b).1) (negM b)).2) := by rw [ha312, put_ne _ _ _ _ (by decide)]; exact h293
            have h319 : a311.eval (.tmp 13) = pv q295 := by rw [ha312, put_ne _ _ _ _ (by decide)]; exact h294
            have h320 : a311.eval (.tmp 14) = .bool ((addM ((addM a b).1) (negM b)).2) := by rw [ha312]; exact put_same _ _ _ (by rw [hs288]; decide)
            show stepsTo _ _ _ _ _ (a284.put (some 14) (.bool ((addM ((addM a b).1) (negM b)).2))) _
            rw [← ha312]
            clear ha312 hs288 hd289 h290 h291 h292 h293 h294
            clear hne299
            refine st_nil ?_
            clear h317 h318
            refine hK _ _ ?_
            clear hK K
            refine wp_seq_k fun K hK => ?_
            have ht321 : ((addM ((addM a b).1) (negM b)).2) = true := (sub_back ht263 ht264 ht265 ht266 ht282).1
            have hv322 : a311.eval (.tmp 14) = .bool true := h320.trans (congrArg Value.bool ht321)
            clear h320
            have ht323 : (equalM ((addM ((addM a b).1) (negM b)).1) a) = true := (sub_back ht263 ht264 ht265 ht266 ht282).2
            refine wp_g0 [true, true, true, true, true, true, true, true] [] 132
              [ve (.bool true),
               ve (.bool false),
               ve (.bool false),
               ve (nv ((addM ((addM a b).1) (negM b)).1)),
               ve (nv a),
               ve (.bool true),
               ve (.bool false),
               ve (.bool false)] hs313 (.eq (.eq (.eq (.eq (.eq (.eq (.eq (.eq (.nil))))))))) ?_ ?_
            · skip
              refine .o1 (tk rfl rfl fun _ w hn k => ⟨_, v_move rfl (k.fx 14 hv322), rfl⟩) ?_
              refine .o1 (tk rfl rfl fun _ w hn k => ⟨_, v_not rfl (k.eq1 0 99 rfl), rfl⟩) ?_
              refine .o1 (tk rfl rfl fun _ w hn k => ⟨_, v_move rfl (k.eq1 1 100 rfl), rfl⟩) ?_
              refine .o1 (tg rfl rfl rfl (fun _ _ k => k.eq1 2 101 rfl) fun _ w hn k => ⟨_, v_load rfl (k.fx 13 h319) (l_two Tryd.isAgg23 Tryd.sizeOf23 (hb304.new_ hn)), rfl⟩) ?_
              refine .o1 (tg rfl rfl rfl (fun _ _ k => k.eq1 2 101 rfl) fun _ w hn k => ⟨_, v_load rfl (k.fx 2 h315) (l_two Tryd.isAgg23 Tryd.sizeOf23 (hb309.new_ hn)), rfl⟩) ?_
              refine .o1 (cg rfl rfl rfl (fun _ _ k => k.eq1 2 101 rfl) rfl (fun _ w hn k => ⟨#[nv ((addM ((addM a b).1) (negM b)).1), nv a], args2 (k.eq1 3 102 rfl) (k.eq1 4 103 rfl), fun _ => by kernel_rfl, equal_c ((addM ((addM a b).1) (negM b)).1) a _⟩) fun _ => congrArg Value.bool ht323) ?_
              refine .o1 (tg rfl rfl rfl (fun _ _ k => k.eq1 2 101 rfl) fun _ w hn k => ⟨_, v_not rfl (k.eq1 5 104 rfl), rfl⟩) ?_
              refine .o1 (tk rfl rfl fun _ w hn k => ⟨_, v_pickF rfl (k.eq1 2 101 rfl) (k.eq1 6 105 rfl), rfl⟩) ?_
              exact .nil
            intro a324 w325 hn326 ha327
            have hs328 := ha327.size.trans hs313
            have hd329 := ha327.defers.trans hd314
            have h330 := ha327.fx 2 h315
            have h331 := ha327.fx 4 h316
            have h332 := ha327.ge 7 106 rfl
            have hb333 := hb309.new_ hn326
            have hN334 := hN310.transNew hn326
            clear hs313 hd314 h315 h316 h319 hv322 hb309 hb304 hq300 hN310 ha327 hn326
            refine st_nil ?_
            refine hK _ _ ?_
            clear hK K
            refine wp_cond_false h332 ?_
            refine wp_skip ?_
            refine hK _ _ ?_
            clear hK K
            refine wp_seq_k fun K hK => ?_
            refine wp_g [true, true, true, true, true, true, true, false, false] [5] [(7, false), (8, true)] 132
              [ve (nv a),
               ve (.string (textM a)),
               ve (.tuple #[nv (readM a), .bool true]),
               ve (.tuple #[nv (readM a), .bool true]),
               ve (nv (readM a)),
               ve (.bool true),
               IsNew w325 23 [iv 0, iv 0],
               vt,
               vt]
              [6] (newsCons (fun v w h => IsNew.old h) newsNil) hs328 (.eq (.eq (.eq (.eq (.eq (.eq (.nw (.tt (.tt (.nil)))))))))) ?_ ?_ ?_
            · skip
              refine .o1 (tk rfl rfl fun _ w hn k => ⟨_, v_load rfl (k.fx 2 h330) (l_two Tryd.isAgg23 Tryd.sizeOf23 (hb333.new_ hn)), rfl⟩) ?_
              refine .o1 (ck rfl rfl rfl (fun _ w hn k => ⟨#[nv a], args1 (k.eq1 0 108 rfl), fun _ => by kernel_rfl, textW_c HT a (hN334.transNew hn)⟩) fun _ => rfl) ?_
              refine .o1 (ck rfl rfl rfl (fun _ w hn k => ⟨#[.string (textM a)], args1 (k.eq1 1 109 rfl), fun _ => by kernel_rfl, parseW_c HT a (hN334.transNew hn)⟩) fun _ => rfl) ?_
              refine .o1 (tk rfl rfl fun _ w hn k => ⟨_, v_move rfl (k.eq1 2 110 rfl), rfl⟩) ?_
              refine .o1 (tk rfl rfl fun _ w hn k => ⟨_, v_extract rfl (k.eq1 3 107 rfl) rfl, rfl⟩) ?_
              refine .o3 ?_
              refine .o2 (step_allocN (cs := [iv 0, iv 0]) (t := 23) rfl (noG rfl) (fun _ w hn k => rfl) (fun q _ hq hb => ⟨q, rfl, hq, hb⟩)) ?_
              refine .off ?_
              refine .off ?_
              exact .nil
            · skip
              intro i h
              simp only [List.contains_eq_mem, List.mem_cons, List.not_mem_nil, or_false, decide_eq_true_eq] at h
              subst h
              · exact eager_take rfl rfl fun _ w hn k => ⟨.bool true, fun w => v_extract rfl (k.eq1 3 107 rfl) rfl, rfl⟩
            intro a335 w336 hn337 ha338
            have hs339 := ha338.size.trans hs328
            have hd340 := ha338.defers.trans hd329
            have h341 := ha338.fx 2 h330
            have h342 := ha338.fx 4 h331
            have h343 := ha338.ge 4 111 rfl
            have h344 := ha338.ge 5 112 rfl
            obtain ⟨q346, h345, hq347, hb348⟩ : IsNew _ _ _ _ _ := ha338.got 6 15 rfl (by kernel_rfl)
            have hb349 := hb333.new_ hn337
            have hne350 : q8 ≠ q346 := by have h1 := hb333.lt; have h2 := hq347; omega
            have hq351 := Nat.le_trans hN334.size hq347
            have hN352 := hN334.transNew hn337
            clear hs328 hd329 h330 h331 h332 hb333 hq347 hN334 ha338 hn337
            obtain ⟨w353, -, hst354, hb355, hu356, hf357⟩ := s_two (v0 := iv ((readM a).k)) (v1 := iv ((readM a).n)) Tryd.sizeOf23 rfl rfl rfl hb348
            refine st_act rfl rfl fun K358 hL359 => a_store' rfl h345 h343 hst354 (hL359 _ _ trivial ?_)
            have hb360 := hf357 _ _ _ (hne350) hb349
            have hN361 := hN352.trans hu356 (fun k hk hkb => by subst hkb; omega)
            clear hb348 hst354 K358 hL359 hN352 hb349 hu356 hf357
            refine st_take rfl rfl (y_assign (v := .bool true) rfl h344) rfl ?_
            obtain ⟨a362, ha363⟩ : ∃ a', a' = a335.put (some 16) (.bool true) := ⟨_, rfl⟩
            have hs364 : a362.tmps.size = 132 := by rw [ha363, put_size]; exact hs339
            have hd365 : a362.defers = [] := by rw [ha363, put_defers]; exact hd340
            have h366 : a362.eval (.tmp 2) = pv q8 := by rw [ha363, put_ne _ _ _ _ (by decide)]; exact h341
            have h367 : a362.eval (.tmp 4) = .bool false := by rw [ha363, put_ne _ _ _ _ (by decide)]; exact h342
            have h368 : a362.eval (.tmp 111) = nv (readM a) := by rw [ha363, put_ne _ _ _ _ (by decide)]; exact h343
            have h369 : a362.eval (.tmp 112) = .bool true := by rw [ha363, put_ne _ _ _ _ (by decide)]; exact h344
            have h370 : a362.eval (.tmp 15) = pv q346 := by rw [ha363, put_ne _ _ _ _ (by decide)]; exact h345
            have h371 : a362.eval (.tmp 16) = .bool true := by rw [ha363]; exact put_same _ _ _ (by rw [hs339]; decide)
            show stepsTo _ _ _ _ _ (a335.put (some 16) (.bool true)) _
            rw [← ha363]
            clear ha363 hs339 hd340 h341 h342 h343 h344 h345
            clear hne350
            refine st_nil ?_
            clear h368 h369
            refine hK _ _ ?_
            clear hK K
            refine wp_seq_k fun K hK => ?_
            rcases Bool.eq_false_or_eq_true (sameM (readM a) a) with ht372 | ht372
            · skip
              refine wp_g0 [true, true, true, true, true, true, true, true, true, true, true, true, true, true, true, true, true, true, true, true] [] 132
                [ve (.bool true),
                 ve (.bool true),
                 ve (.bool true),
                 ve (.bool true),
                 ve (.bool true),
                 ve (nv (readM a)),
                 ve (nv a),
                 ve (.bool true),
                 ve (.bool true),
                 ve undef,
                 ve undef,
                 ve undef,
                 ve undef,
                 ve undef,
                 ve undef,
                 ve undef,
                 ve undef,
                 ve (.bool true),
                 ve (.bool true),
                 ve (.bool true)] hs364 (.eq (.eq (.eq (.eq (.eq (.eq (.eq (.eq (.eq (.eq (.eq (.eq (.eq (.eq (.eq (.eq (.eq (.eq (.eq (.eq (.nil))))))))))))))))))))) ?_ ?_
              · skip
                refine .o1 (ck rfl rfl rfl (fun _ w hn k => ⟨#[], rfl, fun _ => by kernel_rfl, first_c  _⟩) fun _ => rfl) ?_
                refine .o1 (tk rfl rfl fun _ w hn k => ⟨_, v_move rfl (k.eq1 0 113 rfl), rfl⟩) ?_
                refine .o1 (tg rfl rfl rfl (fun _ _ k => k.eq1 1 114 rfl) fun _ w hn k => ⟨_, v_move rfl (k.fx 16 h371), rfl⟩) ?_
                refine .o1 (tk rfl rfl fun _ w hn k => ⟨_, v_pickT rfl (k.eq1 1 114 rfl) (k.eq1 2 115 rfl), rfl⟩) ?_
                refine .o1 (tk rfl rfl fun _ w hn k => ⟨_, v_move rfl (k.eq1 3 116 rfl), rfl⟩) ?_
                refine .o1 (tg rfl rfl rfl (fun _ _ k => k.eq1 4 117 rfl) fun _ w hn k => ⟨_, v_load rfl (k.fx 15 h370) (l_two Tryd.isAgg23 Tryd.sizeOf23 (hb355.new_ hn)), rfl⟩) ?_
                refine .o1 (tg rfl rfl rfl (fun _ _ k => k.eq1 4 117 rfl) fun _ w hn k => ⟨_, v_load rfl (k.fx 2 h366) (l_two Tryd.isAgg23 Tryd.sizeOf23 (hb360.new_ hn)), rfl⟩) ?_
                refine .o1 (cg rfl rfl rfl (fun _ _ k => k.eq1 4 117 rfl) rfl (fun _ w hn k => ⟨#[nv (readM a), nv a], args2 (k.eq1 5 118 rfl) (k.eq1 6 119 rfl), fun _ => by kernel_rfl, same_c (readM a) a _⟩) fun _ => congrArg Value.bool ht372) ?_
                refine .o1 (tg rfl rfl rfl (fun _ _ k => k.eq1 4 117 rfl) fun _ w hn k => ⟨_, v_move rfl (k.eq1 7 120 rfl), rfl⟩) ?_
                refine .o1 (sk rfl rfl rfl (fun _ _ _ k => k.eq1 8 121 rfl) (fun _ => rfl)) ?_
                refine .o1 (sk rfl rfl rfl (fun _ _ _ k => k.eq1 8 121 rfl) (fun _ => rfl)) ?_
                refine .o1 (sk rfl rfl rfl (fun _ _ _ k => k.eq1 8 121 rfl) (fun _ => rfl)) ?_
                refine .o1 (sk rfl rfl rfl (fun _ _ _ k => k.eq1 8 121 rfl) (fun _ => rfl)) ?_
                refine .o1 (su rfl rfl rfl (fun _ _ _ k => k.eq1 12 125 rfl) (fun _ => rfl)) ?_
                refine .o1 (su rfl rfl rfl (fun _ _ _ k => k.eq1 12 125 rfl) (fun _ => rfl)) ?_
                refine .o1 (su rfl rfl rfl (fun _ _ _ k => k.eq1 12 125 rfl) (fun _ => rfl)) ?_
                refine .o1 (sk rfl rfl rfl (fun _ _ _ k => k.eq1 8 121 rfl) (fun _ => rfl)) ?_
                refine .o1 (tg rfl rfl rfl (fun _ _ k => k.eq1 4 117 rfl) fun _ w hn k => ⟨_, v_pickT rfl (k.eq1 8 121 rfl) rfl, rfl⟩) ?_
                refine .o1 (tk rfl rfl fun _ w hn k => ⟨_, v_pickT rfl (k.eq1 4 117 rfl) (k.eq1 17 130 rfl), rfl⟩) ?_
                refine .o1 (tk rfl rfl fun _ w hn k => ⟨_, v_assign rfl (k.eq1 18 131 rfl), rfl⟩) ?_
                exact .nil
              intro a373 w374 hn375 ha376
              have hs377 := ha376.size.trans hs364
              have hd378 := ha376.defers.trans hd365
              have h379 := ha376.ge 19 4 rfl
              have hN380 := hN361.transNew hn375
              clear hs364 hd365 h366 h367 h370 h371 hb360 hq16 hb355 hq351 hN361 ha376 hn375
              refine st_nil ?_
              refine hK _ _ ?_
              clear hK K
              refine wp_ret (ret_k hd378 (v := .bool true) (res_t rfl h379 _) ?_)
              exact ⟨rfl, hN380⟩
            have ht381 : (decide (a.k = 1)) = true := (read_same ht372).1
            have ht381d := of_decide_eq_true ht381
            refine wp_g0 [true, true, true, true, true, true, true, true, true, true, true, true, true, true, true, true, true, true, true, true] [] 132
              [ve (.bool true),
               ve (.bool true),
               ve (.bool true),
               ve (.bool true),
               ve (.bool true),
               ve (nv (readM a)),
               ve (nv a),
               ve (.bool false),
               ve (.bool false),
               ve (pv q8),
               ve (iv a.k),
               ve (.bool true),
               ve (.bool true),
               ve (nv (readM a)),
               ve (nv a),
               ve (.bool (equalM (readM a) a)),
               ve (.bool (equalM (readM a) a)),
               ve (.bool (equalM (readM a) a)),
               ve (.bool (equalM (readM a) a)),
               ve (.bool (equalM (readM a) a))] hs364 (.eq (.eq (.eq (.eq (.eq (.eq (.eq (.eq (.eq (.eq (.eq (.eq (.eq (.eq (.eq (.eq (.eq (.eq (.eq (.eq (.nil))))))))))))))))))))) ?_ ?_
            · skip
              refine .o1 (ck rfl rfl rfl (fun _ w hn k => ⟨#[], rfl, fun _ => by kernel_rfl, first_c  _⟩) fun _ => rfl) ?_
              refine .o1 (tk rfl rfl fun _ w hn k => ⟨_, v_move rfl (k.eq1 0 113 rfl), rfl⟩) ?_
              refine .o1 (tg rfl rfl rfl (fun _ _ k => k.eq1 1 114 rfl) fun _ w hn k => ⟨_, v_move rfl (k.fx 16 h371), rfl⟩) ?_
              refine .o1 (tk rfl rfl fun _ w hn k => ⟨_, v_pickT rfl (k.eq1 1 114 rfl) (k.eq1 2 115 rfl), rfl⟩) ?_
              refine .o1 (tk rfl rfl fun _ w hn k => ⟨_, v_move rfl (k.eq1 3 116 rfl), rfl⟩) ?_
              refine .o1 (tg rfl rfl rfl (fun _ _ k => k.eq1 4 117 rfl) fun _ w hn k => ⟨_, v_load rfl (k.fx 15 h370) (l_two Tryd.isAgg23 Tryd.sizeOf23 (hb355.new_ hn)), rfl⟩) ?_
              refine .o1 (tg rfl rfl rfl (fun _ _ k => k.eq1 4 117 rfl) fun _ w hn k => ⟨_, v_load rfl (k.fx 2 h366) (l_two Tryd.isAgg23 Tryd.sizeOf23 (hb360.new_ hn)), rfl⟩) ?_
              refine .o1 (cg rfl rfl rfl (fun _ _ k => k.eq1 4 117 rfl) rfl (fun _ w hn k => ⟨#[nv (readM a), nv a], args2 (k.eq1 5 118 rfl) (k.eq1 6 119 rfl), fun _ => by kernel_rfl, same_c (readM a) a _⟩) fun _ => congrArg Value.bool ht372) ?_
              refine .o1 (tg rfl rfl rfl (fun _ _ k => k.eq1 4 117 rfl) fun _ w hn k => ⟨_, v_move rfl (k.eq1 7 120 rfl), rfl⟩) ?_
              refine .o1 (tg rfl rfl rfl (fun _ _ k => k.eq1 8 121 rfl) fun _ w hn k => ⟨_, v_field rfl (k.fx 2 h366) (fun w => rfl), rfl⟩) ?_
              refine .o1 (tg rfl rfl rfl (fun _ _ k => k.eq1 8 121 rfl) fun _ w hn k => ⟨_, v_load rfl (k.eq1 9 122 rfl) (l_one Tryd.isAgg3 ((hb360.new_ hn).cell 0)), rfl⟩) ?_
              refine .o1 (tg rfl rfl rfl (fun _ _ k => k.eq1 8 121 rfl) fun _ w hn k => ⟨_, v_bin rfl (k.eq1 10 123 rfl) rfl (fun _ => rfl) (r_eql ht381), rfl⟩) ?_
              refine .o1 (tg rfl rfl rfl (fun _ _ k => k.eq1 8 121 rfl) fun _ w hn k => ⟨_, v_move rfl (k.eq1 11 124 rfl), rfl⟩) ?_
              refine .o1 (tg rfl rfl rfl (fun _ _ k => k.eq1 12 125 rfl) fun _ w hn k => ⟨_, v_load rfl (k.fx 15 h370) (l_two Tryd.isAgg23 Tryd.sizeOf23 (hb355.new_ hn)), rfl⟩) ?_
              refine .o1 (tg rfl rfl rfl (fun _ _ k => k.eq1 12 125 rfl) fun _ w hn k => ⟨_, v_load rfl (k.fx 2 h366) (l_two Tryd.isAgg23 Tryd.sizeOf23 (hb360.new_ hn)), rfl⟩) ?_
              refine .o1 (cg rfl rfl rfl (fun _ _ k => k.eq1 12 125 rfl) rfl (fun _ w hn k => ⟨#[nv (readM a), nv a], args2 (k.eq1 13 126 rfl) (k.eq1 14 127 rfl), fun _ => by kernel_rfl, equal_c (readM a) a _⟩) fun _ => rfl) ?_
              refine .o1 (tg rfl rfl rfl (fun _ _ k => k.eq1 8 121 rfl) fun _ w hn k => ⟨_, v_pickT rfl (k.eq1 12 125 rfl) (k.eq1 15 128 rfl), rfl⟩) ?_
              refine .o1 (tg rfl rfl rfl (fun _ _ k => k.eq1 4 117 rfl) fun _ w hn k => ⟨_, v_pickF rfl (k.eq1 8 121 rfl) (k.eq1 16 129 rfl), rfl⟩) ?_
              refine .o1 (tk rfl rfl fun _ w hn k => ⟨_, v_pickT rfl (k.eq1 4 117 rfl) (k.eq1 17 130 rfl), rfl⟩) ?_
              refine .o1 (tk rfl rfl fun _ w hn k => ⟨_, v_assign rfl (k.eq1 18 131 rfl), rfl⟩) ?_
              exact .nil
            intro a382 w383 hn384 ha385
            have hs386 := ha385.size.trans hs364
            have hd387 := ha385.defers.trans hd365
            have h388 := ha385.ge 19 4 rfl
            have hN389 := hN361.transNew hn384
            clear hs364 hd365 h366 h367 h370 h371 hb360 hq16 hb355 hq351 hN361 ha385 hn384
            refine st_nil ?_
            refine hK _ _ ?_
            clear hK K
            refine wp_ret (ret_k hd387 (v := .bool (equalM (readM a) a)) (res_t rfl h388 _) ?_)
            exact ⟨congrArg (fun b => Ending.returned (.bool b)) ((read_same ht372).2), hN389⟩
          have hv390 : a267.eval (.tmp 92) = .bool false := h277.trans (congrArg Value.bool ht282)
          clear h277
          refine wp_cond_false hv390 ?_
          refine wp_skip ?_
          refine hK _ _ ?_
          clear hK K
          refine wp_seq_k fun K hK => ?_
          refine wp_g [true, true, true, true, true, true, true, false, false] [5] [(7, false), (8, true)] 132
            [ve (nv a),
             ve (.string (textM a)),
             ve (.tuple #[nv (readM a), .bool true]),
             ve (.tuple #[nv (readM a), .bool true]),
             ve (nv (readM a)),
             ve (.bool true),
             IsNew w268 23 [iv 0, iv 0],
             vt,
             vt]
            [6] (newsCons (fun v w h => IsNew.old h) newsNil) hs271 (.eq (.eq (.eq (.eq (.eq (.eq (.nw (.tt (.tt (.nil)))))))))) ?_ ?_ ?_
          · skip
            refine .o1 (tk rfl rfl fun _ w hn k => ⟨_, v_load rfl (k.fx 2 h273) (l_two Tryd.isAgg23 Tryd.sizeOf23 (hb278.new_ hn)), rfl⟩) ?_
            refine .o1 (ck rfl rfl rfl (fun _ w hn k => ⟨#[nv a], args1 (k.eq1 0 108 rfl), fun _ => by kernel_rfl, textW_c HT a (hN281.transNew hn)⟩) fun _ => rfl) ?_
            refine .o1 (ck rfl rfl rfl (fun _ w hn k => ⟨#[.string (textM a)], args1 (k.eq1 1 109 rfl), fun _ => by kernel_rfl, parseW_c HT a (hN281.transNew hn)⟩) fun _ => rfl) ?_
            refine .o1 (tk rfl rfl fun _ w hn k => ⟨_, v_move rfl (k.eq1 2 110 rfl), rfl⟩) ?_
            refine .o1 (tk rfl rfl fun _ w hn k => ⟨_, v_extract rfl (k.eq1 3 107 rfl) rfl, rfl⟩) ?_
            refine .o3 ?_
            refine .o2 (step_allocN (cs := [iv 0, iv 0]) (t := 23) rfl (noG rfl) (fun _ w hn k => rfl) (fun q _ hq hb => ⟨q, rfl, hq, hb⟩)) ?_
            refine .off ?_
            refine .off ?_
            exact .nil
          · skip
            intro i h
            simp only [List.contains_eq_mem, List.mem_cons, List.not_mem_nil, or_false, decide_eq_true_eq] at h
            subst h
            · exact eager_take rfl rfl fun _ w hn k => ⟨.bool true, fun w => v_extract rfl (k.eq1 3 107 rfl) rfl, rfl⟩
          intro a391 w392 hn393 ha394
          have hs395 := ha394.size.trans hs271
          have hd396 := ha394.defers.trans hd272
          have h397 := ha394.fx 2 h273
          have h398 := ha394.fx 4 h275
          have h399 := ha394.ge 4 111 rfl
          have h400 := ha394.ge 5 112 rfl
          obtain ⟨q402, h401, hq403, hb404⟩ : IsNew _ _ _ _ _ := ha394.got 6 15 rfl (by kernel_rfl)
          have hb405 := hb278.new_ hn393
          have hne406 : q8 ≠ q402 := by have h1 := hb278.lt; have h2 := hq403; omega
          have hq407 := Nat.le_trans hN281.size hq403
          have hN408 := hN281.transNew hn393
          clear hs271 hd272 h273 h274 h275 h276 hv390 hb278 hb279 hq17 hb280 hq51 hq403 hN281 ha394 hn393
          obtain ⟨w409, -, hst410, hb411, hu412, hf413⟩ := s_two (v0 := iv ((readM a).k)) (v1 := iv ((readM a).n)) Tryd.sizeOf23 rfl rfl rfl hb404
          refine st_act rfl rfl fun K414 hL415 => a_store' rfl h401 h399 hst410 (hL415 _ _ trivial ?_)
          have hb416 := hf413 _ _ _ (hne406) hb405
          have hN417 := hN408.trans hu412 (fun k hk hkb => by subst hkb; omega)
          clear hb404 hst410 K414 hL415 hN408 hb405 hu412 hf413
          refine st_take rfl rfl (y_assign (v := .bool true) rfl h400) rfl ?_
          obtain ⟨a418, ha419⟩ : ∃ a', a' = a391.put (some 16) (.bool true) := ⟨_, rfl⟩
          have hs420 : a418.tmps.size = 132 := by rw [ha419, put_size]; exact hs395
          have hd421 : a418.defers = [] := by rw [ha419, put_defers]; exact hd396
          have h422 : a418.eval (.tmp 2) = pv q8 := by rw [ha419, put_ne _ _ _ _ (by decide)]; exact h397
          have h423 : a418.eval (.tmp 4) = .bool false := by rw [ha419, put_ne _ _ _ _ (by decide)]; exact h398
          have h424 : a418.eval (.tmp 111) = nv (readM a) := by rw [ha419, put_ne _ _ _ _ (by decide)]; exact h399
          have h425 : a418.eval (.tmp 112) = .bool true := by rw [ha419, put_ne _ _ _ _ (by decide)]; exact h400
          have h426 : a418.eval (.tmp 15) = pv q402 := by rw [ha419, put_ne _ _ _ _ (by decide)]; exact h401
          have h427 : a418.eval (.tmp 16) = .bool true := by rw [ha419]; exact put_same _ _ _ (by rw [hs395]; decide)
          show stepsTo _ _ _ _ _ (a391.put (some 16) (.bool true)) _
          rw [← ha419]
          clear ha419 hs395 hd396 h397 h398 h399 h400 h401
          clear hne406
          refine st_nil ?_
          clear h424 h425
          refine hK _ _ ?_
          clear hK K
          refine wp_seq_k fun K hK => ?_
          rcases Bool.eq_false_or_eq_true (sameM (readM a) a) with ht428 | ht428
          · skip
            refine wp_g0 [true, true, true, true, true, true, true, true, true, true, true, true, true, true, true, true, true, true, true, true] [] 132
              [ve (.bool true),
               ve (.bool true),
               ve (.bool true),
               ve (.bool true),
               ve (.bool true),
               ve (nv (readM a)),
               ve (nv a),
               ve (.bool true),
               ve (.bool true),
               ve undef,
               ve undef,
               ve undef,
               ve undef,
               ve undef,
               ve undef,
               ve undef,
               ve undef,
               ve (.bool true),
               ve (.bool true),
               ve (.bool true)] hs420 (.eq (.eq (.eq (.eq (.eq (.eq (.eq (.eq (.eq (.eq (.eq (.eq (.eq (.eq (.eq (.eq (.eq (.eq (.eq (.eq (.nil))))))))))))))))))))) ?_ ?_
            · skip
              refine .o1 (ck rfl rfl rfl (fun _ w hn k => ⟨#[], rfl, fun _ => by kernel_rfl, first_c  _⟩) fun _ => rfl) ?_
              refine .o1 (tk rfl rfl fun _ w hn k => ⟨_, v_move rfl (k.eq1 0 113 rfl), rfl⟩) ?_
              refine .o1 (tg rfl rfl rfl (fun _ _ k => k.eq1 1 114 rfl) fun _ w hn k => ⟨_, v_move rfl (k.fx 16 h427), rfl⟩) ?_
              refine .o1 (tk rfl rfl fun _ w hn k => ⟨_, v_pickT rfl (k.eq1 1 114 rfl) (k.eq1 2 115 rfl), rfl⟩) ?_
              refine .o1 (tk rfl rfl fun _ w hn k => ⟨_, v_move rfl (k.eq1 3 116 rfl), rfl⟩) ?_
              refine .o1 (tg rfl rfl rfl (fun _ _ k => k.eq1 4 117 rfl) fun _ w hn k => ⟨_, v_load rfl (k.fx 15 h426) (l_two Tryd.isAgg23 Tryd.sizeOf23 (hb411.new_ hn)), rfl⟩) ?_
              refine .o1 (tg rfl rfl rfl (fun _ _ k => k.eq1 4 117 rfl) fun _ w hn k => ⟨_, v_load rfl (k.fx 2 h422) (l_two Tryd.isAgg23 Tryd.sizeOf23 (hb416.new_ hn)), rfl⟩) ?_
              refine .o1 (cg rfl rfl rfl (fun _ _ k => k.eq1 4 117 rfl) rfl (fun _ w hn k => ⟨#[nv (readM a), nv a], args2 (k.eq1 5 118 rfl) (k.eq1 6 119 rfl), fun _ => by kernel_rfl, same_c (readM a) a _⟩) fun _ => congrArg Value.bool ht428) ?_
              refine .o1 (tg rfl rfl rfl (fun _ _ k => k.eq1 4 117 rfl) fun _ w hn k => ⟨_, v_move rfl (k.eq1 7 120 rfl), rfl⟩) ?_
              refine .o1 (sk rfl rfl rfl (fun _ _ _ k => k.eq1 8 121 rfl) (fun _ => rfl)) ?_
              refine .o1 (sk rfl rfl rfl (fun _ _ _ k => k.eq1 8 121 rfl) (fun _ => rfl)) ?_
              refine .o1 (sk rfl rfl rfl (fun _ _ _ k => k.eq1 8 121 rfl) (fun _ => rfl)) ?_
              refine .o1 (sk rfl rfl rfl (fun _ _ _ k => k.eq1 8 121 rfl) (fun _ => rfl)) ?_
              refine .o1 (su rfl rfl rfl (fun _ _ _ k => k.eq1 12 125 rfl) (fun _ => rfl)) ?_
              refine .o1 (su rfl rfl rfl (fun _ _ _ k => k.eq1 12 125 rfl) (fun _ => rfl)) ?_
              refine .o1 (su rfl rfl rfl (fun _ _ _ k => k.eq1 12 125 rfl) (fun _ => rfl)) ?_
              refine .o1 (sk rfl rfl rfl (fun _ _ _ k => k.eq1 8 121 rfl) (fun _ => rfl)) ?_
              refine .o1 (tg rfl rfl rfl (fun _ _ k => k.eq1 4 117 rfl) fun _ w hn k => ⟨_, v_pickT rfl (k.eq1 8 121 rfl) rfl, rfl⟩) ?_
              refine .o1 (tk rfl rfl fun _ w hn k => ⟨_, v_pickT rfl (k.eq1 4 117 rfl) (k.eq1 17 130 rfl), rfl⟩) ?_
              refine .o1 (tk rfl rfl fun _ w hn k => ⟨_, v_assign rfl (k.eq1 18 131 rfl), rfl⟩) ?_
              exact .nil
            intro a429 w430 hn431 ha432
            have hs433 := ha432.size.trans hs420
            have hd434 := ha432.defers.trans hd421
            have h435 := ha432.ge 19 4 rfl
            have hN436 := hN417.transNew hn431
            clear hs420 hd421 h422 h423 h426 h427 hb416 hq16 hb411 hq407 hN417 ha432 hn431
            refine st_nil ?_
            refine hK _ _ ?_
            clear hK K
            refine wp_ret (ret_k hd434 (v := .bool true) (res_t rfl h435 _) ?_)
            exact ⟨rfl, hN436⟩
          have ht437 : (decide (a.k = 1)) = true := (read_same ht428).1
          have ht437d := of_decide_eq_true ht437
          refine wp_g0 [true, true, true, true, true, true, true, true, true, true, true, true, true, true, true, true, true, true, true, true] [] 132
            [ve (.bool true),
             ve (.bool true),
             ve (.bool true),
             ve (.bool true),
             ve (.bool true),
             ve (nv (readM a)),
             ve (nv a),
             ve (.bool false),
             ve (.bool false),
             ve (pv q8),
             ve (iv a.k),
             ve (.bool true),
             ve (.bool true),
             ve (nv (readM a)),
             ve (nv a),
             ve (.bool (equalM (readM a) a)),
             ve (.bool (equalM (readM a) a)),
             ve (.bool (equalM (readM a) a)),
             ve (.bool (equalM (readM a) a)),
             ve (.bool (equalM (readM a) a))] hs420 (.eq (.eq (.eq (.eq (.eq (.eq (.eq (.eq (.eq (.eq (.eq (.eq (.eq (.eq (.eq (.eq (.eq (.eq (.eq (.eq (.nil))))))))))))))))))))) ?_ ?_
          · skip
            refine .o1 (ck rfl rfl rfl (fun _ w hn k => ⟨#[], rfl, fun _ => by kernel_rfl, first_c  _⟩) fun _ => rfl) ?_
            refine .o1 (tk rfl rfl fun _ w hn k => ⟨_, v_move rfl (k.eq1 0 113 rfl), rfl⟩) ?_
            refine .o1 (tg rfl rfl rfl (fun _ _ k => k.eq1 1 114 rfl) fun _ w hn k => ⟨_, v_move rfl (k.fx 16 h427), rfl⟩) ?_
            refine .o1 (tk rfl rfl fun _ w hn k => ⟨_, v_pickT rfl (k.eq1 1 114 rfl) (k.eq1 2 115 rfl), rfl⟩) ?_
            refine .o1 (tk rfl rfl fun _ w hn k => ⟨_, v_move rfl (k.eq1 3 116 rfl), rfl⟩) ?_
            refine .o1 (tg rfl rfl rfl (fun _ _ k => k.eq1 4 117 rfl) fun _ w hn k => ⟨_, v_load rfl (k.fx 15 h426) (l_two Tryd.isAgg23 Tryd.sizeOf23 (hb411.new_ hn)), rfl⟩) ?_
            refine .o1 (tg rfl rfl rfl (fun _ _ k => k.eq1 4 117 rfl) fun _ w hn k => ⟨_, v_load rfl (k.fx 2 h422) (l_two Tryd.isAgg23 Tryd.sizeOf23 (hb416.new_ hn)), rfl⟩) ?_
            refine .o1 (cg rfl rfl rfl (fun _ _ k => k.eq1 4 117 rfl) rfl (fun _ w hn k => ⟨#[nv (readM a), nv a], args2 (k.eq1 5 118 rfl) (k.eq1 6 119 rfl), fun _ => by kernel_rfl, same_c (readM a) a _⟩) fun _ => congrArg Value.bool ht428) ?_
            refine .o1 (tg rfl rfl rfl (fun _ _ k => k.eq1 4 117 rfl) fun _ w hn k => ⟨_, v_move rfl (k.eq1 7 120 rfl), rfl⟩) ?_
            refine .o1 (tg rfl rfl rfl (fun _ _ k => k.eq1 8 121 rfl) fun _ w hn k => ⟨_, v_field rfl (k.fx 2 h422) (fun w => rfl), rfl⟩) ?_
            refine .o1 (tg rfl rfl rfl (fun _ _ k => k.eq1 8 121 rfl) fun _ w hn k => ⟨_, v_load rfl (k.eq1 9 122 rfl) (l_one Tryd.isAgg3 ((hb416.new_ hn).cell 0)), rfl⟩) ?_
            refine .o1 (tg rfl rfl rfl (fun _ _ k => k.eq1 8 121 rfl) fun _ w hn k => ⟨_, v_bin rfl (k.eq1 10 123 rfl) rfl (fun _ => rfl) (r_eql ht437), rfl⟩) ?_
            refine .o1 (tg rfl rfl rfl (fun _ _ k => k.eq1 8 121 rfl) fun _ w hn k => ⟨_, v_move rfl (k.eq1 11 124 rfl), rfl⟩) ?_
            refine .o1 (tg rfl rfl rfl (fun _ _ k => k.eq1 12 125 rfl) fun _ w hn k => ⟨_, v_load rfl (k.fx 15 h426) (l_two Tryd.isAgg23 Tryd.sizeOf23 (hb411.new_ hn)), rfl⟩) ?_
            refine .o1 (tg rfl rfl rfl (fun _ _ k => k.eq1 12 125 rfl) fun _ w hn k => ⟨_, v_load rfl (k.fx 2 h422) (l_two Tryd.isAgg23 Tryd.sizeOf23 (hb416.new_ hn)), rfl⟩) ?_
            refine .o1 (cg rfl rfl rfl (fun _ _ k => k.eq1 12 125 rfl) rfl (fun _ w hn k => ⟨#[nv (readM a), nv a], args2 (k.eq1 13 126 rfl) (k.eq1 14 127 rfl), fun _ => by kernel_rfl, equal_c (readM a) a _⟩) fun _ => rfl) ?_
            refine .o1 (tg rfl rfl rfl (fun _ _ k => k.eq1 8 121 rfl) fun _ w hn k => ⟨_, v_pickT rfl (k.eq1 12 125 rfl) (k.eq1 15 128 rfl), rfl⟩) ?_
            refine .o1 (tg rfl rfl rfl (fun _ _ k => k.eq1 4 117 rfl) fun _ w hn k => ⟨_, v_pickF rfl (k.eq1 8 121 rfl) (k.eq1 16 129 rfl), rfl⟩) ?_
            refine .o1 (tk rfl rfl fun _ w hn k => ⟨_, v_pickT rfl (k.eq1 4 117 rfl) (k.eq1 17 130 rfl), rfl⟩) ?_
            refine .o1 (tk rfl rfl fun _ w hn k => ⟨_, v_assign rfl (k.eq1 18 131 rfl), rfl⟩) ?_
            exact .nil
          intro a438 w439 hn440 ha441
          have hs442 := ha441.size.trans hs420
          have hd443 := ha441.defers.trans hd421
          have h444 := ha441.ge 19 4 rfl
          have hN445 := hN417.transNew hn440
          clear hs420 hd421 h422 h423 h426 h427 hb416 hq16 hb411 hq407 hN417 ha441 hn440
          refine st_nil ?_
          refine hK _ _ ?_
          clear hK K
          refine wp_ret (ret_k hd443 (v := .bool (equalM (readM a) a)) (res_t rfl h444 _) ?_)
          exact ⟨congrArg (fun b => Ending.returned (.bool b)) ((read_same ht428).2), hN445⟩
        have ht266d := of_decide_eq_false ht266
        refine wp_g0 [true, true, true, true, true, true, true, true, true, true, true, true, true, true, true, true, true, true, true] [] 132
          [ve (nv a),
           ve (.bool true),
           ve (.bool true),
           ve (nv b),
           ve (.bool true),
           ve (.bool true),
           ve (.bool true),
           ve (pv q8),
           ve (iv a.k),
           ve (.bool true),
           ve (.bool true),
           ve (.bool true),
           ve (pv q12),
           ve (iv b.k),
           ve (.bool false),
           ve (.bool false),
           ve (.bool false),
           ve undef,
           ve (.bool false)] hs251 (.eq (.eq (.eq (.eq (.eq (.eq (.eq (.eq (.eq (.eq (.eq (.eq (.eq (.eq (.eq (.eq (.eq (.eq (.eq (.nil)))))))))))))))))))) ?_ ?_
        · skip
          refine .o1 (tk rfl rfl fun _ w hn k => ⟨_, v_load rfl (k.fx 2 h253) (l_two Tryd.isAgg23 Tryd.sizeOf23 (hb259.new_ hn)), rfl⟩) ?_
          refine .o1 (ck rfl rfl rfl (fun _ w hn k => ⟨#[nv a], args1 (k.eq1 0 74 rfl), fun _ => by kernel_rfl, may_c a _⟩) fun _ => congrArg Value.bool ht263) ?_
          refine .o1 (tk rfl rfl fun _ w hn k => ⟨_, v_move rfl (k.eq1 1 75 rfl), rfl⟩) ?_
          refine .o1 (tg rfl rfl rfl (fun _ _ k => k.eq1 2 76 rfl) fun _ w hn k => ⟨_, v_load rfl (k.fx 3 h254) (l_two Tryd.isAgg23 Tryd.sizeOf23 (hb260.new_ hn)), rfl⟩) ?_
          refine .o1 (cg rfl rfl rfl (fun _ _ k => k.eq1 2 76 rfl) rfl (fun _ w hn k => ⟨#[nv b], args1 (k.eq1 3 77 rfl), fun _ => by kernel_rfl, may_c b _⟩) fun _ => congrArg Value.bool ht264) ?_
          refine .o1 (tk rfl rfl fun _ w hn k => ⟨_, v_pickT rfl (k.eq1 2 76 rfl) (k.eq1 4 78 rfl), rfl⟩) ?_
          refine .o1 (tk rfl rfl fun _ w hn k => ⟨_, v_move rfl (k.eq1 5 79 rfl), rfl⟩) ?_
          refine .o1 (tg rfl rfl rfl (fun _ _ k => k.eq1 6 80 rfl) fun _ w hn k => ⟨_, v_field rfl (k.fx 2 h253) (fun w => rfl), rfl⟩) ?_
          refine .o1 (tg rfl rfl rfl (fun _ _ k => k.eq1 6 80 rfl) fun _ w hn k => ⟨_, v_load rfl (k.eq1 7 81 rfl) (l_one Tryd.isAgg3 ((hb259.new_ hn).cell 0)), rfl⟩) ?_
          refine .o1 (tg rfl rfl rfl (fun _ _ k => k.eq1 6 80 rfl) fun _ w hn k => ⟨_, v_bin rfl (k.eq1 8 82 rfl) rfl (fun _ => rfl) (r_eql ht265), rfl⟩) ?_
          refine .o1 (tk rfl rfl fun _ w hn k => ⟨_, v_pickT rfl (k.eq1 6 80 rfl) (k.eq1 9 83 rfl), rfl⟩) ?_
          refine .o1 (tk rfl rfl fun _ w hn k => ⟨_, v_move rfl (k.eq1 10 84 rfl), rfl⟩) ?_
          refine .o1 (tg rfl rfl rfl (fun _ _ k => k.eq1 11 85 rfl) fun _ w hn k => ⟨_, v_field rfl (k.fx 3 h254) (fun w => rfl), rfl⟩) ?_
          refine .o1 (tg rfl rfl rfl (fun _ _ k => k.eq1 11 85 rfl) fun _ w hn k => ⟨_, v_load rfl (k.eq1 12 86 rfl) (l_one Tryd.isAgg3 ((hb260.new_ hn).cell 0)), rfl⟩) ?_
          refine .o1 (tg rfl rfl rfl (fun _ _ k => k.eq1 11 85 rfl) fun _ w hn k => ⟨_, v_bin rfl (k.eq1 13 87 rfl) rfl (fun _ => rfl) (r_eql ht266), rfl⟩) ?_
          refine .o1 (tk rfl rfl fun _ w hn k => ⟨_, v_pickT rfl (k.eq1 11 85 rfl) (k.eq1 14 88 rfl), rfl⟩) ?_
          refine .o1 (tk rfl rfl fun _ w hn k => ⟨_, v_move rfl (k.eq1 15 89 rfl), rfl⟩) ?_
          refine .o1 (sk rfl rfl rfl (fun _ _ _ k => k.eq1 16 90 rfl) (fun _ => rfl)) ?_
          refine .o1 (tk rfl rfl fun _ w hn k => ⟨_, v_pickF rfl (k.eq1 16 90 rfl) rfl, rfl⟩) ?_
          exact .nil
        intro a446 w447 hn448 ha449
        have hs450 := ha449.size.trans hs251
        have hd451 := ha449.defers.trans hd252
        have h452 := ha449.fx 2 h253
        have h453 := ha449.fx 3 h254
        have h454 := ha449.fx 4 h255
        have h455 := ha449.fx 5 h256
        have h456 := ha449.ge 18 92 rfl
        have hb457 := hb259.new_ hn448
        have hb458 := hb260.new_ hn448
        have hb459 := hb261.new_ hn448
        have hN460 := hN262.transNew hn448
        clear hs251 hd252 h253 h254 h255 h256 h257 h258 hb259 hb260 hb261 hN262 ha449 hn448
        refine st_nil ?_
        refine hK _ _ ?_
        clear hK K
        refine wp_cond_false h456 ?_
        refine wp_skip ?_
        refine hK _ _ ?_
        clear hK K
        refine wp_seq_k fun K hK => ?_
        refine wp_g [true, true, true, true, true, true, true, false, false] [5] [(7, false), (8, true)] 132
          [ve (nv a),
           ve (.string (textM a)),
           ve (.tuple #[nv (readM a), .bool true]),
           ve (.tuple #[nv (readM a), .bool true]),
           ve (nv (readM a)),
           ve (.bool true),
           IsNew w447 23 [iv 0, iv 0],
           vt,
           vt]
          [6] (newsCons (fun v w h => IsNew.old h) newsNil) hs450 (.eq (.eq (.eq (.eq (.eq (.eq (.nw (.tt (.tt (.nil)))))))))) ?_ ?_ ?_
        · skip
          refine .o1 (tk rfl rfl fun _ w hn k => ⟨_, v_load rfl (k.fx 2 h452) (l_two Tryd.isAgg23 Tryd.sizeOf23 (hb457.new_ hn)), rfl⟩) ?_
          refine .o1 (ck rfl rfl rfl (fun _ w hn k => ⟨#[nv a], args1 (k.eq1 0 108 rfl), fun _ => by kernel_rfl, textW_c HT a (hN460.transNew hn)⟩) fun _ => rfl) ?_
          refine .o1 (ck rfl rfl rfl (fun _ w hn k => ⟨#[.string (textM a)], args1 (k.eq1 1 109 rfl), fun _ => by kernel_rfl, parseW_c HT a (hN460.transNew hn)⟩) fun _ => rfl) ?_
          refine .o1 (tk rfl rfl fun _ w hn k => ⟨_, v_move rfl (k.eq1 2 110 rfl), rfl⟩) ?_
          refine .o1 (tk rfl rfl fun _ w hn k => ⟨_, v_extract rfl (k.eq1 3 107 rfl) rfl, rfl⟩) ?_
          refine .o3 ?_
          refine .o2 (step_allocN (cs := [iv 0, iv 0]) (t := 23) rfl (noG rfl) (fun _ w hn k => rfl) (fun q _ hq hb => ⟨q, rfl, hq, hb⟩)) ?_
          refine .off ?_
          refine .off ?_
          exact .nil
        · skip
          intro i h
          simp only [List.contains_eq_mem, List.mem_cons, List.not_mem_nil, or_false, decide_eq_true_eq] at h
          subst h
          · exact eager_take rfl rfl fun _ w hn k => ⟨.bool true, fun w => v_extract rfl (k.eq1 3 107 rfl) rfl, rfl⟩
        intro a461 w462 hn463 ha464
        have hs465 := ha464.size.trans hs450
        have hd466 := ha464.defers.trans hd451
        have h467 := ha464.fx 2 h452
        have h468 := ha464.fx 4 h454
        have h469 := ha464.ge 4 111 rfl
        have h470 := ha464.ge 5 112 rfl
        obtain ⟨q472, h471, hq473, hb474⟩ : IsNew _ _ _ _ _ := ha464.got 6 15 rfl (by kernel_rfl)
        have hb475 := hb457.new_ hn463
        have hne476 : q8 ≠ q472 := by have h1 := hb457.lt; have h2 := hq473; omega
        have hq477 := Nat.le_trans hN460.size hq473
        have hN478 := hN460.transNew hn463
        clear hs450 hd451 h452 h453 h454 h455 h456 hb457 hb458 hq17 hb459 hq51 hq473 hN460 ha464 hn463
        obtain ⟨w479, -, hst480, hb481, hu482, hf483⟩ := s_two (v0 := iv ((readM a).k)) (v1 := iv ((readM a).n)) Tryd.sizeOf23 rfl rfl rfl hb474
        refine st_act rfl rfl fun K484 hL485 => a_store' rfl h471 h469 hst480 (hL485 _ _ trivial ?_)
        have hb486 := hf483 _ _ _ (hne476) hb475
        have hN487 := hN478.trans hu482 (fun k hk hkb => by subst hkb; omega)
        clear hb474 hst480 K484 hL485 hN478 hb475 hu482 hf483
        refine st_take rfl rfl (y_assign (v := .bool true) rfl h470) rfl ?_
        obtain ⟨a488, ha489⟩ : ∃ a', a' = a461.put (some 16) (.bool true) := ⟨_, rfl⟩
        have hs490 : a488.tmps.size = 132 := by rw [ha489, put_size]; exact hs465
        have hd491 : a488.defers = [] := by rw [ha489, put_defers]; exact hd466
        have h492 : a488.eval (.tmp 2) = pv q8 := by rw [ha489, put_ne _ _ _ _ (by decide)]; exact h467
        have h493 : a488.eval (.tmp 4) = .bool false := by rw [ha489, put_ne _ _ _ _ (by decide)]; exact h468
        have h494 : a488.eval (.tmp 111) = nv (readM a) := by rw [ha489, put_ne _ _ _ _ (by decide)]; exact h469
        have h495 : a488.eval (.tmp 112) = .bool true := by rw [ha489, put_ne _ _ _ _ (by decide)]; exact h470
        have h496 : a488.eval (.tmp 15) = pv q472 := by rw [ha489, put_ne _ _ _ _ (by decide)]; exact h471
        have h497 : a488.eval (.tmp 16) = .bool true := by rw [ha489]; exact put_same _ _ _ (by rw [hs465]; decide)
        show stepsTo _ _ _ _ _ (a461.put (some 16) (.bool true)) _
        rw [← ha489]
        clear ha489 hs465 hd466 h467 h468 h469 h470 h471
        clear hne476
        refine st_nil ?_
        clear h494 h495
        refine hK _ _ ?_
        clear hK K
        refine wp_seq_k fun K hK => ?_
        rcases Bool.eq_false_or_eq_true (sameM (readM a) a) with ht498 | ht498
        · skip
          refine wp_g0 [true, true, true, true, true, true, true, true, true, true, true, true, true, true, true, true, true, true, true, true] [] 132
            [ve (.bool true),
             ve (.bool true),
             ve (.bool true),
             ve (.bool true),
             ve (.bool true),
             ve (nv (readM a)),
             ve (nv a),
             ve (.bool true),
             ve (.bool true),
             ve undef,
             ve undef,
             ve undef,
             ve undef,
             ve undef,
             ve undef,
             ve undef,
             ve undef,
             ve (.bool true),
             ve (.bool true),
             ve (.bool true)] hs490 (.eq (.eq (.eq (.eq (.eq (.eq (.eq (.eq (.eq (.eq (.eq (.eq (.eq (.eq (.eq (.eq (.eq (.eq (.eq (.eq (.nil))))))))))))))))))))) ?_ ?_
          · skip
            refine .o1 (ck rfl rfl rfl (fun _ w hn k => ⟨#[], rfl, fun _ => by kernel_rfl, first_c  _⟩) fun _ => rfl) ?_
            refine .o1 (tk rfl rfl fun _ w hn k => ⟨_, v_move rfl (k.eq1 0 113 rfl), rfl⟩) ?_
            refine .o1 (tg rfl rfl rfl (fun _ _ k => k.eq1 1 114 rfl) fun _ w hn k => ⟨_, v_move rfl (k.fx 16 h497), rfl⟩) ?_
            refine .o1 (tk rfl rfl fun _ w hn k => ⟨_, v_pickT rfl (k.eq1 1 114 rfl) (k.eq1 2 115 rfl), rfl⟩) ?_
            refine .o1 (tk rfl rfl fun _ w hn k => ⟨_, v_move rfl (k.eq1 3 116 rfl), rfl⟩) ?_
            refine .o1 (tg rfl rfl rfl (fun _ _ k => k.eq1 4 117 rfl) fun _ w hn k => ⟨_, v_load rfl (k.fx 15 h496) (l_two Tryd.isAgg23 Tryd.sizeOf23 (hb481.new_ hn)), rfl⟩) ?_
            refine .o1 (tg rfl rfl rfl (fun _ _ k => k.eq1 4 117 rfl) fun _ w hn k => ⟨_, v_load rfl (k.fx 2 h492) (l_two Tryd.isAgg23 Tryd.sizeOf23 (hb486.new_ hn)), rfl⟩) ?_
            refine .o1 (cg rfl rfl rfl (fun _ _ k => k.eq1 4 117 rfl) rfl (fun _ w hn k => ⟨#[nv (readM a), nv a], args2 (k.eq1 5 118 rfl) (k.eq1 6 119 rfl), fun _ => by kernel_rfl, same_c (readM a) a _⟩) fun _ => congrArg Value.bool ht498) ?_
            refine .o1 (tg rfl rfl rfl (fun _ _ k => k.eq1 4 117 rfl) fun _ w hn k => ⟨_, v_move rfl (k.eq1 7 120 rfl), rfl⟩) ?_
            refine .o1 (sk rfl rfl rfl (fun _ _ _ k => k.eq1 8 121 rfl) (fun _ => rfl)) ?_
            refine .o1 (sk rfl rfl rfl (fun _ _ _ k => k.eq1 8 121 rfl) (fun _ => rfl)) ?_
            refine .o1 (sk rfl rfl rfl (fun _ _ _ k => k.eq1 8 121 rfl) (fun _ => rfl)) ?_
            refine .o1 (sk rfl rfl rfl (fun _ _ _ k => k.eq1 8 121 rfl) (fun _ => rfl)) ?_
            refine .o1 (su rfl rfl rfl (fun _ _ _ k => k.eq1 12 125 rfl) (fun _ => rfl)) ?_
            refine .o1 (su rfl rfl rfl (fun _ _ _ k => k.eq1 12 125 rfl) (fun _ => rfl)) ?_
            refine .o1 (su rfl rfl rfl (fun _ _ _ k => k.eq1 12 125 rfl) (fun _ => rfl)) ?_
            refine .o1 (sk rfl rfl rfl (fun _ _ _ k => k.eq1 8 121 rfl) (fun _ => rfl)) ?_
            refine .o1 (tg rfl rfl rfl (fun _ _ k => k.eq1 4 117 rfl) fun _ w hn k => ⟨_, v_pickT rfl (k.eq1 8 121 rfl) rfl, rfl⟩) ?_
            refine .o1 (tk rfl rfl fun _ w hn k => ⟨_, v_pickT rfl (k.eq1 4 117 rfl) (k.eq1 17 130 rfl), rfl⟩) ?_
            refine .o1 (tk rfl rfl fun _ w hn k => ⟨_, v_assign rfl (k.eq1 18 131 rfl), rfl⟩) ?_
            exact .nil
          intro a499 w500 hn501 ha502
          have hs503 := ha502.size.trans hs490
          have hd504 := ha502.defers.trans hd491
          have h505 := ha502.ge 19 4 rfl
          have hN506 := hN487.transNew hn501
          clear hs490 hd491 h492 h493 h496 h497 hb486 hq16 hb481 hq477 hN487 ha502 hn501
          refine st_nil ?_
          refine hK _ _ ?_
          clear hK K
          refine wp_ret (ret_k hd504 (v := .bool true) (res_t rfl h505 _) ?_)
          exact ⟨rfl, hN506⟩
        have ht507 : (decide (a.k = 1)) = true := (read_same ht498).1
        have ht507d := of_decide_eq_true ht507
        refine wp_g0 [true, true, true, true, true, true, true, true, true, true, true, true, true, true, true, true, true, true, true, true] [] 132
          [ve (.bool true),
           ve (.bool true),
           ve (.bool true),
           ve (.bool true),
           ve (.bool true),
           ve (nv (readM a)),
           ve (nv a),
           ve (.bool false),
           ve (.bool false),
           ve (pv q8),
           ve (iv a.k),
           ve (.bool true),
           ve (.bool true),
           ve (nv (readM a)),
           ve (nv a),
           ve (.bool (equalM (readM a) a)),
           ve (.bool (equalM (readM a) a)),
           ve (.bool (equalM (readM a) a)),
           ve (.bool (equalM (readM a) a)),
           ve (.bool (equalM (readM a) a))] hs490 (.eq (.eq (.eq (.eq (.eq (.eq (.eq (.eq (.eq (.eq (.eq (.eq (.eq (.eq (.eq (.eq (.eq (.eq (.eq (.eq (.nil))))))))))))))))))))) ?_ ?_
        · skip
          refine .o1 (ck rfl rfl rfl (fun _ w hn k => ⟨#[], rfl, fun _ => by kernel_rfl, first_c  _⟩) fun _ => rfl) ?_
          refine .o1 (tk rfl rfl fun _ w hn k => ⟨_, v_move rfl (k.eq1 0 113 rfl), rfl⟩) ?_
          refine .o1 (tg rfl rfl rfl (fun _ _ k => k.eq1 1 114 rfl) fun _ w hn k => ⟨_, v_move rfl (k.fx 16 h497), rfl⟩) ?_
          refine .o1 (tk rfl rfl fun _ w hn k => ⟨_, v_pickT rfl (k.eq1 1 114 rfl) (k.eq1 2 115 rfl), rfl⟩) ?_
          refine .o1 (tk rfl rfl fun _ w hn k => ⟨_, v_move rfl (k.eq1 3 116 rfl), rfl⟩) ?_
          refine .o1 (tg rfl rfl rfl (fun _ _ k => k.eq1 4 117 rfl) fun _ w hn k => ⟨_, v_load rfl (k.fx 15 h496) (l_two Tryd.isAgg23 Tryd.sizeOf23 (hb481.new_ hn)), rfl⟩) ?_
          refine .o1 (tg rfl rfl rfl (fun _ _ k => k.eq1 4 117 rfl) fun _ w hn k => ⟨_, v_load rfl (k.fx 2 h492) (l_two Tryd.isAgg23 Tryd.sizeOf23 (hb486.new_ hn)), rfl⟩) ?_
          refine .o1 (cg rfl rfl rfl (fun _ _ k => k.eq1 4 117 rfl) rfl (fun _ w hn k => ⟨#[nv (readM a), nv a], args2 (k.eq1 5 118 rfl) (k.eq1 6 119 rfl), fun _ => by kernel_rfl, same_c (readM a) a _⟩) fun _ => congrArg Value.bool ht498) ?_
          refine .o1 (tg rfl rfl rfl (fun _ _ k => k.eq1 4 117 rfl) fun _ w hn k => ⟨_, v_move rfl (k.eq1 7 120 rfl), rfl⟩) ?_
          refine .o1 (tg rfl rfl rfl (fun _ _ k => k.eq1 8 121 rfl) fun _ w hn k => ⟨_, v_field rfl (k.fx 2 h492) (fun w => rfl), rfl⟩) ?_
          refine .o1 (tg rfl rfl rfl (fun _ _ k => k.eq1 8 121 rfl) fun _ w hn k => ⟨_, v_load rfl (k.eq1 9 122 rfl) (l_one Tryd.isAgg3 ((hb486.new_ hn).cell 0)), rfl⟩) ?_
          refine .o1 (tg rfl rfl rfl (fun _ _ k => k.eq1 8 121 rfl) fun _ w hn k => ⟨_, v_bin rfl (k.eq1 10 123 rfl) rfl (fun _ => rfl) (r_eql ht507), rfl⟩) ?_
          refine .o1 (tg rfl rfl rfl (fun _ _ k => k.eq1 8 121 rfl) fun _ w hn k => ⟨_, v_move rfl (k.eq1 11 124 rfl), rfl⟩) ?_
          refine .o1 (tg rfl rfl rfl (fun _ _ k => k.eq1 12 125 rfl) fun _ w hn k => ⟨_, v_load rfl (k.fx 15 h496) (l_two Tryd.isAgg23 Tryd.sizeOf23 (hb481.new_ hn)), rfl⟩) ?_
          refine .o1 (tg rfl rfl rfl (fun _ _ k => k.eq1 12 125 rfl) fun _ w hn k => ⟨_, v_load rfl (k.fx 2 h492) (l_two Tryd.isAgg23 Tryd.sizeOf23 (hb486.new_ hn)), rfl⟩) ?_
          refine .o1 (cg rfl rfl rfl (fun _ _ k => k.eq1 12 125 rfl) rfl (fun _ w hn k => ⟨#[nv (readM a), nv a], args2 (k.eq1 13 126 rfl) (k.eq1 14 127 rfl), fun _ => by kernel_rfl, equal_c (readM a) a _⟩) fun _ => rfl) ?_
          refine .o1 (tg rfl rfl rfl (fun _ _ k => k.eq1 8 121 rfl) fun _ w hn k => ⟨_, v_pickT rfl (k.eq1 12 125 rfl) (k.eq1 15 128 rfl), rfl⟩) ?_
          refine .o1 (tg rfl rfl rfl (fun _ _ k => k.eq1 4 117 rfl) fun _ w hn k => ⟨_, v_pickF rfl (k.eq1 8 121 rfl) (k.eq1 16 129 rfl), rfl⟩) ?_
          refine .o1 (tk rfl rfl fun _ w hn k => ⟨_, v_pickT rfl (k.eq1 4 117 rfl) (k.eq1 17 130 rfl), rfl⟩) ?_
          refine .o1 (tk rfl rfl fun _ w hn k => ⟨_, v_assign rfl (k.eq1 18 131 rfl), rfl⟩) ?_
          exact .nil
        intro a508 w509 hn510 ha511
        have hs512 := ha511.size.trans hs490
        have hd513 := ha511.defers.trans hd491
        have h514 := ha511.ge 19 4 rfl
        have hN515 := hN487.transNew hn510
        clear hs490 hd491 h492 h493 h496 h497 hb486 hq16 hb481 hq477 hN487 ha511 hn510
        refine st_nil ?_
        refine hK _ _ ?_
        clear hK K
        refine wp_ret (ret_k hd513 (v := .bool (equalM (readM a) a)) (res_t rfl h514 _) ?_)
        exact ⟨congrArg (fun b => Ending.returned (.bool b)) ((read_same ht498).2), hN515⟩
      have ht265d := of_decide_eq_false ht265
      refine wp_g0 [true, true, true, true, true, true, true, true, true, true, true, true, true, true, true, true, true, true, true] [] 132
        [ve (nv a),
         ve (.bool true),
         ve (.bool true),
         ve (nv b),
         ve (.bool true),
         ve (.bool true),
         ve (.bool true),
         ve (pv q8),
         ve (iv a.k),
         ve (.bool false),
         ve (.bool false),
         ve (.bool false),
         ve undef,
         ve undef,
         ve undef,
         ve (.bool false),
         ve (.bool false),
         ve undef,
         ve (.bool false)] hs251 (.eq (.eq (.eq (.eq (.eq (.eq (.eq (.eq (.eq (.eq (.eq (.eq (.eq (.eq (.eq (.eq (.eq (.eq (.eq (.nil)))))))))))))))))))) ?_ ?_
      · skip
        refine .o1 (tk rfl rfl fun _ w hn k => ⟨_, v_load rfl (k.fx 2 h253) (l_two Tryd.isAgg23 Tryd.sizeOf23 (hb259.new_ hn)), rfl⟩) ?_
        refine .o1 (ck rfl rfl rfl (fun _ w hn k => ⟨#[nv a], args1 (k.eq1 0 74 rfl), fun _ => by kernel_rfl, may_c a _⟩) fun _ => congrArg Value.bool ht263) ?_
        refine .o1 (tk rfl rfl fun _ w hn k => ⟨_, v_move rfl (k.eq1 1 75 rfl), rfl⟩) ?_
        refine .o1 (tg rfl rfl rfl (fun _ _ k => k.eq1 2 76 rfl) fun _ w hn k => ⟨_, v_load rfl (k.fx 3 h254) (l_two Tryd.isAgg23 Tryd.sizeOf23 (hb260.new_ hn)), rfl⟩) ?_
        refine .o1 (cg rfl rfl rfl (fun _ _ k => k.eq1 2 76 rfl) rfl (fun _ w hn k => ⟨#[nv b], args1 (k.eq1 3 77 rfl), fun _ => by kernel_rfl, may_c b _⟩) fun _ => congrArg Value.bool ht264) ?_
        refine .o1 (tk rfl rfl fun _ w hn k => ⟨_, v_pickT rfl (k.eq1 2 76 rfl) (k.eq1 4 78 rfl), rfl⟩) ?_
        refine .o1 (tk rfl rfl fun _ w hn k => ⟨_, v_move rfl (k.eq1 5 79 rfl), rfl⟩) ?_
        refine .o1 (tg rfl rfl rfl (fun _ _ k => k.eq1 6 80 rfl) fun _ w hn k => ⟨_, v_field rfl (k.fx 2 h253) (fun w => rfl), rfl⟩) ?_
        refine .o1 (tg rfl rfl rfl (fun _ _ k => k.eq1 6 80 rfl) fun _ w hn k => ⟨_, v_load rfl (k.eq1 7 81 rfl) (l_one Tryd.isAgg3 ((hb259.new_ hn).cell 0)), rfl⟩) ?_
        refine .o1 (tg rfl rfl rfl (fun _ _ k => k.eq1 6 80 rfl) fun _ w hn k => ⟨_, v_bin rfl (k.eq1 8 82 rfl) rfl (fun _ => rfl) (r_eql ht265), rfl⟩) ?_
        refine .o1 (tk rfl rfl fun _ w hn k => ⟨_, v_pickT rfl (k.eq1 6 80 rfl) (k.eq1 9 83 rfl), rfl⟩) ?_
        refine .o1 (tk rfl rfl fun _ w hn k => ⟨_, v_move rfl (k.eq1 10 84 rfl), rfl⟩) ?_
        refine .o1 (sk rfl rfl rfl (fun _ _ _ k => k.eq1 11 85 rfl) (fun _ => rfl)) ?_
        refine .o1 (sk rfl rfl rfl (fun _ _ _ k => k.eq1 11 85 rfl) (fun _ => rfl)) ?_
        refine .o1 (sk rfl rfl rfl (fun _ _ _ k => k.eq1 11 85 rfl) (fun _ => rfl)) ?_
        refine .o1 (tk rfl rfl fun _ w hn k => ⟨_, v_pickF rfl (k.eq1 11 85 rfl) rfl, rfl⟩) ?_
        refine .o1 (tk rfl rfl fun _ w hn k => ⟨_, v_move rfl (k.eq1 15 89 rfl), rfl⟩) ?_
        refine .o1 (sk rfl rfl rfl (fun _ _ _ k => k.eq1 16 90 rfl) (fun _ => rfl)) ?_
        refine .o1 (tk rfl rfl fun _ w hn k => ⟨_, v_pickF rfl (k.eq1 16 90 rfl) rfl, rfl⟩) ?_
        exact .nil
      intro a516 w517 hn518 ha519
      have hs520 := ha519.size.trans hs251
      have hd521 := ha519.defers.trans hd252
      have h522 := ha519.fx 2 h253
      have h523 := ha519.fx 3 h254
      have h524 := ha519.fx 4 h255
      have h525 := ha519.fx 5 h256
      have h526 := ha519.ge 18 92 rfl
      have hb527 := hb259.new_ hn518
      have hb528 := hb260.new_ hn518
      have hb529 := hb261.new_ hn518
      have hN530 := hN262.transNew hn518
      clear hs251 hd252 h253 h254 h255 h256 h257 h258 hb259 hb260 hb261 hN262 ha519 hn518
      refine st_nil ?_
      refine hK _ _ ?_
      clear hK K
      refine wp_cond_false h526 ?_
      refine wp_skip ?_
      refine hK _ _ ?_
      clear hK K
      refine wp_seq_k fun K hK => ?_
      refine wp_g [true, true, true, true, true, true, true, false, false] [5] [(7, false), (8, true)] 132
        [ve (nv a),
         ve (.string (textM a)),
         ve (.tuple #[nv (readM a), .bool true]),
         ve (.tuple #[nv (readM a), .bool true]),
         ve (nv (readM a)),
         ve (.bool true),
         IsNew w517 23 [iv 0, iv 0],
         vt,
         vt]
        [6] (newsCons (fun v w h => IsNew.old h) newsNil) hs520 (.eq (.eq (.eq (.eq (.eq (.eq (.nw (.tt (.tt (.nil)))))))))) ?_ ?_ ?_
      · skip
        refine .o1 (tk rfl rfl fun _ w hn k => ⟨_, v_load rfl (k.fx 2 h522) (l_two Tryd.isAgg23 Tryd.sizeOf23 (hb527.new_ hn)), rfl⟩) ?_
        refine .o1 (ck rfl rfl rfl (fun _ w hn k => ⟨#[nv a], args1 (k.eq1 0 108 rfl), fun _ => by kernel_rfl, textW_c HT a (hN530.transNew hn)⟩) fun _ => rfl) ?_
        refine .o1 (ck rfl rfl rfl (fun _ w hn k => ⟨#[.string (textM a)], args1 (k.eq1 1 109 rfl), fun _ => by kernel_rfl, parseW_c HT a (hN530.transNew hn)⟩) fun _ => rfl) ?_
        refine .o1 (tk rfl rfl fun _ w hn k => ⟨_, v_move rfl (k.eq1 2 110 rfl), rfl⟩) ?_
        refine .o1 (tk rfl rfl fun _ w hn k => ⟨_, v_extract rfl (k.eq1 3 107 rfl) rfl, rfl⟩) ?_
        refine .o3 ?_
        refine .o2 (step_allocN (cs := [iv 0, iv 0]) (t := 23) rfl (noG rfl) (fun _ w hn k => rfl) (fun q _ hq hb => ⟨q, rfl, hq, hb⟩)) ?_
        refine .off ?_
        refine .off ?_
        exact .nil
      · skip
        intro i h
        simp only [List.contains_eq_mem, List.mem_cons, List.not_mem_nil, or_false, decide_eq_true_eq] at h
        subst h
        · exact eager_take rfl rfl fun _ w hn k => ⟨.bool true, fun w => v_extract rfl (k.eq1 3 107 rfl) rfl, rfl⟩
      intro a531 w532 hn533 ha534
      have hs535 := ha534.size.trans hs520
      have hd536 := ha534.defers.trans hd521
      have h537 := ha534.fx 2 h522
      have h538 := ha534.fx 4 h524
      have h539 := ha534.ge 4 111 rfl
      have h540 := ha534.ge 5 112 rfl
      obtain ⟨q542, h541, hq543, hb544⟩ : IsNew _ _ _ _ _ := ha534.got 6 15 rfl (by kernel_rfl)
      have hb545 := hb527.new_ hn533
      have hne546 : q8 ≠ q542 := by have h1 := hb527.lt; have h2 := hq543; omega
      have hq547 := Nat.le_trans hN530.size hq543
      have hN548 := hN530.transNew hn533
      clear hs520 hd521 h522 h523 h524 h525 h526 hb527 hb528 hq17 hb529 hq51 hq543 hN530 ha534 hn533
      obtain ⟨w549, -, hst550, hb551, hu552, hf553⟩ := s_two (v0 := iv ((readM a).k)) (v1 := iv ((readM a).n)) Tryd.sizeOf23 rfl rfl rfl hb544
      refine st_act rfl rfl fun K554 hL555 => a_store' rfl h541 h539 hst550 (hL555 _ _ trivial ?_)
      have hb556 := hf553 _ _ _ (hne546) hb545
      have hN557 := hN548.trans hu552 (fun k hk hkb => by subst hkb; omega)
      clear hb544 hst550 K554 hL555 hN548 hb545 hu552 hf553
      refine st_take rfl rfl (y_assign (v := .bool true) rfl h540) rfl ?_
      obtain ⟨a558, ha559⟩ : ∃ a', a' = a531.put (some 16) (.bool true) := ⟨_, rfl⟩
      have hs560 : a558.tmps.size = 132 := by rw [ha559, put_size]; exact hs535
      have hd561 : a558.defers = [] := by rw [ha559, put_defers]; exact hd536
      have h562 : a558.eval (.tmp 2) = pv q8 := by rw [ha559, put_ne _ _ _ _ (by decide)]; exact h537
      have h563 : a558.eval (.tmp 4) = .bool false := by rw [ha559, put_ne _ _ _ _ (by decide)]; exact h538
      have h564 : a558.eval (.tmp 111) = nv (readM a) := by rw [ha559, put_ne _ _ _ _ (by decide)]; exact h539
      have h565 : a558.eval (.tmp 112) = .bool true := by rw [ha559, put_ne _ _ _ _ (by decide)]; exact h540
      have h566 : a558.eval (.tmp 15) = pv q542 := by rw [ha559, put_ne _ _ _ _ (by decide)]; exact h541
      have h567 : a558.eval (.tmp 16) = .bool true := by rw [ha559]; exact put_same _ _ _ (by rw [hs535]; decide)
      show stepsTo _ _ _ _ _ (a531.put (some 16) (.bool true)) _
      rw [← ha559]
      clear ha559 hs535 hd536 h537 h538 h539 h540 h541
      clear hne546
      refine st_nil ?_
      clear h564 h565
      refine hK _ _ ?_
      clear hK K
      refine wp_seq_k fun K hK => ?_
      rcases Bool.eq_false_or_eq_true (sameM (readM a) a) with ht568 | ht568
      · skip
        refine wp_g0 [true, true, true, true, true, true, true, true, true, true, true, true, true, true, true, true, true, true, true, true] [] 132
          [ve (.bool true),
           ve (.bool true),
           ve (.bool true),
           ve (.bool true),
           ve (.bool true),
           ve (nv (readM a)),
           ve (nv a),
           ve (.bool true),
           ve (.bool true),
           ve undef,
           ve undef,
           ve undef,
           ve undef,
           ve undef,
           ve undef,
           ve undef,
           ve undef,
           ve (.bool true),
           ve (.bool true),
           ve (.bool true)] hs560 (.eq (.eq (.eq (.eq (.eq (.eq (.eq (.eq (.eq (.eq (.eq (.eq (.eq (.eq (.eq (.eq (.eq (.eq (.eq (.eq (.nil))))))))))))))))))))) ?_ ?_
        · skip
          refine .o1 (ck rfl rfl rfl (fun _ w hn k => ⟨#[], rfl, fun _ => by kernel_rfl, first_c  _⟩) fun _ => rfl) ?_
          refine .o1 (tk rfl rfl fun _ w hn k => ⟨_, v_move rfl (k.eq1 0 113 rfl), rfl⟩) ?_
          refine .o1 (tg rfl rfl rfl (fun _ _ k => k.eq1 1 114 rfl) fun _ w hn k => ⟨_, v_move rfl (k.fx 16 h567), rfl⟩) ?_
          refine .o1 (tk rfl rfl fun _ w hn k => ⟨_, v_pickT rfl (k.eq1 1 114 rfl) (k.eq1 2 115 rfl), rfl⟩) ?_
          refine .o1 (tk rfl rfl fun _ w hn k => ⟨_, v_move rfl (k.eq1 3 116 rfl), rfl⟩) ?_
          refine .o1 (tg rfl rfl rfl (fun _ _ k => k.eq1 4 117 rfl) fun _ w hn k => ⟨_, v_load rfl (k.fx 15 h566) (l_two Tryd.isAgg23 Tryd.sizeOf23 (hb551.new_ hn)), rfl⟩) ?_
          refine .o1 (tg rfl rfl rfl (fun _ _ k => k.eq1 4 117 rfl) fun _ w hn k => ⟨_, v_load rfl (k.fx 2 h562) (l_two Tryd.isAgg23 Tryd.sizeOf23 (hb556.new_ hn)), rfl⟩) ?_
          refine .o1 (cg rfl rfl rfl (fun _ _ k => k.eq1 4 117 rfl) rfl (fun _ w hn k => ⟨#[nv (readM a), nv a], args2 (k.eq1 5 118 rfl) (k.eq1 6 119 rfl), fun _ => by kernel_rfl, same_c (readM a) a _⟩) fun _ => congrArg Value.bool ht568) ?_
          refine .o1 (tg rfl rfl rfl (fun _ _ k => k.eq1 4 117 rfl) fun _ w hn k => ⟨_, v_move rfl (k.eq1 7 120 rfl), rfl⟩) ?_
          refine .o1 (sk rfl rfl rfl (fun _ _ _ k => k.eq1 8 121 rfl) (fun _ => rfl)) ?_
          refine .o1 (sk rfl rfl rfl (fun _ _ _ k => k.eq1 8 121 rfl) (fun _ => rfl)) ?_
          refine .o1 (sk rfl rfl rfl (fun _ _ _ k => k.eq1 8 121 rfl) (fun _ => rfl)) ?_
          refine .o1 (sk rfl rfl rfl (fun _ _ _ k => k.eq1 8 121 rfl) (fun _ => rfl)) ?_
          refine .o1 (su rfl rfl rfl (fun _ _ _ k => k.eq1 12 125 rfl) (fun _ => rfl)) ?_
          refine .o1 (su rfl rfl rfl (fun _ _ _ k => k.eq1 12 125 rfl) (fun _ => rfl)) ?_
          refine .o1 (su rfl rfl rfl (fun _ _ _ k => k.eq1 12 125 rfl) (fun _ => rfl)) ?_
          refine .o1 (sk rfl rfl rfl (fun _ _ _ k => k.eq1 8 121 rfl) (fun _ => rfl)) ?_
          refine .o1 (tg rfl rfl rfl (fun _ _ k => k.eq1 4 117 rfl) fun _ w hn k => ⟨_, v_pickT rfl (k.eq1 8 121 rfl) rfl, rfl⟩) ?_
          refine .o1 (tk rfl rfl fun _ w hn k => ⟨_, v_pickT rfl (k.eq1 4 117 rfl) (k.eq1 17 130 rfl), rfl⟩) ?_
          refine .o1 (tk rfl rfl fun _ w hn k => ⟨_, v_assign rfl (k.eq1 18 131 rfl), rfl⟩) ?_
          exact .nil
        intro a569 w570 hn571 ha572
        have hs573 := ha572.size.trans hs560
        have hd574 := ha572.defers.trans hd561
        have h575 := ha572.ge 19 4 rfl
        have hN576 := hN557.transNew hn571
        clear hs560 hd561 h562 h563 h566 h567 hb556 hq16 hb551 hq547 hN557 ha572 hn571
        refine st_nil ?_
        refine hK _ _ ?_
        clear hK K
        refine wp_ret (ret_k hd574 (v := .bool true) (res_t rfl h575 _) ?_)
        exact ⟨rfl, hN576⟩
      have ht577 : (decide (a.k = 1)) = true := (read_same ht568).1
      have ht577d := of_decide_eq_true ht577
      refine wp_g0 [true, true, true, true, true, true, true, true, true, true, true, true, true, true, true, true, true, true, true, true] [] 132
        [ve (.bool true),
         ve (.bool true),
         ve (.bool true),
         ve (.bool true),
         ve (.bool true),
         ve (nv (readM a)),
         ve (nv a),
         ve (.bool false),
         ve (.bool false),
         ve (pv q8),
         ve (iv a.k),
         ve (.bool true),
         ve (.bool true),
         ve (nv (readM a)),
         ve (nv a),
         ve (.bool (equalM (readM a) a)),
         ve (.bool (equalM (readM a) a)),
         ve (.bool (equalM (readM a) a)),
         ve (.bool (equalM (readM a) a)),
         ve (.bool (equalM (readM a) a))] hs560 (.eq (.eq (.eq (.eq (.eq (.eq (.eq (.eq (.eq (.eq (.eq (.eq (.eq (.eq (.eq (.eq (.eq (.eq (.eq (.eq (.nil))))))))))))))))))))) ?_ ?_
      · skip
        refine .o1 (ck rfl rfl rfl (fun _ w hn k => ⟨#[], rfl, fun _ => by kernel_rfl, first_c  _⟩) fun _ => rfl) ?_
        refine .o1 (tk rfl rfl fun _ w hn k => ⟨_, v_move rfl (k.eq1 0 113 rfl), rfl⟩) ?_
        refine .o1 (tg rfl rfl rfl (fun _ _ k => k.eq1 1 114 rfl) fun _ w hn k => ⟨_, v_move rfl (k.fx 16 h567), rfl⟩) ?_
        refine .o1 (tk rfl rfl fun _ w hn k => ⟨_, v_pickT rfl (k.eq1 1 114 rfl) (k.eq1 2 115 rfl), rfl⟩) ?_
        refine .o1 (tk rfl rfl fun _ w hn k => ⟨_, v_move rfl (k.eq1 3 116 rfl), rfl⟩) ?_
        refine .o1 (tg rfl rfl rfl (fun _ _ k => k.eq1 4 117 rfl) fun _ w hn k => ⟨_, v_load rfl (k.fx 15 h566) (l_two Tryd.isAgg23 Tryd.sizeOf23 (hb551.new_ hn)), rfl⟩) ?_
        refine .o1 (tg rfl rfl rfl (fun _ _ k => k.eq1 4 117 rfl) fun _ w hn k => ⟨_, v_load rfl (k.fx 2 h562) (l_two Tryd.isAgg23 Tryd.sizeOf23 (hb556.new_ hn)), rfl⟩) ?_
        refine .o1 (cg rfl rfl rfl (fun _ _ k => k.eq1 4 117 rfl) rfl (fun _ w hn k => ⟨#[nv (readM a), nv a], args2 (k.eq1 5 118 rfl) (k.eq1 6 119 rfl), fun _ => by kernel_rfl, same_c (readM a) a _⟩) fun _ => congrArg Value.bool ht568) ?_
        refine .o1 (tg rfl rfl rfl (fun _ _ k => k.eq1 4 117 rfl) fun _ w hn k => ⟨_, v_move rfl (k.eq1 7 120 rfl), rfl⟩) ?_
        refine .o1 (tg rfl rfl rfl (fun _ _ k => k.eq1 8 121 rfl) fun _ w hn k => ⟨_, v_field rfl (k.fx 2 h562) (fun w => rfl), rfl⟩) ?_
        refine .o1 (tg rfl rfl rfl (fun _ _ k => k.eq1 8 121 rfl) fun _ w hn k => ⟨_, v_load rfl (k.eq1 9 122 rfl) (l_one Tryd.isAgg3 ((hb556.new_ hn).cell 0)), rfl⟩) ?_
        refine .o1 (tg rfl rfl rfl (fun _ _ k => k.eq1 8 121 rfl) fun _ w hn k => ⟨_, v_bin rfl (k.eq1 10 123 rfl) rfl (fun _ => rfl) (r_eql ht577), rfl⟩) ?_
        refine .o1 (tg rfl rfl rfl (fun _ _ k => k.eq1 8 121 rfl) fun _ w hn k => ⟨_, v_move rfl (k.eq1 11 124 rfl), rfl⟩) ?_
        refine .o1 (tg rfl rfl rfl (fun _ _ k => k.eq1 12 125 rfl) fun _ w hn k => ⟨_, v_load rfl (k.fx 15 h566) (l_two Tryd.isAgg23 Tryd.sizeOf23 (hb551.new_ hn)), rfl⟩) ?_
        refine .o1 (tg rfl rfl rfl (fun _ _ k => k.eq1 12 125 rfl) fun _ w hn k => ⟨_, v_load rfl (k.fx 2 h562) (l_two Tryd.isAgg23 Tryd.sizeOf23 (hb556.new_ hn)), rfl⟩) ?_
        refine .o1 (cg rfl rfl rfl (fun _ _ k => k.eq1 12 125 rfl) rfl (fun _ w hn k => ⟨#[nv (readM a), nv a], args2 (k.eq1 13 126 rfl) (k.eq1 14 127 rfl), fun _ => by kernel_rfl, equal_c (readM a) a _⟩) fun _ => rfl) ?_
        refine .o1 (tg rfl rfl rfl (fun _ _ k => k.eq1 8 121 rfl) fun _ w hn k => ⟨_, v_pickT rfl (k.eq1 12 125 rfl) (k.eq1 15 128 rfl), rfl⟩) ?_
        refine .o1 (tg rfl rfl rfl (fun _ _ k => k.eq1 4 117 rfl) fun _ w hn k => ⟨_, v_pickF rfl (k.eq1 8 121 rfl) (k.eq1 16 129 rfl), rfl⟩) ?_
        refine .o1 (tk rfl rfl fun _ w hn k => ⟨_, v_pickT rfl (k.eq1 4 117 rfl) (k.eq1 17 130 rfl), rfl⟩) ?_
        refine .o1 (tk rfl rfl fun _ w hn k => ⟨_, v_assign rfl (k.eq1 18 131 rfl), rfl⟩) ?_
        exact .nil
      intro a578 w579 hn580 ha581
      have hs582 := ha581.size.trans hs560
      have hd583 := ha581.defers.trans hd561
      have h584 := ha581.ge 19 4 rfl
      have hN585 := hN557.transNew hn580
      clear hs560 hd561 h562 h563 h566 h567 hb556 hq16 hb551 hq547 hN557 ha581 hn580
      refine st_nil ?_
      refine hK _ _ ?_
      clear hK K
      refine wp_ret (ret_k hd583 (v := .bool (equalM (readM a) a)) (res_t rfl h584 _) ?_)
      exact ⟨congrArg (fun b => Ending.returned (.bool b)) ((read_same ht568).2), hN585⟩
    refine wp_g0 [true, true, true, true, true, true, true, true, true, true, true, true, true, true, true, true, true, true, true] [] 132
      [ve (nv a),
       ve (.bool true),
       ve (.bool true),
       ve (nv b),
       ve (.bool false),
       ve (.bool false),
       ve (.bool false),
       ve undef,
       ve undef,
       ve undef,
       ve (.bool false),
       ve (.bool false),
       ve undef,
       ve undef,
       ve undef,
       ve (.bool false),
       ve (.bool false),
       ve undef,
       ve (.bool false)] hs251 (.eq (.eq (.eq (.eq (.eq (.eq (.eq (.eq (.eq (.eq (.eq (.eq (.eq (.eq (.eq (.eq (.eq (.eq (.eq (.nil)))))))))))))))))))) ?_ ?_
    · skip
      refine .o1 (tk rfl rfl fun _ w hn k => ⟨_, v_load rfl (k.fx 2 h253) (l_two Tryd.isAgg23 Tryd.sizeOf23 (hb259.new_ hn)), rfl⟩) ?_
      refine .o1 (ck rfl rfl rfl (fun _ w hn k => ⟨#[nv a], args1 (k.eq1 0 74 rfl), fun _ => by kernel_rfl, may_c a _⟩) fun _ => congrArg Value.bool ht263) ?_
      refine .o1 (tk rfl rfl fun _ w hn k => ⟨_, v_move rfl (k.eq1 1 75 rfl), rfl⟩) ?_
      refine .o1 (tg rfl rfl rfl (fun _ _ k => k.eq1 2 76 rfl) fun _ w hn k => ⟨_, v_load rfl (k.fx 3 h254) (l_two Tryd.isAgg23 Tryd.sizeOf23 (hb260.new_ hn)), rfl⟩) ?_
      refine .o1 (cg rfl rfl rfl (fun _ _ k => k.eq1 2 76 rfl) rfl (fun _ w hn k => ⟨#[nv b], args1 (k.eq1 3 77 rfl), fun _ => by kernel_rfl, may_c b _⟩) fun _ => congrArg Value.bool ht264) ?_
      refine .o1 (tk rfl rfl fun _ w hn k => ⟨_, v_pickT rfl (k.eq1 2 76 rfl) (k.eq1 4 78 rfl), rfl⟩) ?_
      refine .o1 (tk rfl rfl fun _ w hn k => ⟨_, v_move rfl (k.eq1 5 79 rfl), rfl⟩) ?_
      refine .o1 (sk rfl rfl rfl (fun _ _ _ k => k.eq1 6 80 rfl) (fun _ => rfl)) ?_
      refine .o1 (sk rfl rfl rfl (fun _ _ _ k => k.eq1 6 80 rfl) (fun _ => rfl)) ?_
      refine .o1 (sk rfl rfl rfl (fun _ _ _ k => k.eq1 6 80 rfl) (fun _ => rfl)) ?_
      refine .o1 (tk rfl rfl fun _ w hn k => ⟨_, v_pickF rfl (k.eq1 6 80 rfl) rfl, rfl⟩) ?_
      refine .o1 (tk rfl rfl fun _ w hn k => ⟨_, v_move rfl (k.eq1 10 84 rfl), rfl⟩) ?_
      refine .o1 (sk rfl rfl rfl (fun _ _ _ k => k.eq1 11 85 rfl) (fun _ => rfl)) ?_
      refine .o1 (sk rfl rfl rfl (fun _ _ _ k => k.eq1 11 85 rfl) (fun _ => rfl)) ?_
      refine .o1 (sk rfl rfl rfl (fun _ _ _ k => k.eq1 11 85 rfl) (fun _ => rfl)) ?_
      refine .o1 (tk rfl rfl fun _ w hn k => ⟨_, v_pickF rfl (k.eq1 11 85 rfl) rfl, rfl⟩) ?_
      refine .o1 (tk rfl rfl fun _ w hn k => ⟨_, v_move rfl (k.eq1 15 89 rfl), rfl⟩) ?_
      refine .o1 (sk rfl rfl rfl (fun _ _ _ k => k.eq1 16 90 rfl) (fun _ => rfl)) ?_
      refine .o1 (tk rfl rfl fun _ w hn k => ⟨_, v_pickF rfl (k.eq1 16 90 rfl) rfl, rfl⟩) ?_
      exact .nil
    intro a586 w587 hn588 ha589
    have hs590 := ha589.size.trans hs251
    have hd591 := ha589.defers.trans hd252
    have h592 := ha589.fx 2 h253
    have h593 := ha589.fx 3 h254
    have h594 := ha589.fx 4 h255
    have h595 := ha589.fx 5 h256
    have h596 := ha589.ge 18 92 rfl
    have hb597 := hb259.new_ hn588
    have hb598 := hb260.new_ hn588
    have hb599 := hb261.new_ hn588
    have hN600 := hN262.transNew hn588
    clear hs251 hd252 h253 h254 h255 h256 h257 h258 hb259 hb260 hb261 hN262 ha589 hn588
    refine st_nil ?_
    refine hK _ _ ?_
    clear hK K
    refine wp_cond_false h596 ?_
    refine wp_skip ?_
    refine hK _ _ ?_
    clear hK K
    refine wp_seq_k fun K hK => ?_
    refine wp_g [true, true, true, true, true, true, true, false, false] [5] [(7, false), (8, true)] 132
      [ve (nv a),
       ve (.string (textM a)),
       ve (.tuple #[nv (readM a), .bool true]),
       ve (.tuple #[nv (readM a), .bool true]),
       ve (nv (readM a)),
       ve (.bool true),
       IsNew w587 23 [iv 0, iv 0],
       vt,
       vt]
      [6] (newsCons (fun v w h => IsNew.old h) newsNil) hs590 (.eq (.eq (.eq (.eq (.eq (.eq (.nw (.tt (.tt (.nil)))))))))) ?_ ?_ ?_
    · skip
      refine .o1 (tk rfl rfl fun _ w hn k => ⟨_, v_load rfl (k.fx 2 h592) (l_two Tryd.isAgg23 Tryd.sizeOf23 (hb597.new_ hn)), rfl⟩) ?_
      refine .o1 (ck rfl rfl rfl (fun _ w hn k => ⟨#[nv a], args1 (k.eq1 0 108 rfl), fun _ => by kernel_rfl, textW_c HT a (hN600.transNew hn)⟩) fun _ => rfl) ?_
      refine .o1 (ck rfl rfl rfl (fun _ w hn k => ⟨#[.string (textM a)], args1 (k.eq1 1 109 rfl), fun _ => by kernel_rfl, parseW_c HT a (hN600.transNew hn)⟩) fun _ => rfl) ?_
      refine .o1 (tk rfl rfl fun _ w hn k => ⟨_, v_move rfl (k.eq1 2 110 rfl), rfl⟩) ?_
      refine .o1 (tk rfl rfl fun _ w hn k => ⟨_, v_extract rfl (k.eq1 3 107 rfl) rfl, rfl⟩) ?_
      refine .o3 ?_
      refine .o2 (step_allocN (cs := [iv 0, iv 0]) (t := 23) rfl (noG rfl) (fun _ w hn k => rfl) (fun q _ hq hb => ⟨q, rfl, hq, hb⟩)) ?_
      refine .off ?_
      refine .off ?_
      exact .nil
    · skip
      intro i h
      simp only [List.contains_eq_mem, List.mem_cons, List.not_mem_nil, or_false, decide_eq_true_eq] at h
      subst h
      · exact eager_take rfl rfl fun _ w hn k => ⟨.bool true, fun w => v_extract rfl (k.eq1 3 107 rfl) rfl, rfl⟩
    intro a601 w602 hn603 ha604
    have hs605 := ha604.size.trans hs590
    have hd606 := ha604.defers.trans hd591
    have h607 := ha604.fx 2 h592
    have h608 := ha604.fx 4 h594
    have h609 := ha604.ge 4 111 rfl
    have h610 := ha604.ge 5 112 rfl
    obtain ⟨q612, h611, hq613, hb614⟩ : IsNew _ _ _ _ _ := ha604.got 6 15 rfl (by kernel_rfl)
    have hb615 := hb597.new_ hn603
    have hne616 : q8 ≠ q612 := by have h1 := hb597.lt; have h2 := hq613; omega
    have hq617 := Nat.le_trans hN600.size hq613
    have hN618 := hN600.transNew hn603
    clear hs590 hd591 h592 h593 h594 h595 h596 hb597 hb598 hq17 hb599 hq51 hq613 hN600 ha604 hn603
    obtain ⟨w619, -, hst620, hb621, hu622, hf623⟩ := s_two (v0 := iv ((readM a).k)) (v1 := iv ((readM a).n)) Tryd.sizeOf23 rfl rfl rfl hb614
    refine st_act rfl rfl fun K624 hL625 => a_store' rfl h611 h609 hst620 (hL625 _ _ trivial ?_)
    have hb626 := hf623 _ _ _ (hne616) hb615
    have hN627 := hN618.trans hu622 (fun k hk hkb => by subst hkb; omega)
    clear hb614 hst620 K624 hL625 hN618 hb615 hu622 hf623
    refine st_take rfl rfl (y_assign (v := .bool true) rfl h610) rfl ?_
    obtain ⟨a628, ha629⟩ : ∃ a', a' = a601.put (some 16) (.bool true) := ⟨_, rfl⟩
    have hs630 : a628.tmps.size = 132 := by rw [ha629, put_size]; exact hs605
    have hd631 : a628.defers = [] := by rw [ha629, put_defers]; exact hd606
    have h632 : a628.eval (.tmp 2) = pv q8 := by rw [ha629, put_ne _ _ _ _ (by decide)]; exact h607
    have h633 : a628.eval (.tmp 4) = .bool false := by rw [ha629, put_ne _ _ _ _ (by decide)]; exact h608
    have h634 : a628.eval (.tmp 111) = nv (readM a) := by rw [ha629, put_ne _ _ _ _ (by decide)]; exact h609
    have h635 : a628.eval (.tmp 112) = .bool true := by rw [ha629, put_ne _ _ _ _ (by decide)]; exact h610
    have h636 : a628.eval (.tmp 15) = pv q612 := by rw [ha629, put_ne _ _ _ _ (by decide)]; exact h611
    have h637 : a628.eval (.tmp 16) = .bool true := by rw [ha629]; exact put_same _ _ _ (by rw [hs605]; decide)
    show stepsTo _ _ _ _ _ (a601.put (some 16) (.bool true)) _
    rw [← ha629]
    clear ha629 hs605 hd606 h607 h608 h609 h610 h611
    clear hne616
    refine st_nil ?_
    clear h634 h635
    refine hK _ _ ?_
    clear hK K
    refine wp_seq_k fun K hK => ?_
    rcases Bool.eq_false_or_eq_true (sameM (readM a) a) with ht638 | ht638
    · skip
      refine wp_g0 [true, true, true, true, true, true, true, true, true, true, true, true, true, true, true, true, true, true, true, true] [] 132
        [ve (.bool true),
         ve (.bool true),
         ve (.bool true),
         ve (.bool true),
         ve (.bool true),
         ve (nv (readM a)),
         ve (nv a),
         ve (.bool true),
         ve (.bool true),
         ve undef,
         ve undef,
         ve undef,
         ve undef,
         ve undef,
         ve undef,
         ve undef,
         ve undef,
         ve (.bool true),
         ve (.bool true),
         ve (.bool true)] hs630 (.eq (.eq (.eq (.eq (.eq (.eq (.eq (.eq (.eq (.eq (.eq (.eq (.eq (.eq (.eq (.eq (.eq (.eq (.eq (.eq (.nil))))))))))))))))))))) ?_ ?_
      · skip
        refine .o1 (ck rfl rfl rfl (fun _ w hn k => ⟨#[], rfl, fun _ => by kernel_rfl, first_c  _⟩) fun _ => rfl) ?_
        refine .o1 (tk rfl rfl fun _ w hn k => ⟨_, v_move rfl (k.eq1 0 113 rfl), rfl⟩) ?_
        refine .o1 (tg rfl rfl rfl (fun _ _ k => k.eq1 1 114 rfl) fun _ w hn k => ⟨_, v_move rfl (k.fx 16 h637), rfl⟩) ?_
        refine .o1 (tk rfl rfl fun _ w hn k => ⟨_, v_pickT rfl (k.eq1 1 114 rfl) (k.eq1 2 115 rfl), rfl⟩) ?_
        refine .o1 (tk rfl rfl fun _ w hn k => ⟨_, v_move rfl (k.eq1 3 116 rfl), rfl⟩) ?_
        refine .o1 (tg rfl rfl rfl (fun _ _ k => k.eq1 4 117 rfl) fun _ w hn k => ⟨_, v_load rfl (k.fx 15 h636) (l_two Tryd.isAgg23 Tryd.sizeOf23 (hb621.new_ hn)), rfl⟩) ?_
        refine .o1 (tg rfl rfl rfl (fun _ _ k => k.eq1 4 117 rfl) fun _ w hn k => ⟨_, v_load rfl (k.fx 2 h632) (l_two Tryd.isAgg23 Tryd.sizeOf23 (hb626.new_ hn)), rfl⟩) ?_
        refine .o1 (cg rfl rfl rfl (fun _ _ k => k.eq1 4 117 rfl) rfl (fun _ w hn k => ⟨#[nv (readM a), nv a], args2 (k.eq1 5 118 rfl) (k.eq1 6 119 rfl), fun _ => by kernel_rfl, same_c (readM a) a _⟩) fun _ => congrArg Value.bool ht638) ?_
        refine .o1 (tg rfl rfl rfl (fun _ _ k => k.eq1 4 117 rfl) fun _ w hn k => ⟨_, v_move rfl (k.eq1 7 120 rfl), rfl⟩) ?_
        refine .o1 (sk rfl rfl rfl (fun _ _ _ k => k.eq1 8 121 rfl) (fun _ => rfl)) ?_
        refine .o1 (sk rfl rfl rfl (fun _ _ _ k => k.eq1 8 121 rfl) (fun _ => rfl)) ?_
        refine .o1 (sk rfl rfl rfl (fun _ _ _ k => k.eq1 8 121 rfl) (fun _ => rfl)) ?_
        refine .o1 (sk rfl rfl rfl (fun _ _ _ k => k.eq1 8 121 rfl) (fun _ => rfl)) ?_
        refine .o1 (su rfl rfl rfl (fun _ _ _ k => k.eq1 12 125 rfl) (fun _ => rfl)) ?_
        refine .o1 (su rfl rfl rfl (fun _ _ _ k => k.eq1 12 125 rfl) (fun _ => rfl)) ?_
        refine .o1 (su rfl rfl rfl (fun _ _ _ k => k.eq1 12 125 rfl) (fun _ => rfl)) ?_
        refine .o1 (sk rfl rfl rfl (fun _ _ _ k => k.eq1 8 121 rfl) (fun _ => rfl)) ?_
        refine .o1 (tg rfl rfl rfl (fun _ _ k => k.eq1 4 117 rfl) fun _ w hn k => ⟨_, v_pickT rfl (k.eq1 8 121 rfl) rfl, rfl⟩) ?_
        refine .o1 (tk rfl rfl fun _ w hn k => ⟨_, v_pickT rfl (k.eq1 4 117 rfl) (k.eq1 17 130 rfl), rfl⟩) ?_
        refine .o1 (tk rfl rfl fun _ w hn k => ⟨_, v_assign rfl (k.eq1 18 131 rfl), rfl⟩) ?_
        exact .nil
      intro a639 w640 hn641 ha642
      have hs643 := ha642.size.trans hs630
      have hd644 := ha642.defers.trans hd631
      have h645 := ha642.ge 19 4 rfl
      have hN646 := hN627.transNew hn641
      clear hs630 hd631 h632 h633 h636 h637 hb626 hq16 hb621 hq617 hN627 ha642 hn641
      refine st_nil ?_
      refine hK _ _ ?_
      clear hK K
      refine wp_ret (ret_k hd644 (v := .bool true) (res_t rfl h645 _) ?_)
      exact ⟨rfl, hN646⟩
    have ht647 : (decide (a.k = 1)) = true := (read_same ht638).1
    have ht647d := of_decide_eq_true ht647
    refine wp_g0 [true, true, true, true, true, true, true, true, true, true, true, true, true, true, true, true, true, true, true, true] [] 132
      [ve (.bool true),
       ve (.bool true),
       ve (.bool true),
       ve (.bool true),
       ve (.bool true),
       ve (nv (readM a)),
       ve (nv a),
       ve (.bool false),
       ve (.bool false),
       ve (pv q8),
       ve (iv a.k),
       ve (.bool true),
       ve (.bool true),
       ve (nv (readM a)),
       ve (nv a),
       ve (.bool (equalM (readM a) a)),
       ve (.bool (equalM (readM a) a)),
       ve (.bool (equalM (readM a) a)),
       ve (.bool (equalM (readM a) a)),
       ve (.bool (equalM (readM a) a))] hs630 (.eq (.eq (.eq (.eq (.eq (.eq (.eq (.eq (.eq (.eq (.eq (.eq (.eq (.eq (.eq (.eq (.eq (.eq (.eq (.eq (.nil))))))))))))))))))))) ?_ ?_
    · skip
      refine .o1 (ck rfl rfl rfl (fun _ w hn k => ⟨#[], rfl, fun _ => by kernel_rfl, first_c  _⟩) fun _ => rfl) ?_
      refine .o1 (tk rfl rfl fun _ w hn k => ⟨_, v_move rfl (k.eq1 0 113 rfl), rfl⟩) ?_
      refine .o1 (tg rfl rfl rfl (fun _ _ k => k.eq1 1 114 rfl) fun _ w hn k => ⟨_, v_move rfl (k.fx 16 h637), rfl⟩) ?_
      refine .o1 (tk rfl rfl fun _ w hn k => ⟨_, v_pickT rfl (k.eq1 1 114 rfl) (k.eq1 2 115 rfl), rfl⟩) ?_
      refine .o1 (tk rfl rfl fun _ w hn k => ⟨_, v_move rfl (k.eq1 3 116 rfl), rfl⟩) ?_
      refine .o1 (tg rfl rfl rfl (fun _ _ k => k.eq1 4 117 rfl) fun _ w hn k => ⟨_, v_load rfl (k.fx 15 h636) (l_two Tryd.isAgg23 Tryd.sizeOf23 (hb621.new_ hn)), rfl⟩) ?_
      refine .o1 (tg rfl rfl rfl (fun _ _ k => k.eq1 4 117 rfl) fun _ w hn k => ⟨_, v_load rfl (k.fx 2 h632) (l_two Tryd.isAgg23 Tryd.sizeOf23 (hb626.new_ hn)), rfl⟩) ?_
      refine .o1 (cg rfl rfl rfl (fun _ _ k => k.eq1 4 117 rfl) rfl (fun _ w hn k => ⟨#[nv (readM a), nv a], args2 (k.eq1 5 118 rfl) (k.eq1 6 119 rfl), fun _ => by kernel_rfl, same_c (readM a) a _⟩) fun _ => congrArg Value.bool ht638) ?_
      refine .o1 (tg rfl rfl rfl (fun _ _ k => k.eq1 4 117 rfl) fun _ w hn k => ⟨_, v_move rfl (k.eq1 7 120 rfl), rfl⟩) ?_
      refine .o1 (tg rfl rfl rfl (fun _ _ k => k.eq1 8 121 rfl) fun _ w hn k => ⟨_, v_field rfl (k.fx 2 h632) (fun w => rfl), rfl⟩) ?_
      refine .o1 (tg rfl rfl rfl (fun _ _ k => k.eq1 8 121 rfl) fun _ w hn k => ⟨_, v_load rfl (k.eq1 9 122 rfl) (l_one Tryd.isAgg3 ((hb626.new_ hn).cell 0)), rfl⟩) ?_
      refine .o1 (tg rfl rfl rfl (fun _ _ k => k.eq1 8 121 rfl) fun _ w hn k => ⟨_, v_bin rfl (k.eq1 10 123 rfl) rfl (fun _ => rfl) (r_eql ht647), rfl⟩) ?_
      refine .o1 (tg rfl rfl rfl (fun _ _ k => k.eq1 8 121 rfl) fun _ w hn k => ⟨_, v_move rfl (k.eq1 11 124 rfl), rfl⟩) ?_
      refine .o1 (tg rfl rfl rfl (fun _ _ k => k.eq1 12 125 rfl) fun _ w hn k => ⟨_, v_load rfl (k.fx 15 h636) (l_two Tryd.isAgg23 Tryd.sizeOf23 (hb621.new_ hn)), rfl⟩) ?_
      refine .o1 (tg rfl rfl rfl (fun _ _ k => k.eq1 12 125 rfl) fun _ w hn k => ⟨_, v_load rfl (k.fx 2 h632) (l_two Tryd.isAgg23 Tryd.sizeOf23 (hb626.new_ hn)), rfl⟩) ?_
      refine .o1 (cg rfl rfl rfl (fun _ _ k => k.eq1 12 125 rfl) rfl (fun _ w hn k => ⟨#[nv (readM a), nv a], args2 (k.eq1 13 126 rfl) (k.eq1 14 127 rfl), fun _ => by kernel_rfl, equal_c (readM a) a _⟩) fun _ => rfl) ?_
      refine .o1 (tg rfl rfl rfl (fun _ _ k => k.eq1 8 121 rfl) fun _ w hn k => ⟨_, v_pickT rfl (k.eq1 12 125 rfl) (k.eq1 15 128 rfl), rfl⟩) ?_
      refine .o1 (tg rfl rfl rfl (fun _ _ k => k.eq1 4 117 rfl) fun _ w hn k => ⟨_, v_pickF rfl (k.eq1 8 121 rfl) (k.eq1 16 129 rfl), rfl⟩) ?_
      refine .o1 (tk rfl rfl fun _ w hn k => ⟨_, v_pickT rfl (k.eq1 4 117 rfl) (k.eq1 17 130 rfl), rfl⟩) ?_
      refine .o1 (tk rfl rfl fun _ w hn k => ⟨_, v_assign rfl (k.eq1 18 131 rfl), rfl⟩) ?_
      exact .nil
    intro a648 w649 hn650 ha651
    have hs652 := ha651.size.trans hs630
    have hd653 := ha651.defers.trans hd631
    have h654 := ha651.ge 19 4 rfl
    have hN655 := hN627.transNew hn650
    clear hs630 hd631 h632 h633 h636 h637 hb626 hq16 hb621 hq617 hN627 ha651 hn650
    refine st_nil ?_
    refine hK _ _ ?_
    clear hK K
    refine wp_ret (ret_k hd653 (v := .bool (equalM (readM a) a)) (res_t rfl h654 _) ?_)
    exact ⟨congrArg (fun b => Ending.returned (.bool b)) ((read_same ht638).2), hN655⟩
  refine wp_g0 [true, true, true, true, true, true, true, true, true, true, true, true, true, true, true, true, true, true, true] [] 132
    [ve (nv a),
     ve (.bool false),
     ve (.bool false),
     ve undef,
     ve undef,
     ve (.bool false),
     ve (.bool false),
     ve undef,
     ve undef,
     ve undef,
     ve (.bool false),
     ve (.bool false),
     ve undef,
     ve undef,
     ve undef,
     ve (.bool false),
     ve (.bool false),
     ve undef,
     ve (.bool false)] hs251 (.eq (.eq (.eq (.eq (.eq (.eq (.eq (.eq (.eq (.eq (.eq (.eq (.eq (.eq (.eq (.eq (.eq (.eq (.eq (.nil)))))))))))))))))))) ?_ ?_
  · skip
    refine .o1 (tk rfl rfl fun _ w hn k => ⟨_, v_load rfl (k.fx 2 h253) (l_two Tryd.isAgg23 Tryd.sizeOf23 (hb259.new_ hn)), rfl⟩) ?_
    refine .o1 (ck rfl rfl rfl (fun _ w hn k => ⟨#[nv a], args1 (k.eq1 0 74 rfl), fun _ => by kernel_rfl, may_c a _⟩) fun _ => congrArg Value.bool ht263) ?_
    refine .o1 (tk rfl rfl fun _ w hn k => ⟨_, v_move rfl (k.eq1 1 75 rfl), rfl⟩) ?_
    refine .o1 (sk rfl rfl rfl (fun _ _ _ k => k.eq1 2 76 rfl) (fun _ => rfl)) ?_
    refine .o1 (sk rfl rfl rfl (fun _ _ _ k => k.eq1 2 76 rfl) (fun _ => rfl)) ?_
    refine .o1 (tk rfl rfl fun _ w hn k => ⟨_, v_pickF rfl (k.eq1 2 76 rfl) rfl, rfl⟩) ?_
    refine .o1 (tk rfl rfl fun _ w hn k => ⟨_, v_move rfl (k.eq1 5 79 rfl), rfl⟩) ?_
    refine .o1 (sk rfl rfl rfl (fun _ _ _ k => k.eq1 6 80 rfl) (fun _ => rfl)) ?_
    refine .o1 (sk rfl rfl rfl (fun _ _ _ k => k.eq1 6 80 rfl) (fun _ => rfl)) ?_
    refine .o1 (sk rfl rfl rfl (fun _ _ _ k => k.eq1 6 80 rfl) (fun _ => rfl)) ?_
    refine .o1 (tk rfl rfl fun _ w hn k => ⟨_, v_pickF rfl (k.eq1 6 80 rfl) rfl, rfl⟩) ?_
    refine .o1 (tk rfl rfl fun _ w hn k => ⟨_, v_move rfl (k.eq1 10 84 rfl), rfl⟩) ?_
    refine .o1 (sk rfl rfl rfl (fun _ _ _ k => k.eq1 11 85 rfl) (fun _ => rfl)) ?_
    refine .o1 (sk rfl rfl rfl (fun _ _ _ k => k.eq1 11 85 rfl) (fun _ => rfl)) ?_
    refine .o1 (sk rfl rfl rfl (fun _ _ _ k => k.eq1 11 85 rfl) (fun _ => rfl)) ?_
    refine .o1 (tk rfl rfl fun _ w hn k => ⟨_, v_pickF rfl (k.eq1 11 85 rfl) rfl, rfl⟩) ?_
    refine .o1 (tk rfl rfl fun _ w hn k => ⟨_, v_move rfl (k.eq1 15 89 rfl), rfl⟩) ?_
    refine .o1 (sk rfl rfl rfl (fun _ _ _ k => k.eq1 16 90 rfl) (fun _ => rfl)) ?_
    refine .o1 (tk rfl rfl fun _ w hn k => ⟨_, v_pickF rfl (k.eq1 16 90 rfl) rfl, rfl⟩) ?_
    exact .nil
  intro a656 w657 hn658 ha659
  have hs660 := ha659.size.trans hs251
  have hd661 := ha659.defers.trans hd252
  have h662 := ha659.fx 2 h253
  have h663 := ha659.fx 3 h254
  have h664 := ha659.fx 4 h255
  have h665 := ha659.fx 5 h256
  have h666 := ha659.ge 18 92 rfl
  have hb667 := hb259.new_ hn658
  have hb668 := hb260.new_ hn658
  have hb669 := hb261.new_ hn658
  have hN670 := hN262.transNew hn658
  clear hs251 hd252 h253 h254 h255 h256 h257 h258 hb259 hb260 hb261 hN262 ha659 hn658
  refine st_nil ?_
  refine hK _ _ ?_
  clear hK K
  refine wp_cond_false h666 ?_
  refine wp_skip ?_
  refine hK _ _ ?_
  clear hK K
  refine wp_seq_k fun K hK => ?_
  refine wp_g [true, true, true, true, true, true, true, false, false] [5] [(7, false), (8, true)] 132
    [ve (nv a),
     ve (.string (textM a)),
     ve (.tuple #[nv (readM a), .bool true]),
     ve (.tuple #[nv (readM a), .bool true]),
     ve (nv (readM a)),
     ve (.bool true),
     IsNew w657 23 [iv 0, iv 0],
     vt,
     vt]
    [6] (newsCons (fun v w h => IsNew.old h) newsNil) hs660 (.eq (.eq (.eq (.eq (.eq (.eq (.nw (.tt (.tt (.nil)))))))))) ?_ ?_ ?_
  · skip
    refine .o1 (tk rfl rfl fun _ w hn k => ⟨_, v_load rfl (k.fx 2 h662) (l_two Tryd.isAgg23 Tryd.sizeOf23 (hb667.new_ hn)), rfl⟩) ?_
    refine .o1 (ck rfl rfl rfl (fun _ w hn k => ⟨#[nv a], args1 (k.eq1 0 108 rfl), fun _ => by kernel_rfl, textW_c HT a (hN670.transNew hn)⟩) fun _ => rfl) ?_
    refine .o1 (ck rfl rfl rfl (fun _ w hn k => ⟨#[.string (textM a)], args1 (k.eq1 1 109 rfl), fun _ => by kernel_rfl, parseW_c HT a (hN670.transNew hn)⟩) fun _ => rfl) ?_
    refine .o1 (tk rfl rfl fun _ w hn k => ⟨_, v_move rfl (k.eq1 2 110 rfl), rfl⟩) ?_
    refine .o1 (tk rfl rfl fun _ w hn k => ⟨_, v_extract rfl (k.eq1 3 107 rfl) rfl, rfl⟩) ?_
    refine .o3 ?_
    refine .o2 (step_allocN (cs := [iv 0, iv 0]) (t := 23) rfl (noG rfl) (fun _ w hn k => rfl) (fun q _ hq hb => ⟨q, rfl, hq, hb⟩)) ?_
    refine .off ?_
    refine .off ?_
    exact .nil
  · skip
    intro i h
    simp only [List.contains_eq_mem, List.mem_cons, List.not_mem_nil, or_false, decide_eq_true_eq] at h
    subst h
    · exact eager_take rfl rfl fun _ w hn k => ⟨.bool true, fun w => v_extract rfl (k.eq1 3 107 rfl) rfl, rfl⟩
  intro a671 w672 hn673 ha674
  have hs675 := ha674.size.trans hs660
  have hd676 := ha674.defers.trans hd661
  have h677 := ha674.fx 2 h662
  have h678 := ha674.fx 4 h664
  have h679 := ha674.ge 4 111 rfl
  have h680 := ha674.ge 5 112 rfl
  obtain ⟨q682, h681, hq683, hb684⟩ : IsNew _ _ _ _ _ := ha674.got 6 15 rfl (by kernel_rfl)
  have hb685 := hb667.new_ hn673
  have hne686 : q8 ≠ q682 := by have h1 := hb667.lt; have h2 := hq683; omega
  have hq687 := Nat.le_trans hN670.size hq683
  have hN688 := hN670.transNew hn673
  clear hs660 hd661 h662 h663 h664 h665 h666 hb667 hb668 hq17 hb669 hq51 hq683 hN670 ha674 hn673
  obtain ⟨w689, -, hst690, hb691, hu692, hf693⟩ := s_two (v0 := iv ((readM a).k)) (v1 := iv ((readM a).n)) Tryd.sizeOf23 rfl rfl rfl hb684
  refine st_act rfl rfl fun K694 hL695 => a_store' rfl h681 h679 hst690 (hL695 _ _ trivial ?_)
  have hb696 := hf693 _ _ _ (hne686) hb685
  have hN697 := hN688.trans hu692 (fun k hk hkb => by subst hkb; omega)
  clear hb684 hst690 K694 hL695 hN688 hb685 hu692 hf693
  refine st_take rfl rfl (y_assign (v := .bool true) rfl h680) rfl ?_
  obtain ⟨a698, ha699⟩ : ∃ a', a' = a671.put (some 16) (.bool true) := ⟨_, rfl⟩
  have hs700 : a698.tmps.size = 132 := by rw [ha699, put_size]; exact hs675
  have hd701 : a698.defers = [] := by rw [ha699, put_defers]; exact hd676
  have h702 : a698.eval (.tmp 2) = pv q8 := by rw [ha699, put_ne _ _ _ _ (by decide)]; exact h677
  have h703 : a698.eval (.tmp 4) = .bool false := by rw [ha699, put_ne _ _ _ _ (by decide)]; exact h678
  have h704 : a698.eval (.tmp 111) = nv (readM a) := by rw [ha699, put_ne _ _ _ _ (by decide)]; exact h679
  have h705 : a698.eval (.tmp 112) = .bool true := by rw [ha699, put_ne _ _ _ _ (by decide)]; exact h680
  have h706 : a698.eval (.tmp 15) = pv q682 := by rw [ha699, put_ne _ _ _ _ (by decide)]; exact h681
  have h707 : a698.eval (.tmp 16) = .bool true := by rw [ha699]; exact put_same _ _ _ (by rw [hs675]; decide)
  show stepsTo _ _ _ _ _ (a671.put (some 16) (.bool true)) _
  rw [← ha699]
  clear ha699 hs675 hd676 h677 h678 h679 h680 h681
  clear hne686
  refine st_nil ?_
  clear h704 h705
  refine hK _ _ ?_
  clear hK K
  refine wp_seq_k fun K hK => ?_
  rcases Bool.eq_false_or_eq_true (sameM (readM a) a) with ht708 | ht708
  · skip
    refine wp_g0 [true, true, true, true, true, true, true, true, true, true, true, true, true, true, true, true, true, true, true, true] [] 132
      [ve (.bool true),
       ve (.bool true),
       ve (.bool true),
       ve (.bool true),
       ve (.bool true),
       ve (nv (readM a)),
       ve (nv a),
       ve (.bool true),
       ve (.bool true),
       ve undef,
       ve undef,
       ve undef,
       ve undef,
       ve undef,
       ve undef,
       ve undef,
       ve undef,
       ve (.bool true),
       ve (.bool true),
       ve (.bool true)] hs700 (.eq (.eq (.eq (.eq (.eq (.eq (.eq (.eq (.eq (.eq (.eq (.eq (.eq (.eq (.eq (.eq (.eq (.eq (.eq (.eq (.nil))))))))))))))))))))) ?_ ?_
    · skip
      refine .o1 (ck rfl rfl rfl (fun _ w hn k => ⟨#[], rfl, fun _ => by kernel_rfl, first_c  _⟩) fun _ => rfl) ?_
      refine .o1 (tk rfl rfl fun _ w hn k => ⟨_, v_move rfl (k.eq1 0 113 rfl), rfl⟩) ?_
      refine .o1 (tg rfl rfl rfl (fun _ _ k => k.eq1 1 114 rfl) fun _ w hn k => ⟨_, v_move rfl (k.fx 16 h707), rfl⟩) ?_
      refine .o1 (tk rfl rfl fun _ w hn k => ⟨_, v_pickT rfl (k.eq1 1 114 rfl) (k.eq1 2 115 rfl), rfl⟩) ?_
      refine .o1 (tk rfl rfl fun _ w hn k => ⟨_, v_move rfl (k.eq1 3 116 rfl), rfl⟩) ?_
      refine .o1 (tg rfl rfl rfl (fun _ _ k => k.eq1 4 117 rfl) fun _ w hn k => ⟨_, v_load rfl (k.fx 15 h706) (l_two Tryd.isAgg23 Tryd.sizeOf23 (hb691.new_ hn)), rfl⟩) ?_
      refine .o1 (tg rfl rfl rfl (fun _ _ k => k.eq1 4 117 rfl) fun _ w hn k => ⟨_, v_load rfl (k.fx 2 h702) (l_two Tryd.isAgg23 Tryd.sizeOf23 (hb696.new_ hn)), rfl⟩) ?_
      refine .o1 (cg rfl rfl rfl (fun _ _ k => k.eq1 4 117 rfl) rfl (fun _ w hn k => ⟨#[nv (readM a), nv a], args2 (k.eq1 5 118 rfl) (k.eq1 6 119 rfl), fun _ => by kernel_rfl, same_c (readM a) a _⟩) fun _ => congrArg Value.bool ht708) ?_
      refine .o1 (tg rfl rfl rfl (fun _ _ k => k.eq1 4 117 rfl) fun _ w hn k => ⟨_, v_move rfl (k.eq1 7 120 rfl), rfl⟩) ?_
      refine .o1 (sk rfl rfl rfl (fun _ _ _ k => k.eq1 8 121 rfl) (fun _ => rfl)) ?_
      refine .o1 (sk rfl rfl rfl (fun _ _ _ k => k.eq1 8 121 rfl) (fun _ => rfl)) ?_
      refine .o1 (sk rfl rfl rfl (fun _ _ _ k => k.eq1 8 121 rfl) (fun _ => rfl)) ?_
      refine .o1 (sk rfl rfl rfl (fun _ _ _ k => k.eq1 8 121 rfl) (fun _ => rfl)) ?_
      refine .o1 (su rfl rfl rfl (fun _ _ _ k => k.eq1 12 125 rfl) (fun _ => rfl)) ?_
      refine .o1 (su rfl rfl rfl (fun _ _ _ k => k.eq1 12 125 rfl) (fun _ => rfl)) ?_
      refine .o1 (su rfl rfl rfl (fun _ _ _ k => k.eq1 12 125 rfl) (fun _ => rfl)) ?_
      refine .o1 (sk rfl rfl rfl (fun _ _ _ k => k.eq1 8 121 rfl) (fun _ => rfl)) ?_
      refine .o1 (tg rfl rfl rfl (fun _ _ k => k.eq1 4 117 rfl) fun _ w hn k => ⟨_, v_pickT rfl (k.eq1 8 121 rfl) rfl, rfl⟩) ?_
      refine .o1 (tk rfl rfl fun _ w hn k => ⟨_, v_pickT rfl (k.eq1 4 117 rfl) (k.eq1 17 130 rfl), rfl⟩) ?_
      refine .o1 (tk rfl rfl fun _ w hn k => ⟨_, v_assign rfl (k.eq1 18 131 rfl), rfl⟩) ?_
      exact .nil
    intro a709 w710 hn711 ha712
    have hs713 := ha712.size.trans hs700
    have hd714 := ha712.defers.trans hd701
    have h715 := ha712.ge 19 4 rfl
    have hN716 := hN697.transNew hn711
    clear hs700 hd701 h702 h703 h706 h707 hb696 hq16 hb691 hq687 hN697 ha712 hn711
    refine st_nil ?_
    refine hK _ _ ?_
    clear hK K
    refine wp_ret (ret_k hd714 (v := .bool true) (res_t rfl h715 _) ?_)
    exact ⟨rfl, hN716⟩
  have ht717 : (decide (a.k = 1)) = true := (read_same ht708).1
  have ht717d := of_decide_eq_true ht717
  refine wp_g0 [true, true, true, true, true, true, true, true, true, true, true, true, true, true, true, true, true, true, true, true] [] 132
    [ve (.bool true),
     ve (.bool true),
     ve (.bool true),
     ve (.bool true),
     ve (.bool true),
     ve (nv (readM a)),
     ve (nv a),
     ve (.bool false),
     ve (.bool false),
     ve (pv q8),
     ve (iv a.k),
     ve (.bool true),
     ve (.bool true),
     ve (nv (readM a)),
     ve (nv a),
     ve (.bool (equalM (readM a) a)),
     ve (.bool (equalM (readM a) a)),
     ve (.bool (equalM (readM a) a)),
     ve (.bool (equalM (readM a) a)),
     ve (.bool (equalM (readM a) a))] hs700 (.eq (.eq (.eq (.eq (.eq (.eq (.eq (.eq (.eq (.eq (.eq (.eq (.eq (.eq (.eq (.eq (.eq (.eq (.eq (.eq (.nil))))))))))))))))))))) ?_ ?_
  · skip
    refine .o1 (ck rfl rfl rfl (fun _ w hn k => ⟨#[], rfl, fun _ => by kernel_rfl, first_c  _⟩) fun _ => rfl) ?_
    refine .o1 (tk rfl rfl fun _ w hn k => ⟨_, v_move rfl (k.eq1 0 113 rfl), rfl⟩) ?_
    refine .o1 (tg rfl rfl rfl (fun _ _ k => k.eq1 1 114 rfl) fun _ w hn k => ⟨_, v_move rfl (k.fx 16 h707), rfl⟩) ?_
    refine .o1 (tk rfl rfl fun _ w hn k => ⟨_, v_pickT rfl (k.eq1 1 114 rfl) (k.eq1 2 115 rfl), rfl⟩) ?_
    refine .o1 (tk rfl rfl fun _ w hn k => ⟨_, v_move rfl (k.eq1 3 116 rfl), rfl⟩) ?_
    refine .o1 (tg rfl rfl rfl (fun _ _ k => k.eq1 4 117 rfl) fun _ w hn k => ⟨_, v_load rfl (k.fx 15 h706) (l_two Tryd.isAgg23 Tryd.sizeOf23 (hb691.new_ hn)), rfl⟩) ?_
    refine .o1 (tg rfl rfl rfl (fun _ _ k => k.eq1 4 117 rfl) fun _ w hn k => ⟨_, v_load rfl (k.fx 2 h702) (l_two Tryd.isAgg23 Tryd.sizeOf23 (hb696.new_ hn)), rfl⟩) ?_
    refine .o1 (cg rfl rfl rfl (fun _ _ k => k.eq1 4 117 rfl) rfl (fun _ w hn k => ⟨#[nv (readM a), nv a], args2 (k.eq1 5 118 rfl) (k.eq1 6 119 rfl), fun _ => by kernel_rfl, same_c (readM a) a _⟩) fun _ => congrArg Value.bool ht708) ?_
    refine .o1 (tg rfl rfl rfl (fun _ _ k => k.eq1 4 117 rfl) fun _ w hn k => ⟨_, v_move rfl (k.eq1 7 120 rfl), rfl⟩) ?_
    refine .o1 (tg rfl rfl rfl (fun _ _ k => k.eq1 8 121 rfl) fun _ w hn k => ⟨_, v_field rfl (k.fx 2 h702) (fun w => rfl), rfl⟩) ?_
    refine .o1 (tg rfl rfl rfl (fun _ _ k => k.eq1 8 121 rfl) fun _ w hn k => ⟨_, v_load rfl (k.eq1 9 122 rfl) (l_one Tryd.isAgg3 ((hb696.new_ hn).cell 0)), rfl⟩) ?_
    refine .o1 (tg rfl rfl rfl (fun _ _ k => k.eq1 8 121 rfl) fun _ w hn k => ⟨_, v_bin rfl (k.eq1 10 123 rfl) rfl (fun _ => rfl) (r_eql ht717), rfl⟩) ?_
    refine .o1 (tg rfl rfl rfl (fun _ _ k => k.eq1 8 121 rfl) fun _ w hn k => ⟨_, v_move rfl (k.eq1 11 124 rfl), rfl⟩) ?_
    refine .o1 (tg rfl rfl rfl (fun _ _ k => k.eq1 12 125 rfl) fun _ w hn k => ⟨_, v_load rfl (k.fx 15 h706) (l_two Tryd.isAgg23 Tryd.sizeOf23 (hb691.new_ hn)), rfl⟩) ?_
    refine .o1 (tg rfl rfl rfl (fun _ _ k => k.eq1 12 125 rfl) fun _ w hn k => ⟨_, v_load rfl (k.fx 2 h702) (l_two Tryd.isAgg23 Tryd.sizeOf23 (hb696.new_ hn)), rfl⟩) ?_
    refine .o1 (cg rfl rfl rfl (fun _ _ k => k.eq1 12 125 rfl) rfl (fun _ w hn k => ⟨#[nv (readM a), nv a], args2 (k.eq1 13 126 rfl) (k.eq1 14 127 rfl), fun _ => by kernel_rfl, equal_c (readM a) a _⟩) fun _ => rfl) ?_
    refine .o1 (tg rfl rfl rfl (fun _ _ k => k.eq1 8 121 rfl) fun _ w hn k => ⟨_, v_pickT rfl (k.eq1 12 125 rfl) (k.eq1 15 128 rfl), rfl⟩) ?_
    refine .o1 (tg rfl rfl rfl (fun _ _ k => k.eq1 4 117 rfl) fun _ w hn k => ⟨_, v_pickF rfl (k.eq1 8 121 rfl) (k.eq1 16 129 rfl), rfl⟩) ?_
    refine .o1 (tk rfl rfl fun _ w hn k => ⟨_, v_pickT rfl (k.eq1 4 117 rfl) (k.eq1 17 130 rfl), rfl⟩) ?_
    refine .o1 (tk rfl rfl fun _ w hn k => ⟨_, v_assign rfl (k.eq1 18 131 rfl), rfl⟩) ?_
    exact .nil
  intro a718 w719 hn720 ha721
  have hs722 := ha721.size.trans hs700
  have hd723 := ha721.defers.trans hd701
  have h724 := ha721.ge 19 4 rfl
  have hN725 := hN697.transNew hn720
  clear hs700 hd701 h702 h703 h706 h707 hb696 hq16 hb691 hq687 hN697 ha721 hn720
  refine st_nil ?_
  refine hK _ _ ?_
  clear hK K
  refine wp_ret (ret_k hd723 (v := .bool (equalM (readM a) a)) (res_t rfl h724 _) ?_)
  exact ⟨congrArg (fun b => Ending.returned (.bool b)) ((read_same ht708).2), hN725⟩
end Go.Proofs.YtldakajmhfdfgaaDoor
