/- NumSigns: the walk -/
import Derived.Test.YtldakajmhfdfgaaDoorNumF
import Derived.Test.YtldakajmhfdfgaaDoorNumMath4
namespace Go.Proofs.YtldakajmhfdfgaaDoor
open Go.RowKit
set_option linter.unusedSimpArgs false
set_option linter.unusedVariables false
set_option maxHeartbeats 8000000 in
set_option maxRecDepth 100000 in
theorem signs_walk (a : Nm) (b : Nm) (w : World) : Calls Tryd.prog 14 #[nv a, nv b] w (IsRet (.bool true) w) := by
  refine enter_abs Tryd.func14 rfl fun a0 hs0 hd0 hp => ?_
  have hs0 : a0.tmps.size = 100 := hs0
  have hN0 : New w w := Upd.refl _ _
  have hp0 : a0.eval (.tmp 0) = nv a := hp 0 _ rfl
  have hp1 : a0.eval (.tmp 1) = nv b := hp 1 _ rfl
  clear hp
  refine wp_seq_k fun K hK => ?_
  refine wp_g [true, true, true] [] [] 100
    [IsNew w 23 [iv a.k, iv a.n],
     IsNew w 23 [iv b.k, iv b.n],
     ve (.bool false)]
    [0, 1] (newsCons (fun v w h => IsNew.old h) (newsCons (fun v w h => IsNew.old h) newsNil)) hs0 (.nw (.nw (.eq (.nil)))) ?_ (fun i h => by cases h) ?_
  · skip
    refine .o2 (step_allocN (cs := [iv a.k, iv a.n]) (t := 23) rfl (noG rfl) (fun _ w hn k => v_box rfl (k.fx 0 hp0) (fun w => rfl)) (fun q _ hq hb => ⟨q, rfl, hq, hb⟩)) ?_
    refine .o2 (step_allocN (cs := [iv b.k, iv b.n]) (t := 23) rfl (noG rfl) (fun _ w hn k => v_box rfl (k.fx 1 hp1) (fun w => rfl)) (fun q _ hq hb => ⟨q, rfl, hq, hb⟩)) ?_
    refine .o1 (tk rfl rfl fun _ w hn k => ⟨_, v_assign rfl rfl, rfl⟩) ?_
    exact .nil
  intro a1 w2 hn3 ha4
  have hs5 := ha4.size.trans hs0
  have hd6 := ha4.defers.trans hd0
  obtain ⟨q8, h7, hq9, hb10⟩ : IsNew _ _ _ _ _ := ha4.got 0 2 rfl (by kernel_rfl)
  obtain ⟨q12, h11, hq13, hb14⟩ : IsNew _ _ _ _ _ := ha4.got 1 3 rfl (by kernel_rfl)
  have h15 := ha4.ge 2 4 rfl
  have hq16 := Nat.le_trans hN0.size hq9
  have hq17 := Nat.le_trans hN0.size hq13
  have hN18 := hN0.transNew hn3
  clear hs0 hd0 hp0 hp1 hq9 hq13 hN0 ha4 hn3
  refine st_nil ?_
  refine hK _ _ ?_
  clear hK K
  refine wp_seq_k fun K hK => ?_
  refine wp_seq_k fun K hK => ?_
  refine wp_g0 [true, true] [] 100
    [ve (.bool true),
     ve (.bool false)] hs5 (.eq (.eq (.nil))) ?_ ?_
  · skip
    refine .o1 (ck rfl rfl rfl (fun _ w hn k => ⟨#[], rfl, fun _ => by kernel_rfl, first_c  _⟩) fun _ => rfl) ?_
    refine .o1 (tk rfl rfl fun _ w hn k => ⟨_, v_not rfl (k.eq1 0 16 rfl), rfl⟩) ?_
    exact .nil
  intro a19 w20 hn21 ha22
  have hs23 := ha22.size.trans hs5
  have hd24 := ha22.defers.trans hd6
  have h25 := ha22.fx 2 h7
  have h26 := ha22.fx 3 h11
  have h27 := ha22.fx 4 h15
  have h28 := ha22.ge 1 17 rfl
  have hb29 := hb10.new_ hn21
  have hb30 := hb14.new_ hn21
  have hN31 := hN18.transNew hn21
  clear hs5 hd6 h7 h11 h15 hb10 hb14 hN18 ha22 hn21
  refine st_nil ?_
  refine hK _ _ ?_
  clear hK K
  refine wp_cond_false h28 ?_
  refine wp_skip ?_
  refine hK _ _ ?_
  clear hK K
  refine wp_seq_k fun K hK => ?_
  refine wp_g [true, true, true, true, false] [] [(4, false)] 100
    [ve (nv a),
     ve (nv (negM a)),
     ve (nv (negM (negM a))),
     IsNew w20 23 [iv 0, iv 0],
     vt]
    [3] (newsCons (fun v w h => IsNew.old h) newsNil) hs23 (.eq (.eq (.eq (.nw (.tt (.nil)))))) ?_ (fun i h => by cases h) ?_
  · skip
    refine .o1 (tk rfl rfl fun _ w hn k => ⟨_, v_load rfl (k.fx 2 h25) (l_two Tryd.isAgg23 Tryd.sizeOf23 (hb29.new_ hn)), rfl⟩) ?_
    refine .o1 (ck rfl rfl rfl (fun _ w hn k => ⟨#[nv a], args1 (k.eq1 0 18 rfl), fun _ => by kernel_rfl, neg_c a _⟩) fun _ => rfl) ?_
    refine .o1 (ck rfl rfl rfl (fun _ w hn k => ⟨#[nv (negM a)], args1 (k.eq1 1 19 rfl), fun _ => by kernel_rfl, neg_c (negM a) _⟩) fun _ => rfl) ?_
    refine .o2 (step_allocN (cs := [iv 0, iv 0]) (t := 23) rfl (noG rfl) (fun _ w hn k => rfl) (fun q _ hq hb => ⟨q, rfl, hq, hb⟩)) ?_
    refine .off ?_
    exact .nil
  intro a32 w33 hn34 ha35
  have hs36 := ha35.size.trans hs23
  have hd37 := ha35.defers.trans hd24
  have h38 := ha35.fx 2 h25
  have h39 := ha35.fx 3 h26
  have h40 := ha35.fx 4 h27
  have h41 := ha35.ge 2 20 rfl
  obtain ⟨q43, h42, hq44, hb45⟩ : IsNew _ _ _ _ _ := ha35.got 3 5 rfl (by kernel_rfl)
  have hb46 := hb29.new_ hn34
  have hb47 := hb30.new_ hn34
  have hne48 : q8 ≠ q43 := by have h1 := hb29.lt; have h2 := hq44; omega
  have hne49 : q12 ≠ q43 := by have h1 := hb30.lt; have h2 := hq44; omega
  have hq50 := Nat.le_trans hN31.size hq44
  have hN51 := hN31.transNew hn34
  clear hs23 hd24 h25 h26 h27 h28 hb29 hb30 hq44 hN31 ha35 hn34
  obtain ⟨w52, -, hst53, hb54, hu55, hf56⟩ := s_two (v0 := iv ((negM (negM a)).k)) (v1 := iv ((negM (negM a)).n)) Tryd.sizeOf23 rfl rfl rfl hb45
  refine st_act rfl rfl fun K57 hL58 => a_store' rfl h42 h41 hst53 (hL58 _ _ trivial ?_)
  have hb59 := hf56 _ _ _ (hne48) hb46
  have hb60 := hf56 _ _ _ (hne49) hb47
  have hN61 := hN51.trans hu55 (fun k hk hkb => by subst hkb; omega)
  clear hb45 hst53 K57 hL58 hN51 hb46 hb47 hu55 hf56
  clear hne48
  clear hne49
  refine st_nil ?_
  clear h41
  refine hK _ _ ?_
  clear hK K
  refine wp_seq_k fun K hK => ?_
  refine wp_g [true, true, true, true, true, true, true, false, false] [5] [(7, false), (8, true)] 100
    [ve (nv a),
     ve (nv b),
     ve (.tuple #[nv ((mulM a b).1), .bool ((mulM a b).2)]),
     ve (.tuple #[nv ((mulM a b).1), .bool ((mulM a b).2)]),
     ve (nv ((mulM a b).1)),
     ve (.bool ((mulM a b).2)),
     IsNew w52 23 [iv 0, iv 0],
     vt,
     vt]
    [6] (newsCons (fun v w h => IsNew.old h) newsNil) hs36 (.eq (.eq (.eq (.eq (.eq (.eq (.nw (.tt (.tt (.nil)))))))))) ?_ ?_ ?_
  · skip
    refine .o1 (tk rfl rfl fun _ w hn k => ⟨_, v_load rfl (k.fx 2 h38) (l_two Tryd.isAgg23 Tryd.sizeOf23 (hb59.new_ hn)), rfl⟩) ?_
    refine .o1 (tk rfl rfl fun _ w hn k => ⟨_, v_load rfl (k.fx 3 h39) (l_two Tryd.isAgg23 Tryd.sizeOf23 (hb60.new_ hn)), rfl⟩) ?_
    refine .o1 (ck rfl rfl rfl (fun _ w hn k => ⟨#[nv a, nv b], args2 (k.eq1 0 22 rfl) (k.eq1 1 23 rfl), fun _ => by kernel_rfl, mul_c a b _⟩) fun _ => rfl) ?_
    refine .o1 (tk rfl rfl fun _ w hn k => ⟨_, v_move rfl (k.eq1 2 24 rfl), rfl⟩) ?_
    refine .o1 (tk rfl rfl fun _ w hn k => ⟨_, v_extract rfl (k.eq1 3 21 rfl) rfl, rfl⟩) ?_
    refine .o3 ?_
    refine .o2 (step_allocN (cs := [iv 0, iv 0]) (t := 23) rfl (noG rfl) (fun _ w hn k => rfl) (fun q _ hq hb => ⟨q, rfl, hq, hb⟩)) ?_
    refine .off ?_
    refine .off ?_
    exact .nil
  · skip
    intro i h
    simp only [List.contains_eq_mem, List.mem_cons, List.not_mem_nil, or_false, decide_eq_true_eq] at h
    subst h
    · exact eager_take rfl rfl fun _ w hn k => ⟨.bool ((mulM a b).2), fun w => v_extract rfl (k.eq1 3 21 rfl) rfl, rfl⟩
  intro a62 w63 hn64 ha65
  have hs66 := ha65.size.trans hs36
  have hd67 := ha65.defers.trans hd37
  have h68 := ha65.fx 2 h38
  have h69 := ha65.fx 3 h39
  have h70 := ha65.fx 4 h40
  have h71 := ha65.fx 5 h42
  have h72 := ha65.ge 4 25 rfl
  have h73 := ha65.ge 5 26 rfl
  obtain ⟨q75, h74, hq76, hb77⟩ : IsNew _ _ _ _ _ := ha65.got 6 6 rfl (by kernel_rfl)
  have hb78 := hb59.new_ hn64
  have hb79 := hb60.new_ hn64
  have hb80 := hb54.new_ hn64
  have hne81 : q8 ≠ q75 := by have h1 := hb59.lt; have h2 := hq76; omega
  have hne82 : q12 ≠ q75 := by have h1 := hb60.lt; have h2 := hq76; omega
  have hne83 : q43 ≠ q75 := by have h1 := hb54.lt; have h2 := hq76; omega
  have hq84 := Nat.le_trans hN61.size hq76
  have hN85 := hN61.transNew hn64
  clear hs36 hd37 h38 h39 h40 h42 hb59 hb60 hb54 hq76 hN61 ha65 hn64
  obtain ⟨w86, -, hst87, hb88, hu89, hf90⟩ := s_two (v0 := iv ((mulM a b).1.k)) (v1 := iv ((mulM a b).1.n)) Tryd.sizeOf23 rfl rfl rfl hb77
  refine st_act rfl rfl fun K91 hL92 => a_store' rfl h74 h72 hst87 (hL92 _ _ trivial ?_)
  have hb93 := hf90 _ _ _ (hne81) hb78
  have hb94 := hf90 _ _ _ (hne82) hb79
  have hb95 := hf90 _ _ _ (hne83) hb80
  have hN96 := hN85.trans hu89 (fun k hk hkb => by subst hkb; omega)
  clear hb77 hst87 K91 hL92 hN85 hb78 hb79 hb80 hu89 hf90
  refine st_take rfl rfl (y_assign (v := .bool ((mulM a b).2)) rfl h73) rfl ?_
  obtain ⟨a97, ha98⟩ : ∃ a', a' = a62.put (some 7) (.bool ((mulM a b).2)) := ⟨_, rfl⟩
  have hs99 : a97.tmps.size = 100 := by rw [ha98, put_size]; exact hs66
  have hd100 : a97.defers = [] := by rw [ha98, put_defers]; exact hd67
  have h101 : a97.eval (.tmp 2) = pv q8 := by rw [ha98, put_ne _ _ _ _ (by decide)]; exact h68
  have h102 : a97.eval (.tmp 3) = pv q12 := by rw [ha98, put_ne _ _ _ _ (by decide)]; exact h69
  have h103 : a97.eval (.tmp 4) = .bool false := by rw [ha98, put_ne _ _ _ _ (by decide)]; exact h70
  have h104 : a97.eval (.tmp 5) = pv q43 := by rw [ha98, put_ne _ _ _ _ (by decide)]; exact h71
  have h105 : a97.eval (.tmp 25) = nv ((mulM a b).1) := by rw [ha98, put_ne _ _ _ _ (by decide)]; exact h72
  have h106 : a97.eval (.tmp 26) = .bool ((mulM a b).2) := by rw [ha98, put_ne _ _ _ _ (by decide)]; exact h73
  have h107 : a97.eval (.tmp 6) = pv q75 := by rw [ha98, put_ne _ _ _ _ (by decide)]; exact h74
  have h108 : a97.eval (.tmp 7) = .bool ((mulM a b).2) := by rw [ha98]; exact put_same _ _ _ (by rw [hs66]; decide)
  show stepsTo _ _ _ _ _ (a62.put (some 7) (.bool ((mulM a b).2))) _
  rw [← ha98]
  clear ha98 hs66 hd67 h68 h69 h70 h71 h72 h73 h74
  clear hne81
  clear hne82
  clear hne83
  refine st_nil ?_
  clear h105 h106
  refine hK _ _ ?_
  clear hK K
  refine wp_seq_k fun K hK => ?_
  refine wp_g [true, true, true, true, true, true, true, true, false, false] [6] [(8, false), (9, true)] 100
    [ve (nv a),
     ve (nv (negM a)),
     ve (nv b),
     ve (.tuple #[nv ((mulM (negM a) b).1), .bool ((mulM (negM a) b).2)]),
     ve (.tuple #[nv ((mulM (negM a) b).1), .bool ((mulM (negM a) b).2)]),
     ve (nv ((mulM (negM a) b).1)),
     ve (.bool ((mulM (negM a) b).2)),
     IsNew w86 23 [iv 0, iv 0],
     vt,
     vt]
    [7] (newsCons (fun v w h => IsNew.old h) newsNil) hs99 (.eq (.eq (.eq (.eq (.eq (.eq (.eq (.nw (.tt (.tt (.nil))))))))))) ?_ ?_ ?_
  · skip
    refine .o1 (tk rfl rfl fun _ w hn k => ⟨_, v_load rfl (k.fx 2 h101) (l_two Tryd.isAgg23 Tryd.sizeOf23 (hb93.new_ hn)), rfl⟩) ?_
    refine .o1 (ck rfl rfl rfl (fun _ w hn k => ⟨#[nv a], args1 (k.eq1 0 28 rfl), fun _ => by kernel_rfl, neg_c a _⟩) fun _ => rfl) ?_
    refine .o1 (tk rfl rfl fun _ w hn k => ⟨_, v_load rfl (k.fx 3 h102) (l_two Tryd.isAgg23 Tryd.sizeOf23 (hb94.new_ hn)), rfl⟩) ?_
    refine .o1 (ck rfl rfl rfl (fun _ w hn k => ⟨#[nv (negM a), nv b], args2 (k.eq1 1 29 rfl) (k.eq1 2 30 rfl), fun _ => by kernel_rfl, mul_c (negM a) b _⟩) fun _ => rfl) ?_
    refine .o1 (tk rfl rfl fun _ w hn k => ⟨_, v_move rfl (k.eq1 3 31 rfl), rfl⟩) ?_
    refine .o1 (tk rfl rfl fun _ w hn k => ⟨_, v_extract rfl (k.eq1 4 27 rfl) rfl, rfl⟩) ?_
    refine .o3 ?_
    refine .o2 (step_allocN (cs := [iv 0, iv 0]) (t := 23) rfl (noG rfl) (fun _ w hn k => rfl) (fun q _ hq hb => ⟨q, rfl, hq, hb⟩)) ?_
    refine .off ?_
    refine .off ?_
    exact .nil
  · skip
    intro i h
    simp only [List.contains_eq_mem, List.mem_cons, List.not_mem_nil, or_false, decide_eq_true_eq] at h
    subst h
    · exact eager_take rfl rfl fun _ w hn k => ⟨.bool ((mulM (negM a) b).2), fun w => v_extract rfl (k.eq1 4 27 rfl) rfl, rfl⟩
  intro a109 w110 hn111 ha112
  have hs113 := ha112.size.trans hs99
  have hd114 := ha112.defers.trans hd100
  have h115 := ha112.fx 2 h101
  have h116 := ha112.fx 3 h102
  have h117 := ha112.fx 4 h103
  have h118 := ha112.fx 5 h104
  have h119 := ha112.fx 6 h107
  have h120 := ha112.fx 7 h108
  have h121 := ha112.ge 5 32 rfl
  have h122 := ha112.ge 6 33 rfl
  obtain ⟨q124, h123, hq125, hb126⟩ : IsNew _ _ _ _ _ := ha112.got 7 8 rfl (by kernel_rfl)
  have hb127 := hb93.new_ hn111
  have hb128 := hb94.new_ hn111
  have hb129 := hb95.new_ hn111
  have hb130 := hb88.new_ hn111
  have hne131 : q8 ≠ q124 := by have h1 := hb93.lt; have h2 := hq125; omega
  have hne132 : q12 ≠ q124 := by have h1 := hb94.lt; have h2 := hq125; omega
  have hne133 : q43 ≠ q124 := by have h1 := hb95.lt; have h2 := hq125; omega
  have hne134 : q75 ≠ q124 := by have h1 := hb88.lt; have h2 := hq125; omega
  have hq135 := Nat.le_trans hN96.size hq125
  have hN136 := hN96.transNew hn111
  clear hs99 hd100 h101 h102 h103 h104 h107 h108 hb93 hb94 hb95 hb88 hq125 hN96 ha112 hn111
  obtain ⟨w137, -, hst138, hb139, hu140, hf141⟩ := s_two (v0 := iv ((mulM (negM a) b).1.k)) (v1 := iv ((mulM (negM a) b).1.n)) Tryd.sizeOf23 rfl rfl rfl hb126
  refine st_act rfl rfl fun K142 hL143 => a_store' rfl h123 h121 hst138 (hL143 _ _ trivial ?_)
  have hb144 := hf141 _ _ _ (hne131) hb127
  have hb145 := hf141 _ _ _ (hne132) hb128
  have hb146 := hf141 _ _ _ (hne133) hb129
  have hb147 := hf141 _ _ _ (hne134) hb130
  have hN148 := hN136.trans hu140 (fun k hk hkb => by subst hkb; omega)
  clear hb126 hst138 K142 hL143 hN136 hb127 hb128 hb129 hb130 hu140 hf141
  refine st_take rfl rfl (y_assign (v := .bool ((mulM (negM a) b).2)) rfl h122) rfl ?_
  obtain ⟨a149, ha150⟩ : ∃ a', a' = a109.put (some 9) (.bool ((mulM (negM a) b).2)) := ⟨_, rfl⟩
  have hs151 : a149.tmps.size = 100 := by rw [ha150, put_size]; exact hs113
  have hd152 : a149.defers = [] := by rw [ha150, put_defers]; exact hd114
  have h153 : a149.eval (.tmp 2) = pv q8 := by rw [ha150, put_ne _ _ _ _ (by decide)]; exact h115
  have h154 : a149.eval (.tmp 3) = pv q12 := by rw [ha150, put_ne _ _ _ _ (by decide)]; exact h116
  have h155 : a149.eval (.tmp 4) = .bool false := by rw [ha150, put_ne _ _ _ _ (by decide)]; exact h117
  have h156 : a149.eval (.tmp 5) = pv q43 := by rw [ha150, put_ne _ _ _ _ (by decide)]; exact h118
  have h157 : a149.eval (.tmp 6) = pv q75 := by rw [ha150, put_ne _ _ _ _ (by decide)]; exact h119
  have h158 : a149.eval (.tmp 7) = .bool ((mulM a b).2) := by rw [ha150, put_ne _ _ _ _ (by decide)]; exact h120
  have h159 : a149.eval (.tmp 32) = nv ((mulM (negM a) b).1) := by rw [ha150, put_ne _ _ _ _ (by decide)]; exact h121
  have h160 : a149.eval (.tmp 33) = .bool ((mulM (negM a) b).2) := by rw [ha150, put_ne _ _ _ _ (by decide)]; exact h122
  have h161 : a149.eval (.tmp 8) = pv q124 := by rw [ha150, put_ne _ _ _ _ (by decide)]; exact h123
  have h162 : a149.eval (.tmp 9) = .bool ((mulM (negM a) b).2) := by rw [ha150]; exact put_same _ _ _ (by rw [hs113]; decide)
  show stepsTo _ _ _ _ _ (a109.put (some 9) (.bool ((mulM (negM a) b).2))) _
  rw [← ha150]
  clear ha150 hs113 hd114 h115 h116 h117 h118 h119 h120 h121 h122 h123
  clear hne131
  clear hne132
  clear hne133
  clear hne134
  refine st_nil ?_
  clear h159 h160
  refine hK _ _ ?_
  clear hK K
  refine wp_seq_k fun K hK => ?_
  refine wp_g [true, true, true, true, true, true, true, false, false] [5] [(7, false), (8, true)] 100
    [ve (nv a),
     ve (nv b),
     ve (.tuple #[nv ((addM a b).1), .bool ((addM a b).2)]),
     ve (.tuple #[nv ((addM a b).1), .bool ((addM a b).2)]),
     ve (nv ((addM a b).1)),
     ve (.bool ((addM a b).2)),
     IsNew w137 23 [iv 0, iv 0],
     vt,
     vt]
    [6] (newsCons (fun v w h => IsNew.old h) newsNil) hs151 (.eq (.eq (.eq (.eq (.eq (.eq (.nw (.tt (.tt (.nil)))))))))) ?_ ?_ ?_
  · skip
    refine .o1 (tk rfl rfl fun _ w hn k => ⟨_, v_load rfl (k.fx 2 h153) (l_two Tryd.isAgg23 Tryd.sizeOf23 (hb144.new_ hn)), rfl⟩) ?_
    refine .o1 (tk rfl rfl fun _ w hn k => ⟨_, v_load rfl (k.fx 3 h154) (l_two Tryd.isAgg23 Tryd.sizeOf23 (hb145.new_ hn)), rfl⟩) ?_
    refine .o1 (ck rfl rfl rfl (fun _ w hn k => ⟨#[nv a, nv b], args2 (k.eq1 0 35 rfl) (k.eq1 1 36 rfl), fun _ => by kernel_rfl, add_c a b _⟩) fun _ => rfl) ?_
    refine .o1 (tk rfl rfl fun _ w hn k => ⟨_, v_move rfl (k.eq1 2 37 rfl), rfl⟩) ?_
    refine .o1 (tk rfl rfl fun _ w hn k => ⟨_, v_extract rfl (k.eq1 3 34 rfl) rfl, rfl⟩) ?_
    refine .o3 ?_
    refine .o2 (step_allocN (cs := [iv 0, iv 0]) (t := 23) rfl (noG rfl) (fun _ w hn k => rfl) (fun q _ hq hb => ⟨q, rfl, hq, hb⟩)) ?_
    refine .off ?_
    refine .off ?_
    exact .nil
  · skip
    intro i h
    simp only [List.contains_eq_mem, List.mem_cons, List.not_mem_nil, or_false, decide_eq_true_eq] at h
    subst h
    · exact eager_take rfl rfl fun _ w hn k => ⟨.bool ((addM a b).2), fun w => v_extract rfl (k.eq1 3 34 rfl) rfl, rfl⟩
  intro a163 w164 hn165 ha166
  have hs167 := ha166.size.trans hs151
  have hd168 := ha166.defers.trans hd152
  have h169 := ha166.fx 2 h153
  have h170 := ha166.fx 3 h154
  have h171 := ha166.fx 4 h155
  have h172 := ha166.fx 5 h156
  have h173 := ha166.fx 6 h157
  have h174 := ha166.fx 7 h158
  have h175 := ha166.fx 8 h161
  have h176 := ha166.fx 9 h162
  have h177 := ha166.ge 4 38 rfl
  have h178 := ha166.ge 5 39 rfl
  obtain ⟨q180, h179, hq181, hb182⟩ : IsNew _ _ _ _ _ := ha166.got 6 10 rfl (by kernel_rfl)
  have hb183 := hb144.new_ hn165
  have hb184 := hb145.new_ hn165
  have hb185 := hb146.new_ hn165
  have hb186 := hb147.new_ hn165
  have hb187 := hb139.new_ hn165
  have hne188 : q8 ≠ q180 := by have h1 := hb144.lt; have h2 := hq181; omega
  have hne189 : q12 ≠ q180 := by have h1 := hb145.lt; have h2 := hq181; omega
  have hne190 : q43 ≠ q180 := by have h1 := hb146.lt; have h2 := hq181; omega
  have hne191 : q75 ≠ q180 := by have h1 := hb147.lt; have h2 := hq181; omega
  have hne192 : q124 ≠ q180 := by have h1 := hb139.lt; have h2 := hq181; omega
  have hq193 := Nat.le_trans hN148.size hq181
  have hN194 := hN148.transNew hn165
  clear hs151 hd152 h153 h154 h155 h156 h157 h158 h161 h162 hb144 hb145 hb146 hb147 hb139 hq181 hN148 ha166 hn165
  obtain ⟨w195, -, hst196, hb197, hu198, hf199⟩ := s_two (v0 := iv ((addM a b).1.k)) (v1 := iv ((addM a b).1.n)) Tryd.sizeOf23 rfl rfl rfl hb182
  refine st_act rfl rfl fun K200 hL201 => a_store' rfl h179 h177 hst196 (hL201 _ _ trivial ?_)
  have hb202 := hf199 _ _ _ (hne188) hb183
  have hb203 := hf199 _ _ _ (hne189) hb184
  have hb204 := hf199 _ _ _ (hne190) hb185
  have hb205 := hf199 _ _ _ (hne191) hb186
  have hb206 := hf199 _ _ _ (hne192) hb187
  have hN207 := hN194.trans hu198 (fun k hk hkb => by subst hkb; omega)
  clear hb182 hst196 K200 hL201 hN194 hb183 hb184 hb185 hb186 hb187 hu198 hf199
  refine st_take rfl rfl (y_assign (v := .bool ((addM a b).2)) rfl h178) rfl ?_
  obtain ⟨a208, ha209⟩ : ∃ a', a' = a163.put (some 11) (.bool ((addM a b).2)) := ⟨_, rfl⟩
  have hs210 : a208.tmps.size = 100 := by rw [ha209, put_size]; exact hs167
  have hd211 : a208.defers = [] := by rw [ha209, put_defers]; exact hd168
  have h212 : a208.eval (.tmp 2) = pv q8 := by rw [ha209, put_ne _ _ _ _ (by decide)]; exact h169
  have h213 : a208.eval (.tmp 3) = pv q12 := by rw [ha209, put_ne _ _ _ _ (by decide)]; exact h170
  have h214 : a208.eval (.tmp 4) = .bool false := by rw [ha209, put_ne _ _ _ _ (by decide)]; exact h171
  have h215 : a208.eval (.tmp 5) = pv q43 := by rw [ha209, put_ne _ _ _ _ (by decide)]; exact h172
  have h216 : a208.eval (.tmp 6) = pv q75 := by rw [ha209, put_ne _ _ _ _ (by decide)]; exact h173
  have h217 : a208.eval (.tmp 7) = .bool ((mulM a b).2) := by rw [ha209, put_ne _ _ _ _ (by decide)]; exact h174
  have h218 : a208.eval (.tmp 8) = pv q124 := by rw [ha209, put_ne _ _ _ _ (by decide)]; exact h175
  have h219 : a208.eval (.tmp 9) = .bool ((mulM (negM a) b).2) := by rw [ha209, put_ne _ _ _ _ (by decide)]; exact h176
  have h220 : a208.eval (.tmp 38) = nv ((addM a b).1) := by rw [ha209, put_ne _ _ _ _ (by decide)]; exact h177
  have h221 : a208.eval (.tmp 39) = .bool ((addM a b).2) := by rw [ha209, put_ne _ _ _ _ (by decide)]; exact h178
  have h222 : a208.eval (.tmp 10) = pv q180 := by rw [ha209, put_ne _ _ _ _ (by decide)]; exact h179
  have h223 : a208.eval (.tmp 11) = .bool ((addM a b).2) := by rw [ha209]; exact put_same _ _ _ (by rw [hs167]; decide)
  show stepsTo _ _ _ _ _ (a163.put (some 11) (.bool ((addM a b).2))) _
  rw [← ha209]
  clear ha209 hs167 hd168 h169 h170 h171 h172 h173 h174 h175 h176 h177 h178 h179
  clear hne188
  clear hne189
  clear hne190
  clear hne191
  clear hne192
  refine st_nil ?_
  clear h220 h221
  refine hK _ _ ?_
  clear hK K
  refine wp_seq_k fun K hK => ?_
  refine wp_g [true, true, true, true, true, true, true, true, true, false, false] [7] [(9, false), (10, true)] 100
    [ve (nv a),
     ve (nv (negM a)),
     ve (nv b),
     ve (nv (negM b)),
     ve (.tuple #[nv ((addM (negM a) (negM b)).1), .bool ((addM (negM a) (negM b)).2)]),
     ve (.tuple #[nv ((addM (negM a) (negM b)).1), .bool ((addM (negM a) (negM b)).2)]),
     ve (nv ((addM (negM a) (negM b)).1)),
     ve (.bool ((addM (negM a) (negM b)).2)),
     IsNew w195 23 [iv 0, iv 0],
     vt,
     vt]
    [8] (newsCons (fun v w h => IsNew.old h) newsNil) hs210 (.eq (.eq (.eq (.eq (.eq (.eq (.eq (.eq (.nw (.tt (.tt (.nil)))))))))))) ?_ ?_ ?_
  · skip
    refine .o1 (tk rfl rfl fun _ w hn k => ⟨_, v_load rfl (k.fx 2 h212) (l_two Tryd.isAgg23 Tryd.sizeOf23 (hb202.new_ hn)), rfl⟩) ?_
    refine .o1 (ck rfl rfl rfl (fun _ w hn k => ⟨#[nv a], args1 (k.eq1 0 41 rfl), fun _ => by kernel_rfl, neg_c a _⟩) fun _ => rfl) ?_
    refine .o1 (tk rfl rfl fun _ w hn k => ⟨_, v_load rfl (k.fx 3 h213) (l_two Tryd.isAgg23 Tryd.sizeOf23 (hb203.new_ hn)), rfl⟩) ?_
    refine .o1 (ck rfl rfl rfl (fun _ w hn k => ⟨#[nv b], args1 (k.eq1 2 43 rfl), fun _ => by kernel_rfl, neg_c b _⟩) fun _ => rfl) ?_
    refine .o1 (ck rfl rfl rfl (fun _ w hn k => ⟨#[nv (negM a), nv (negM b)], args2 (k.eq1 1 42 rfl) (k.eq1 3 44 rfl), fun _ => by kernel_rfl, add_c (negM a) (negM b) _⟩) fun _ => rfl) ?_
    refine .o1 (tk rfl rfl fun _ w hn k => ⟨_, v_move rfl (k.eq1 4 45 rfl), rfl⟩) ?_
    refine .o1 (tk rfl rfl fun _ w hn k => ⟨_, v_extract rfl (k.eq1 5 40 rfl) rfl, rfl⟩) ?_
    refine .o3 ?_
    refine .o2 (step_allocN (cs := [iv 0, iv 0]) (t := 23) rfl (noG rfl) (fun _ w hn k => rfl) (fun q _ hq hb => ⟨q, rfl, hq, hb⟩)) ?_
    refine .off ?_
    refine .off ?_
    exact .nil
  · skip
    intro i h
    simp only [List.contains_eq_mem, List.mem_cons, List.not_mem_nil, or_false, decide_eq_true_eq] at h
    subst h
    · exact eager_take rfl rfl fun _ w hn k => ⟨.bool ((addM (negM a) (negM b)).2), fun w => v_extract rfl (k.eq1 5 40 rfl) rfl, rfl⟩
  intro a224 w225 hn226 ha227
  have hs228 := ha227.size.trans hs210
  have hd229 := ha227.defers.trans hd211
  have h230 := ha227.fx 2 h212
  have h231 := ha227.fx 4 h214
  have h232 := ha227.fx 5 h215
  have h233 := ha227.fx 6 h216
  have h234 := ha227.fx 7 h217
  have h235 := ha227.fx 8 h218
  have h236 := ha227.fx 9 h219
  have h237 := ha227.fx 10 h222
  have h238 := ha227.fx 11 h223
  have h239 := ha227.ge 6 46 rfl
  have h240 := ha227.ge 7 47 rfl
  obtain ⟨q242, h241, hq243, hb244⟩ : IsNew _ _ _ _ _ := ha227.got 8 12 rfl (by kernel_rfl)
  have hb245 := hb202.new_ hn226
  have hb246 := hb204.new_ hn226
  have hb247 := hb205.new_ hn226
  have hb248 := hb206.new_ hn226
  have hb249 := hb197.new_ hn226
  have hne250 : q8 ≠ q242 := by have h1 := hb202.lt; have h2 := hq243; omega
  have hne251 : q43 ≠ q242 := by have h1 := hb204.lt; have h2 := hq243; omega
  have hne252 : q75 ≠ q242 := by have h1 := hb205.lt; have h2 := hq243; omega
  have hne253 : q124 ≠ q242 := by have h1 := hb206.lt; have h2 := hq243; omega
  have hne254 : q180 ≠ q242 := by have h1 := hb197.lt; have h2 := hq243; omega
  have hq255 := Nat.le_trans hN207.size hq243
  have hN256 := hN207.transNew hn226
  clear hs210 hd211 h212 h213 h214 h215 h216 h217 h218 h219 h222 h223 hb202 hb203 hq17 hb204 hb205 hb206 hb197 hq243 hN207 ha227 hn226
  obtain ⟨w257, -, hst258, hb259, hu260, hf261⟩ := s_two (v0 := iv ((addM (negM a) (negM b)).1.k)) (v1 := iv ((addM (negM a) (negM b)).1.n)) Tryd.sizeOf23 rfl rfl rfl hb244
  refine st_act rfl rfl fun K262 hL263 => a_store' rfl h241 h239 hst258 (hL263 _ _ trivial ?_)
  have hb264 := hf261 _ _ _ (hne250) hb245
  have hb265 := hf261 _ _ _ (hne251) hb246
  have hb266 := hf261 _ _ _ (hne252) hb247
  have hb267 := hf261 _ _ _ (hne253) hb248
  have hb268 := hf261 _ _ _ (hne254) hb249
  have hN269 := hN256.trans hu260 (fun k hk hkb => by subst hkb; omega)
  clear hb244 hst258 K262 hL263 hN256 hb245 hb246 hb247 hb248 hb249 hu260 hf261
  refine st_take rfl rfl (y_assign (v := .bool ((addM (negM a) (negM b)).2)) rfl h240) rfl ?_
  obtain ⟨a270, ha271⟩ : ∃ a', a' = a224.put (some 13) (.bool ((addM (negM a) (negM b)).2)) := ⟨_, rfl⟩
  have hs272 : a270.tmps.size = 100 := by rw [ha271, put_size]; exact hs228
  have hd273 : a270.defers = [] := by rw [ha271, put_defers]; exact hd229
  have h274 : a270.eval (.tmp 2) = pv q8 := by rw [ha271, put_ne _ _ _ _ (by decide)]; exact h230
  have h275 : a270.eval (.tmp 4) = .bool false := by rw [ha271, put_ne _ _ _ _ (by decide)]; exact h231
  have h276 : a270.eval (.tmp 5) = pv q43 := by rw [ha271, put_ne _ _ _ _ (by decide)]; exact h232
  have h277 : a270.eval (.tmp 6) = pv q75 := by rw [ha271, put_ne _ _ _ _ (by decide)]; exact h233
  have h278 : a270.eval (.tmp 7) = .bool ((mulM a b).2) := by rw [ha271, put_ne _ _ _ _ (by decide)]; exact h234
  have h279 : a270.eval (.tmp 8) = pv q124 := by rw [ha271, put_ne _ _ _ _ (by decide)]; exact h235
  have h280 : a270.eval (.tmp 9) = .bool ((mulM (negM a) b).2) := by rw [ha271, put_ne _ _ _ _ (by decide)]; exact h236
  have h281 : a270.eval (.tmp 10) = pv q180 := by rw [ha271, put_ne _ _ _ _ (by decide)]; exact h237
  have h282 : a270.eval (.tmp 11) = .bool ((addM a b).2) := by rw [ha271, put_ne _ _ _ _ (by decide)]; exact h238
  have h283 : a270.eval (.tmp 46) = nv ((addM (negM a) (negM b)).1) := by rw [ha271, put_ne _ _ _ _ (by decide)]; exact h239
  have h284 : a270.eval (.tmp 47) = .bool ((addM (negM a) (negM b)).2) := by rw [ha271, put_ne _ _ _ _ (by decide)]; exact h240
  have h285 : a270.eval (.tmp 12) = pv q242 := by rw [ha271, put_ne _ _ _ _ (by decide)]; exact h241
  have h286 : a270.eval (.tmp 13) = .bool ((addM (negM a) (negM b)).2) := by rw [ha271]; exact put_same _ _ _ (by rw [hs228]; decide)
  show stepsTo _ _ _ _ _ (a224.put (some 13) (.bool ((addM (negM a) (negM b)).2))) _
  rw [← ha271]
  clear ha271 hs228 hd229 h230 h231 h232 h233 h234 h235 h236 h237 h238 h239 h240 h241
  clear hne250
  clear hne251
  clear hne252
  clear hne253
  clear hne254
  refine st_nil ?_
  clear h283 h284
  refine hK _ _ ?_
  clear hK K
  refine wp_seq_k fun K hK => ?_
  refine wp_g [true, true, true, true, true, true, true, false, false] [5] [(7, false), (8, true)] 100
    [ve (nv (Nm.mk 0 0)),
     ve (nv a),
     ve (.tuple #[nv ((addM (Nm.mk 0 0) (negM a)).1), .bool ((addM (Nm.mk 0 0) (negM a)).2)]),
     ve (.tuple #[nv ((addM (Nm.mk 0 0) (negM a)).1), .bool ((addM (Nm.mk 0 0) (negM a)).2)]),
     ve (nv ((addM (Nm.mk 0 0) (negM a)).1)),
     ve (.bool ((addM (Nm.mk 0 0) (negM a)).2)),
     IsNew w257 23 [iv 0, iv 0],
     vt,
     vt]
    [6] (newsCons (fun v w h => IsNew.old h) newsNil) hs272 (.eq (.eq (.eq (.eq (.eq (.eq (.nw (.tt (.tt (.nil)))))))))) ?_ ?_ ?_
  · skip
    refine .o1 (ck rfl rfl rfl (fun _ w hn k => ⟨#[iv 0], args1 rfl, fun _ => by kernel_rfl, w_c 0 _⟩) fun _ => rfl) ?_
    refine .o1 (tk rfl rfl fun _ w hn k => ⟨_, v_load rfl (k.fx 2 h274) (l_two Tryd.isAgg23 Tryd.sizeOf23 (hb264.new_ hn)), rfl⟩) ?_
    refine .o1 (ck rfl rfl rfl (fun _ w hn k => ⟨#[nv (Nm.mk 0 0), nv a], args2 (k.eq1 0 49 rfl) (k.eq1 1 50 rfl), fun _ => by kernel_rfl, sub_c (Nm.mk 0 0) a _⟩) fun _ => rfl) ?_
    refine .o1 (tk rfl rfl fun _ w hn k => ⟨_, v_move rfl (k.eq1 2 51 rfl), rfl⟩) ?_
    refine .o1 (tk rfl rfl fun _ w hn k => ⟨_, v_extract rfl (k.eq1 3 48 rfl) rfl, rfl⟩) ?_
    refine .o3 ?_
    refine .o2 (step_allocN (cs := [iv 0, iv 0]) (t := 23) rfl (noG rfl) (fun _ w hn k => rfl) (fun q _ hq hb => ⟨q, rfl, hq, hb⟩)) ?_
    refine .off ?_
    refine .off ?_
    exact .nil
  · skip
    intro i h
    simp only [List.contains_eq_mem, List.mem_cons, List.not_mem_nil, or_false, decide_eq_true_eq] at h
    subst h
    · exact eager_take rfl rfl fun _ w hn k => ⟨.bool ((addM (Nm.mk 0 0) (negM a)).2), fun w => v_extract rfl (k.eq1 3 48 rfl) rfl, rfl⟩
  intro a287 w288 hn289 ha290
  have hs291 := ha290.size.trans hs272
  have hd292 := ha290.defers.trans hd273
  have h293 := ha290.fx 2 h274
  have h294 := ha290.fx 4 h275
  have h295 := ha290.fx 5 h276
  have h296 := ha290.fx 6 h277
  have h297 := ha290.fx 7 h278
  have h298 := ha290.fx 8 h279
  have h299 := ha290.fx 9 h280
  have h300 := ha290.fx 10 h281
  have h301 := ha290.fx 11 h282
  have h302 := ha290.fx 12 h285
  have h303 := ha290.fx 13 h286
  have h304 := ha290.ge 4 52 rfl
  have h305 := ha290.ge 5 53 rfl
  obtain ⟨q307, h306, hq308, hb309⟩ : IsNew _ _ _ _ _ := ha290.got 6 14 rfl (by kernel_rfl)
  have hb310 := hb264.new_ hn289
  have hb311 := hb265.new_ hn289
  have hb312 := hb266.new_ hn289
  have hb313 := hb267.new_ hn289
  have hb314 := hb268.new_ hn289
  have hb315 := hb259.new_ hn289
  have hne316 : q8 ≠ q307 := by have h1 := hb264.lt; have h2 := hq308; omega
  have hne317 : q43 ≠ q307 := by have h1 := hb265.lt; have h2 := hq308; omega
  have hne318 : q75 ≠ q307 := by have h1 := hb266.lt; have h2 := hq308; omega
  have hne319 : q124 ≠ q307 := by have h1 := hb267.lt; have h2 := hq308; omega
  have hne320 : q180 ≠ q307 := by have h1 := hb268.lt; have h2 := hq308; omega
  have hne321 : q242 ≠ q307 := by have h1 := hb259.lt; have h2 := hq308; omega
  have hq322 := Nat.le_trans hN269.size hq308
  have hN323 := hN269.transNew hn289
  clear hs272 hd273 h274 h275 h276 h277 h278 h279 h280 h281 h282 h285 h286 hb264 hb265 hb266 hb267 hb268 hb259 hq308 hN269 ha290 hn289
  obtain ⟨w324, -, hst325, hb326, hu327, hf328⟩ := s_two (v0 := iv ((addM (Nm.mk 0 0) (negM a)).1.k)) (v1 := iv ((addM (Nm.mk 0 0) (negM a)).1.n)) Tryd.sizeOf23 rfl rfl rfl hb309
  refine st_act rfl rfl fun K329 hL330 => a_store' rfl h306 h304 hst325 (hL330 _ _ trivial ?_)
  have hb331 := hf328 _ _ _ (hne316) hb310
  have hb332 := hf328 _ _ _ (hne317) hb311
  have hb333 := hf328 _ _ _ (hne318) hb312
  have hb334 := hf328 _ _ _ (hne319) hb313
  have hb335 := hf328 _ _ _ (hne320) hb314
  have hb336 := hf328 _ _ _ (hne321) hb315
  have hN337 := hN323.trans hu327 (fun k hk hkb => by subst hkb; omega)
  clear hb309 hst325 K329 hL330 hN323 hb310 hb311 hb312 hb313 hb314 hb315 hu327 hf328
  refine st_take rfl rfl (y_assign (v := .bool ((addM (Nm.mk 0 0) (negM a)).2)) rfl h305) rfl ?_
  obtain ⟨a338, ha339⟩ : ∃ a', a' = a287.put (some 15) (.bool ((addM (Nm.mk 0 0) (negM a)).2)) := ⟨_, rfl⟩
  have hs340 : a338.tmps.size = 100 := by rw [ha339, put_size]; exact hs291
  have hd341 : a338.defers = [] := by rw [ha339, put_defers]; exact hd292
  have h342 : a338.eval (.tmp 2) = pv q8 := by rw [ha339, put_ne _ _ _ _ (by decide)]; exact h293
  have h343 : a338.eval (.tmp 4) = .bool false := by rw [ha339, put_ne _ _ _ _ (by decide)]; exact h294
  have h344 : a338.eval (.tmp 5) = pv q43 := by rw [ha339, put_ne _ _ _ _ (by decide)]; exact h295
  have h345 : a338.eval (.tmp 6) = pv q75 := by rw [ha339, put_ne _ _ _ _ (by decide)]; exact h296
  have h346 : a338.eval (.tmp 7) = .bool ((mulM a b).2) := by rw [ha339, put_ne _ _ _ _ (by decide)]; exact h297
  have h347 : a338.eval (.tmp 8) = pv q124 := by rw [ha339, put_ne _ _ _ _ (by decide)]; exact h298
  have h348 : a338.eval (.tmp 9) = .bool ((mulM (negM a) b).2) := by rw [ha339, put_ne _ _ _ _ (by decide)]; exact h299
  have h349 : a338.eval (.tmp 10) = pv q180 := by rw [ha339, put_ne _ _ _ _ (by decide)]; exact h300
  have h350 : a338.eval (.tmp 11) = .bool ((addM a b).2) := by rw [ha339, put_ne _ _ _ _ (by decide)]; exact h301
  have h351 : a338.eval (.tmp 12) = pv q242 := by rw [ha339, put_ne _ _ _ _ (by decide)]; exact h302
  have h352 : a338.eval (.tmp 13) = .bool ((addM (negM a) (negM b)).2) := by rw [ha339, put_ne _ _ _ _ (by decide)]; exact h303
  have h353 : a338.eval (.tmp 52) = nv ((addM (Nm.mk 0 0) (negM a)).1) := by rw [ha339, put_ne _ _ _ _ (by decide)]; exact h304
  have h354 : a338.eval (.tmp 53) = .bool ((addM (Nm.mk 0 0) (negM a)).2) := by rw [ha339, put_ne _ _ _ _ (by decide)]; exact h305
  have h355 : a338.eval (.tmp 14) = pv q307 := by rw [ha339, put_ne _ _ _ _ (by decide)]; exact h306
  have h356 : a338.eval (.tmp 15) = .bool ((addM (Nm.mk 0 0) (negM a)).2) := by rw [ha339]; exact put_same _ _ _ (by rw [hs291]; decide)
  show stepsTo _ _ _ _ _ (a287.put (some 15) (.bool ((addM (Nm.mk 0 0) (negM a)).2))) _
  rw [← ha339]
  clear ha339 hs291 hd292 h293 h294 h295 h296 h297 h298 h299 h300 h301 h302 h303 h304 h305 h306
  clear hne316
  clear hne317
  clear hne318
  clear hne319
  clear hne320
  clear hne321
  refine st_nil ?_
  clear h353 h354
  refine hK _ _ ?_
  clear hK K
  refine wp_seq_k fun K hK => ?_
  have ht357 : (sameM (negM (negM a)) a) = true := neg_neg_same a
  rcases Bool.eq_false_or_eq_true ((mulM a b).2) with ht358 | ht358
  · skip
    have hv359 : a338.eval (.tmp 7) = .bool true := h346.trans (congrArg Value.bool ht358)
    clear h346
    have ht360 : ((mulM (negM a) b).2) = true := (mul_neg a b).1.trans ht358
    have hv361 : a338.eval (.tmp 9) = .bool true := h348.trans (congrArg Value.bool ht360)
    clear h348
    have ht362 : (sameM ((mulM (negM a) b).1) (negM ((mulM a b).1))) = true := (mul_neg a b).2
    rcases Bool.eq_false_or_eq_true ((addM a b).2) with ht363 | ht363
    · skip
      have hv364 : a338.eval (.tmp 11) = .bool true := h350.trans (congrArg Value.bool ht363)
      clear h350
      have ht365 : ((addM (negM a) (negM b)).2) = true := (add_neg a b).1.trans ht363
      have hv366 : a338.eval (.tmp 13) = .bool true := h352.trans (congrArg Value.bool ht365)
      clear h352
      rcases Bool.eq_false_or_eq_true (sameM ((addM (negM a) (negM b)).1) (negM ((addM a b).1))) with ht367 | ht367
      · skip
        have ht368 : ((addM (Nm.mk 0 0) (negM a)).2) = true := (zero_sub a).1
        have hv369 : a338.eval (.tmp 15) = .bool true := h356.trans (congrArg Value.bool ht368)
        clear h356
        rcases Bool.eq_false_or_eq_true (decide (((addM (Nm.mk 0 0) (negM a)).1.k) = 2)) with ht370 | ht370
        · skip
          have ht370d := of_decide_eq_true ht370
          have ht371 : (equalM ((addM (Nm.mk 0 0) (negM a)).1) (negM a)) = false := ((zero_sub a).2.trans (by rw [ht370]; rfl))
          refine wp_g0 [true, true, true, true, true, true, true, true, true, true, true, true, true, true, true, true, true, true, true, true, true, true, true, true, true, true, true, true, true, true, true, true, true, true, true, true, true, true, true, true, true, true, true, true, true, true, true] [] 100
            [ve (.bool true),
             ve (.bool true),
             ve (nv (negM (negM a))),
             ve (nv a),
             ve (.bool true),
             ve (.bool true),
             ve (.bool true),
             ve (.bool true),
             ve (.bool true),
             ve (.bool true),
             ve (.bool true),
             ve (.bool true),
             ve (nv ((mulM (negM a) b).1)),
             ve (nv ((mulM a b).1)),
             ve (nv (negM ((mulM a b).1))),
             ve (.bool true),
             ve (.bool true),
             ve (.bool true),
             ve (.bool true),
             ve (.bool true),
             ve (.bool true),
             ve (.bool true),
             ve (.bool true),
             ve (nv ((addM (negM a) (negM b)).1)),
             ve (nv ((addM a b).1)),
             ve (nv (negM ((addM a b).1))),
             ve (.bool true),
             ve (.bool true),
             ve undef,
             ve undef,
             ve undef,
             ve (.bool true),
             ve (.bool true),
             ve (.bool true),
             ve (.bool true),
             ve (.bool true),
             ve (.bool true),
             ve (nv ((addM (Nm.mk 0 0) (negM a)).1)),
             ve (nv a),
             ve (nv (negM a)),
             ve (.bool false),
             ve (pv q307),
             ve (iv ((addM (Nm.mk 0 0) (negM a)).1.k)),
             ve (.bool false),
             ve (.bool true),
             ve (.bool true),
             ve (.bool true)] hs340 (.eq (.eq (.eq (.eq (.eq (.eq (.eq (.eq (.eq (.eq (.eq (.eq (.eq (.eq (.eq (.eq (.eq (.eq (.eq (.eq (.eq (.eq (.eq (.eq (.eq (.eq (.eq (.eq (.eq (.eq (.eq (.eq (.eq (.eq (.eq (.eq (.eq (.eq (.eq (.eq (.eq (.eq (.eq (.eq (.eq (.eq (.eq (.nil)))))))))))))))))))))))))))))))))))))))))))))))) ?_ ?_
          · skip
            refine .o1 (ck rfl rfl rfl (fun _ w hn k => ⟨#[], rfl, fun _ => by kernel_rfl, first_c  _⟩) fun _ => rfl) ?_
            refine .o1 (tk rfl rfl fun _ w hn k => ⟨_, v_move rfl (k.eq1 0 54 rfl), rfl⟩) ?_
            refine .o1 (tg rfl rfl rfl (fun _ _ k => k.eq1 1 55 rfl) fun _ w hn k => ⟨_, v_load rfl (k.fx 5 h344) (l_two Tryd.isAgg23 Tryd.sizeOf23 (hb332.new_ hn)), rfl⟩) ?_
            refine .o1 (tg rfl rfl rfl (fun _ _ k => k.eq1 1 55 rfl) fun _ w hn k => ⟨_, v_load rfl (k.fx 2 h342) (l_two Tryd.isAgg23 Tryd.sizeOf23 (hb331.new_ hn)), rfl⟩) ?_
            refine .o1 (cg rfl rfl rfl (fun _ _ k => k.eq1 1 55 rfl) rfl (fun _ w hn k => ⟨#[nv (negM (negM a)), nv a], args2 (k.eq1 2 56 rfl) (k.eq1 3 57 rfl), fun _ => by kernel_rfl, same_c (negM (negM a)) a _⟩) fun _ => congrArg Value.bool ht357) ?_
            refine .o1 (tk rfl rfl fun _ w hn k => ⟨_, v_pickT rfl (k.eq1 1 55 rfl) (k.eq1 4 58 rfl), rfl⟩) ?_
            refine .o1 (tk rfl rfl fun _ w hn k => ⟨_, v_move rfl (k.eq1 5 59 rfl), rfl⟩) ?_
            refine .o1 (tg rfl rfl rfl (fun _ _ k => k.eq1 6 60 rfl) fun _ w hn k => ⟨_, v_move rfl (k.fx 7 hv359), rfl⟩) ?_
            refine .o1 (tg rfl rfl rfl (fun _ _ k => k.eq1 6 60 rfl) fun _ w hn k => ⟨_, v_move rfl (k.fx 9 hv361), rfl⟩) ?_
            refine .o1 (tg rfl rfl rfl (fun _ _ k => k.eq1 6 60 rfl) fun _ w hn k => ⟨_, v_bin rfl (k.eq1 7 61 rfl) (k.eq1 8 62 rfl) (fun _ => rfl) (fun w => by kernel_rfl), rfl⟩) ?_
            refine .o1 (tk rfl rfl fun _ w hn k => ⟨_, v_pickT rfl (k.eq1 6 60 rfl) (k.eq1 9 63 rfl), rfl⟩) ?_
            refine .o1 (tk rfl rfl fun _ w hn k => ⟨_, v_move rfl (k.eq1 10 64 rfl), rfl⟩) ?_
            refine .o1 (tg rfl rfl rfl (fun _ _ k => k.eq1 11 65 rfl) fun _ w hn k => ⟨_, v_load rfl (k.fx 8 h347) (l_two Tryd.isAgg23 Tryd.sizeOf23 (hb334.new_ hn)), rfl⟩) ?_
            refine .o1 (tg rfl rfl rfl (fun _ _ k => k.eq1 11 65 rfl) fun _ w hn k => ⟨_, v_load rfl (k.fx 6 h345) (l_two Tryd.isAgg23 Tryd.sizeOf23 (hb333.new_ hn)), rfl⟩) ?_
            refine .o1 (cg rfl rfl rfl (fun _ _ k => k.eq1 11 65 rfl) rfl (fun _ w hn k => ⟨#[nv ((mulM a b).1)], args1 (k.eq1 13 67 rfl), fun _ => by kernel_rfl, neg_c ((mulM a b).1) _⟩) fun _ => rfl) ?_
            refine .o1 (cg rfl rfl rfl (fun _ _ k => k.eq1 11 65 rfl) rfl (fun _ w hn k => ⟨#[nv ((mulM (negM a) b).1), nv (negM ((mulM a b).1))], args2 (k.eq1 12 66 rfl) (k.eq1 14 68 rfl), fun _ => by kernel_rfl, same_c ((mulM (negM a) b).1) (negM ((mulM a b).1)) _⟩) fun _ => congrArg Value.bool ht362) ?_
            refine .o1 (tk rfl rfl fun _ w hn k => ⟨_, v_pickT rfl (k.eq1 11 65 rfl) (k.eq1 15 69 rfl), rfl⟩) ?_
            refine .o1 (tk rfl rfl fun _ w hn k => ⟨_, v_move rfl (k.eq1 16 70 rfl), rfl⟩) ?_
            refine .o1 (tg rfl rfl rfl (fun _ _ k => k.eq1 17 71 rfl) fun _ w hn k => ⟨_, v_move rfl (k.fx 11 hv364), rfl⟩) ?_
            refine .o1 (tg rfl rfl rfl (fun _ _ k => k.eq1 17 71 rfl) fun _ w hn k => ⟨_, v_move rfl (k.fx 13 hv366), rfl⟩) ?_
            refine .o1 (tg rfl rfl rfl (fun _ _ k => k.eq1 17 71 rfl) fun _ w hn k => ⟨_, v_bin rfl (k.eq1 18 72 rfl) (k.eq1 19 73 rfl) (fun _ => rfl) (fun w => by kernel_rfl), rfl⟩) ?_
            refine .o1 (tk rfl rfl fun _ w hn k => ⟨_, v_pickT rfl (k.eq1 17 71 rfl) (k.eq1 20 74 rfl), rfl⟩) ?_
            refine .o1 (tk rfl rfl fun _ w hn k => ⟨_, v_move rfl (k.eq1 21 75 rfl), rfl⟩) ?_
            refine .o1 (tg rfl rfl rfl (fun _ _ k => k.eq1 22 76 rfl) fun _ w hn k => ⟨_, v_load rfl (k.fx 12 h351) (l_two Tryd.isAgg23 Tryd.sizeOf23 (hb336.new_ hn)), rfl⟩) ?_
            refine .o1 (tg rfl rfl rfl (fun _ _ k => k.eq1 22 76 rfl) fun _ w hn k => ⟨_, v_load rfl (k.fx 10 h349) (l_two Tryd.isAgg23 Tryd.sizeOf23 (hb335.new_ hn)), rfl⟩) ?_
            refine .o1 (cg rfl rfl rfl (fun _ _ k => k.eq1 22 76 rfl) rfl (fun _ w hn k => ⟨#[nv ((addM a b).1)], args1 (k.eq1 24 78 rfl), fun _ => by kernel_rfl, neg_c ((addM a b).1) _⟩) fun _ => rfl) ?_
            refine .o1 (cg rfl rfl rfl (fun _ _ k => k.eq1 22 76 rfl) rfl (fun _ w hn k => ⟨#[nv ((addM (negM a) (negM b)).1), nv (negM ((addM a b).1))], args2 (k.eq1 23 77 rfl) (k.eq1 25 79 rfl), fun _ => by kernel_rfl, same_c ((addM (negM a) (negM b)).1) (negM ((addM a b).1)) _⟩) fun _ => congrArg Value.bool ht367) ?_
            refine .o1 (tg rfl rfl rfl (fun _ _ k => k.eq1 22 76 rfl) fun _ w hn k => ⟨_, v_move rfl (k.eq1 26 80 rfl), rfl⟩) ?_
            refine .o1 (sk rfl rfl rfl (fun _ _ _ k => k.eq1 27 81 rfl) (fun _ => rfl)) ?_
            refine .o1 (sk rfl rfl rfl (fun _ _ _ k => k.eq1 27 81 rfl) (fun _ => rfl)) ?_
            refine .o1 (sk rfl rfl rfl (fun _ _ _ k => k.eq1 27 81 rfl) (fun _ => rfl)) ?_
            refine .o1 (tg rfl rfl rfl (fun _ _ k => k.eq1 22 76 rfl) fun _ w hn k => ⟨_, v_pickT rfl (k.eq1 27 81 rfl) rfl, rfl⟩) ?_
            refine .o1 (tk rfl rfl fun _ w hn k => ⟨_, v_pickT rfl (k.eq1 22 76 rfl) (k.eq1 31 85 rfl), rfl⟩) ?_
            refine .o1 (tk rfl rfl fun _ w hn k => ⟨_, v_move rfl (k.eq1 32 86 rfl), rfl⟩) ?_
            refine .o1 (tg rfl rfl rfl (fun _ _ k => k.eq1 33 87 rfl) fun _ w hn k => ⟨_, v_move rfl (k.fx 15 hv369), rfl⟩) ?_
            refine .o1 (tk rfl rfl fun _ w hn k => ⟨_, v_pickT rfl (k.eq1 33 87 rfl) (k.eq1 34 88 rfl), rfl⟩) ?_
            refine .o1 (tk rfl rfl fun _ w hn k => ⟨_, v_move rfl (k.eq1 35 89 rfl), rfl⟩) ?_
            refine .o1 (tg rfl rfl rfl (fun _ _ k => k.eq1 36 90 rfl) fun _ w hn k => ⟨_, v_load rfl (k.fx 14 h355) (l_two Tryd.isAgg23 Tryd.sizeOf23 (hb326.new_ hn)), rfl⟩) ?_
            refine .o1 (tg rfl rfl rfl (fun _ _ k => k.eq1 36 90 rfl) fun _ w hn k => ⟨_, v_load rfl (k.fx 2 h342) (l_two Tryd.isAgg23 Tryd.sizeOf23 (hb331.new_ hn)), rfl⟩) ?_
            refine .o1 (cg rfl rfl rfl (fun _ _ k => k.eq1 36 90 rfl) rfl (fun _ w hn k => ⟨#[nv a], args1 (k.eq1 38 92 rfl), fun _ => by kernel_rfl, neg_c a _⟩) fun _ => rfl) ?_
            refine .o1 (cg rfl rfl rfl (fun _ _ k => k.eq1 36 90 rfl) rfl (fun _ w hn k => ⟨#[nv ((addM (Nm.mk 0 0) (negM a)).1), nv (negM a)], args2 (k.eq1 37 91 rfl) (k.eq1 39 93 rfl), fun _ => by kernel_rfl, equal_c ((addM (Nm.mk 0 0) (negM a)).1) (negM a) _⟩) fun _ => congrArg Value.bool ht371) ?_
            refine .o1 (tg rfl rfl rfl (fun _ _ k => k.eq1 36 90 rfl) fun _ w hn k => ⟨_, v_field rfl (k.fx 14 h355) (fun w => rfl), rfl⟩) ?_
            refine .o1 (tg rfl rfl rfl (fun _ _ k => k.eq1 36 90 rfl) fun _ w hn k => ⟨_, v_load rfl (k.eq1 41 95 rfl) (l_one Tryd.isAgg3 ((hb326.new_ hn).cell 0)), rfl⟩) ?_
            refine .o1 (tg rfl rfl rfl (fun _ _ k => k.eq1 36 90 rfl) fun _ w hn k => ⟨_, v_bin rfl (k.eq1 42 96 rfl) rfl (fun _ => rfl) (r_neq ht370), rfl⟩) ?_
            refine .o1 (tg rfl rfl rfl (fun _ _ k => k.eq1 36 90 rfl) fun _ w hn k => ⟨_, v_bin rfl (k.eq1 40 94 rfl) (k.eq1 43 97 rfl) (fun _ => rfl) (fun w => by kernel_rfl), rfl⟩) ?_
            refine .o1 (tk rfl rfl fun _ w hn k => ⟨_, v_pickT rfl (k.eq1 36 90 rfl) (k.eq1 44 98 rfl), rfl⟩) ?_
            refine .o1 (tk rfl rfl fun _ w hn k => ⟨_, v_assign rfl (k.eq1 45 99 rfl), rfl⟩) ?_
            exact .nil
          intro a372 w373 hn374 ha375
          have hs376 := ha375.size.trans hs340
          have hd377 := ha375.defers.trans hd341
          have h378 := ha375.ge 46 4 rfl
          have hN379 := hN337.transNew hn374
          clear hs340 hd341 h342 h343 h344 h345 hv359 h347 hv361 h349 hv364 h351 hv366 h355 hv369 hb331 hq16 hb332 hq50 hb333 hq84 hb334 hq135 hb335 hq193 hb336 hq255 hb326 hq322 hN337 ha375 hn374
          refine st_nil ?_
          refine hK _ _ ?_
          clear hK K
          refine wp_ret (ret_k hd377 (v := .bool true) (res_t rfl h378 _) ?_)
          exact ⟨rfl, hN379⟩
        have ht370d := of_decide_eq_false ht370
        have ht380 : (equalM ((addM (Nm.mk 0 0) (negM a)).1) (negM a)) = true := ((zero_sub a).2.trans (by rw [ht370]; rfl))
        refine wp_g0 [true, true, true, true, true, true, true, true, true, true, true, true, true, true, true, true, true, true, true, true, true, true, true, true, true, true, true, true, true, true, true, true, true, true, true, true, true, true, true, true, true, true, true, true, true, true, true] [] 100
          [ve (.bool true),
           ve (.bool true),
           ve (nv (negM (negM a))),
           ve (nv a),
           ve (.bool true),
           ve (.bool true),
           ve (.bool true),
           ve (.bool true),
           ve (.bool true),
           ve (.bool true),
           ve (.bool true),
           ve (.bool true),
           ve (nv ((mulM (negM a) b).1)),
           ve (nv ((mulM a b).1)),
           ve (nv (negM ((mulM a b).1))),
           ve (.bool true),
           ve (.bool true),
           ve (.bool true),
           ve (.bool true),
           ve (.bool true),
           ve (.bool true),
           ve (.bool true),
           ve (.bool true),
           ve (nv ((addM (negM a) (negM b)).1)),
           ve (nv ((addM a b).1)),
           ve (nv (negM ((addM a b).1))),
           ve (.bool true),
           ve (.bool true),
           ve undef,
           ve undef,
           ve undef,
           ve (.bool true),
           ve (.bool true),
           ve (.bool true),
           ve (.bool true),
           ve (.bool true),
           ve (.bool true),
           ve (nv ((addM (Nm.mk 0 0) (negM a)).1)),
           ve (nv a),
           ve (nv (negM a)),
           ve (.bool true),
           ve (pv q307),
           ve (iv ((addM (Nm.mk 0 0) (negM a)).1.k)),
           ve (.bool true),
           ve (.bool true),
           ve (.bool true),
           ve (.bool true)] hs340 (.eq (.eq (.eq (.eq (.eq (.eq (.eq (.eq (.eq (.eq (.eq (.eq (.eq (.eq (.eq (.eq (.eq (.eq (.eq (.eq (.eq (.eq (.eq (.eq (.eq (.eq (.eq (.eq (.eq (.eq (.eq (.eq (.eq (.eq (.eq (.eq (.eq (.eq (.eq (.eq (.eq (.eq (.eq (.eq (.eq (.eq (.eq (.nil)))))))))))))))))))))))))))))))))))))))))))))))) ?_ ?_
        · skip
          refine .o1 (ck rfl rfl rfl (fun _ w hn k => ⟨#[], rfl, fun _ => by kernel_rfl, first_c  _⟩) fun _ => rfl) ?_
          refine .o1 (tk rfl rfl fun _ w hn k => ⟨_, v_move rfl (k.eq1 0 54 rfl), rfl⟩) ?_
          refine .o1 (tg rfl rfl rfl (fun _ _ k => k.eq1 1 55 rfl) fun _ w hn k => ⟨_, v_load rfl (k.fx 5 h344) (l_two Tryd.isAgg23 Tryd.sizeOf23 (hb332.new_ hn)), rfl⟩) ?_
          refine .o1 (tg rfl rfl rfl (fun _ _ k => k.eq1 1 55 rfl) fun _ w hn k => ⟨_, v_load rfl (k.fx 2 h342) (l_two Tryd.isAgg23 Tryd.sizeOf23 (hb331.new_ hn)), rfl⟩) ?_
          refine .o1 (cg rfl rfl rfl (fun _ _ k => k.eq1 1 55 rfl) rfl (fun _ w hn k => ⟨#[nv (negM (negM a)), nv a], args2 (k.eq1 2 56 rfl) (k.eq1 3 57 rfl), fun _ => by kernel_rfl, same_c (negM (negM a)) a _⟩) fun _ => congrArg Value.bool ht357) ?_
          refine .o1 (tk rfl rfl fun _ w hn k => ⟨_, v_pickT rfl (k.eq1 1 55 rfl) (k.eq1 4 58 rfl), rfl⟩) ?_
          refine .o1 (tk rfl rfl fun _ w hn k => ⟨_, v_move rfl (k.eq1 5 59 rfl), rfl⟩) ?_
          refine .o1 (tg rfl rfl rfl (fun _ _ k => k.eq1 6 60 rfl) fun _ w hn k => ⟨_, v_move rfl (k.fx 7 hv359), rfl⟩) ?_
          refine .o1 (tg rfl rfl rfl (fun _ _ k => k.eq1 6 60 rfl) fun _ w hn k => ⟨_, v_move rfl (k.fx 9 hv361), rfl⟩) ?_
          refine .o1 (tg rfl rfl rfl (fun _ _ k => k.eq1 6 60 rfl) fun _ w hn k => ⟨_, v_bin rfl (k.eq1 7 61 rfl) (k.eq1 8 62 rfl) (fun _ => rfl) (fun w => by kernel_rfl), rfl⟩) ?_
          refine .o1 (tk rfl rfl fun _ w hn k => ⟨_, v_pickT rfl (k.eq1 6 60 rfl) (k.eq1 9 63 rfl), rfl⟩) ?_
          refine .o1 (tk rfl rfl fun _ w hn k => ⟨_, v_move rfl (k.eq1 10 64 rfl), rfl⟩) ?_
          refine .o1 (tg rfl rfl rfl (fun _ _ k => k.eq1 11 65 rfl) fun _ w hn k => ⟨_, v_load rfl (k.fx 8 h347) (l_two Tryd.isAgg23 Tryd.sizeOf23 (hb334.new_ hn)), rfl⟩) ?_
          refine .o1 (tg rfl rfl rfl (fun _ _ k => k.eq1 11 65 rfl) fun _ w hn k => ⟨_, v_load rfl (k.fx 6 h345) (l_two Tryd.isAgg23 Tryd.sizeOf23 (hb333.new_ hn)), rfl⟩) ?_
          refine .o1 (cg rfl rfl rfl (fun _ _ k => k.eq1 11 65 rfl) rfl (fun _ w hn k => ⟨#[nv ((mulM a b).1)], args1 (k.eq1 13 67 rfl), fun _ => by kernel_rfl, neg_c ((mulM a b).1) _⟩) fun _ => rfl) ?_
          refine .o1 (cg rfl rfl rfl (fun _ _ k => k.eq1 11 65 rfl) rfl (fun _ w hn k => ⟨#[nv ((mulM (negM a) b).1), nv (negM ((mulM a b).1))], args2 (k.eq1 12 66 rfl) (k.eq1 14 68 rfl), fun _ => by kernel_rfl, same_c ((mulM (negM a) b).1) (negM ((mulM a b).1)) _⟩) fun _ => congrArg Value.bool ht362) ?_
          refine .o1 (tk rfl rfl fun _ w hn k => ⟨_, v_pickT rfl (k.eq1 11 65 rfl) (k.eq1 15 69 rfl), rfl⟩) ?_
          refine .o1 (tk rfl rfl fun _ w hn k => ⟨_, v_move rfl (k.eq1 16 70 rfl), rfl⟩) ?_
          refine .o1 (tg rfl rfl rfl (fun _ _ k => k.eq1 17 71 rfl) fun _ w hn k => ⟨_, v_move rfl (k.fx 11 hv364), rfl⟩) ?_
          refine .o1 (tg rfl rfl rfl (fun _ _ k => k.eq1 17 71 rfl) fun _ w hn k => ⟨_, v_move rfl (k.fx 13 hv366), rfl⟩) ?_
          refine .o1 (tg rfl rfl rfl (fun _ _ k => k.eq1 17 71 rfl) fun _ w hn k => ⟨_, v_bin rfl (k.eq1 18 72 rfl) (k.eq1 19 73 rfl) (fun _ => rfl) (fun w => by kernel_rfl), rfl⟩) ?_
          refine .o1 (tk rfl rfl fun _ w hn k => ⟨_, v_pickT rfl (k.eq1 17 71 rfl) (k.eq1 20 74 rfl), rfl⟩) ?_
          refine .o1 (tk rfl rfl fun _ w hn k => ⟨_, v_move rfl (k.eq1 21 75 rfl), rfl⟩) ?_
          refine .o1 (tg rfl rfl rfl (fun _ _ k => k.eq1 22 76 rfl) fun _ w hn k => ⟨_, v_load rfl (k.fx 12 h351) (l_two Tryd.isAgg23 Tryd.sizeOf23 (hb336.new_ hn)), rfl⟩) ?_
          refine .o1 (tg rfl rfl rfl (fun _ _ k => k.eq1 22 76 rfl) fun _ w hn k => ⟨_, v_load rfl (k.fx 10 h349) (l_two Tryd.isAgg23 Tryd.sizeOf23 (hb335.new_ hn)), rfl⟩) ?_
          refine .o1 (cg rfl rfl rfl (fun _ _ k => k.eq1 22 76 rfl) rfl (fun _ w hn k => ⟨#[nv ((addM a b).1)], args1 (k.eq1 24 78 rfl), fun _ => by kernel_rfl, neg_c ((addM a b).1) _⟩) fun _ => rfl) ?_
          refine .o1 (cg rfl rfl rfl (fun _ _ k => k.eq1 22 76 rfl) rfl (fun _ w hn k => ⟨#[nv ((addM (negM a) (negM b)).1), nv (negM ((addM a b).1))], args2 (k.eq1 23 77 rfl) (k.eq1 25 79 rfl), fun _ => by kernel_rfl, same_c ((addM (negM a) (negM b)).1) (negM ((addM a b).1)) _⟩) fun _ => congrArg Value.bool ht367) ?_
          refine .o1 (tg rfl rfl rfl (fun _ _ k => k.eq1 22 76 rfl) fun _ w hn k => ⟨_, v_move rfl (k.eq1 26 80 rfl), rfl⟩) ?_
          refine .o1 (sk rfl rfl rfl (fun _ _ _ k => k.eq1 27 81 rfl) (fun _ => rfl)) ?_
          refine .o1 (sk rfl rfl rfl (fun _ _ _ k => k.eq1 27 81 rfl) (fun _ => rfl)) ?_
          refine .o1 (sk rfl rfl rfl (fun _ _ _ k => k.eq1 27 81 rfl) (fun _ => rfl)) ?_
          refine .o1 (tg rfl rfl rfl (fun _ _ k => k.eq1 22 76 rfl) fun _ w hn k => ⟨_, v_pickT rfl (k.eq1 27 81 rfl) rfl, rfl⟩) ?_
          refine .o1 (tk rfl rfl fun _ w hn k => ⟨_, v_pickT rfl (k.eq1 22 76 rfl) (k.eq1 31 85 rfl), rfl⟩) ?_
          refine .o1 (tk rfl rfl fun _ w hn k => ⟨_, v_move rfl (k.eq1 32 86 rfl), rfl⟩) ?_
          refine .o1 (tg rfl rfl rfl (fun _ _ k => k.eq1 33 87 rfl) fun _ w hn k => ⟨_, v_move rfl (k.fx 15 hv369), rfl⟩) ?_
          refine .o1 (tk rfl rfl fun _ w hn k => ⟨_, v_pickT rfl (k.eq1 33 87 rfl) (k.eq1 34 88 rfl), rfl⟩) ?_
          refine .o1 (tk rfl rfl fun _ w hn k => ⟨_, v_move rfl (k.eq1 35 89 rfl), rfl⟩) ?_
          refine .o1 (tg rfl rfl rfl (fun _ _ k => k.eq1 36 90 rfl) fun _ w hn k => ⟨_, v_load rfl (k.fx 14 h355) (l_two Tryd.isAgg23 Tryd.sizeOf23 (hb326.new_ hn)), rfl⟩) ?_
          refine .o1 (tg rfl rfl rfl (fun _ _ k => k.eq1 36 90 rfl) fun _ w hn k => ⟨_, v_load rfl (k.fx 2 h342) (l_two Tryd.isAgg23 Tryd.sizeOf23 (hb331.new_ hn)), rfl⟩) ?_
          refine .o1 (cg rfl rfl rfl (fun _ _ k => k.eq1 36 90 rfl) rfl (fun _ w hn k => ⟨#[nv a], args1 (k.eq1 38 92 rfl), fun _ => by kernel_rfl, neg_c a _⟩) fun _ => rfl) ?_
          refine .o1 (cg rfl rfl rfl (fun _ _ k => k.eq1 36 90 rfl) rfl (fun _ w hn k => ⟨#[nv ((addM (Nm.mk 0 0) (negM a)).1), nv (negM a)], args2 (k.eq1 37 91 rfl) (k.eq1 39 93 rfl), fun _ => by kernel_rfl, equal_c ((addM (Nm.mk 0 0) (negM a)).1) (negM a) _⟩) fun _ => congrArg Value.bool ht380) ?_
          refine .o1 (tg rfl rfl rfl (fun _ _ k => k.eq1 36 90 rfl) fun _ w hn k => ⟨_, v_field rfl (k.fx 14 h355) (fun w => rfl), rfl⟩) ?_
          refine .o1 (tg rfl rfl rfl (fun _ _ k => k.eq1 36 90 rfl) fun _ w hn k => ⟨_, v_load rfl (k.eq1 41 95 rfl) (l_one Tryd.isAgg3 ((hb326.new_ hn).cell 0)), rfl⟩) ?_
          refine .o1 (tg rfl rfl rfl (fun _ _ k => k.eq1 36 90 rfl) fun _ w hn k => ⟨_, v_bin rfl (k.eq1 42 96 rfl) rfl (fun _ => rfl) (r_neq ht370), rfl⟩) ?_
          refine .o1 (tg rfl rfl rfl (fun _ _ k => k.eq1 36 90 rfl) fun _ w hn k => ⟨_, v_bin rfl (k.eq1 40 94 rfl) (k.eq1 43 97 rfl) (fun _ => rfl) (fun w => by kernel_rfl), rfl⟩) ?_
          refine .o1 (tk rfl rfl fun _ w hn k => ⟨_, v_pickT rfl (k.eq1 36 90 rfl) (k.eq1 44 98 rfl), rfl⟩) ?_
          refine .o1 (tk rfl rfl fun _ w hn k => ⟨_, v_assign rfl (k.eq1 45 99 rfl), rfl⟩) ?_
          exact .nil
        intro a381 w382 hn383 ha384
        have hs385 := ha384.size.trans hs340
        have hd386 := ha384.defers.trans hd341
        have h387 := ha384.ge 46 4 rfl
        have hN388 := hN337.transNew hn383
        clear hs340 hd341 h342 h343 h344 h345 hv359 h347 hv361 h349 hv364 h351 hv366 h355 hv369 hb331 hq16 hb332 hq50 hb333 hq84 hb334 hq135 hb335 hq193 hb336 hq255 hb326 hq322 hN337 ha384 hn383
        refine st_nil ?_
        refine hK _ _ ?_
        clear hK K
        refine wp_ret (ret_k hd386 (v := .bool true) (res_t rfl h387 _) ?_)
        exact ⟨rfl, hN388⟩
      have ht389 : (equalM ((addM a b).1) (Nm.mk 0 0)) = true := ((add_neg a b).2.resolve_left (by rw [ht367]; simp))
      have ht390 : ((addM (Nm.mk 0 0) (negM a)).2) = true := (zero_sub a).1
      have hv391 : a338.eval (.tmp 15) = .bool true := h356.trans (congrArg Value.bool ht390)
      clear h356
      rcases Bool.eq_false_or_eq_true (decide (((addM (Nm.mk 0 0) (negM a)).1.k) = 2)) with ht392 | ht392
      · skip
        have ht392d := of_decide_eq_true ht392
        have ht393 : (equalM ((addM (Nm.mk 0 0) (negM a)).1) (negM a)) = false := ((zero_sub a).2.trans (by rw [ht392]; rfl))
        refine wp_g0 [true, true, true, true, true, true, true, true, true, true, true, true, true, true, true, true, true, true, true, true, true, true, true, true, true, true, true, true, true, true, true, true, true, true, true, true, true, true, true, true, true, true, true, true, true, true, true] [] 100
          [ve (.bool true),
           ve (.bool true),
           ve (nv (negM (negM a))),
           ve (nv a),
           ve (.bool true),
           ve (.bool true),
           ve (.bool true),
           ve (.bool true),
           ve (.bool true),
           ve (.bool true),
           ve (.bool true),
           ve (.bool true),
           ve (nv ((mulM (negM a) b).1)),
           ve (nv ((mulM a b).1)),
           ve (nv (negM ((mulM a b).1))),
           ve (.bool true),
           ve (.bool true),
           ve (.bool true),
           ve (.bool true),
           ve (.bool true),
           ve (.bool true),
           ve (.bool true),
           ve (.bool true),
           ve (nv ((addM (negM a) (negM b)).1)),
           ve (nv ((addM a b).1)),
           ve (nv (negM ((addM a b).1))),
           ve (.bool false),
           ve (.bool false),
           ve (nv ((addM a b).1)),
           ve (nv (Nm.mk 0 0)),
           ve (.bool true),
           ve (.bool true),
           ve (.bool true),
           ve (.bool true),
           ve (.bool true),
           ve (.bool true),
           ve (.bool true),
           ve (nv ((addM (Nm.mk 0 0) (negM a)).1)),
           ve (nv a),
           ve (nv (negM a)),
           ve (.bool false),
           ve (pv q307),
           ve (iv ((addM (Nm.mk 0 0) (negM a)).1.k)),
           ve (.bool false),
           ve (.bool true),
           ve (.bool true),
           ve (.bool true)] hs340 (.eq (.eq (.eq (.eq (.eq (.eq (.eq (.eq (.eq (.eq (.eq (.eq (.eq (.eq (.eq (.eq (.eq (.eq (.eq (.eq (.eq (.eq (.eq (.eq (.eq (.eq (.eq (.eq (.eq (.eq (.eq (.eq (.eq (.eq (.eq (.eq (.eq (.eq (.eq (.eq (.eq (.eq (.eq (.eq (.eq (.eq (.eq (.nil)))))))))))))))))))))))))))))))))))))))))))))))) ?_ ?_
        · skip
          refine .o1 (ck rfl rfl rfl (fun _ w hn k => ⟨#[], rfl, fun _ => by kernel_rfl, first_c  _⟩) fun _ => rfl) ?_
          refine .o1 (tk rfl rfl fun _ w hn k => ⟨_, v_move rfl (k.eq1 0 54 rfl), rfl⟩) ?_
          refine .o1 (tg rfl rfl rfl (fun _ _ k => k.eq1 1 55 rfl) fun _ w hn k => ⟨_, v_load rfl (k.fx 5 h344) (l_two Tryd.isAgg23 Tryd.sizeOf23 (hb332.new_ hn)), rfl⟩) ?_
          refine .o1 (tg rfl rfl rfl (fun _ _ k => k.eq1 1 55 rfl) fun _ w hn k => ⟨_, v_load rfl (k.fx 2 h342) (l_two Tryd.isAgg23 Tryd.sizeOf23 (hb331.new_ hn)), rfl⟩) ?_
          refine .o1 (cg rfl rfl rfl (fun _ _ k => k.eq1 1 55 rfl) rfl (fun _ w hn k => ⟨#[nv (negM (negM a)), nv a], args2 (k.eq1 2 56 rfl) (k.eq1 3 57 rfl), fun _ => by kernel_rfl, same_c (negM (negM a)) a _⟩) fun _ => congrArg Value.bool ht357) ?_
          refine .o1 (tk rfl rfl fun _ w hn k => ⟨_, v_pickT rfl (k.eq1 1 55 rfl) (k.eq1 4 58 rfl), rfl⟩) ?_
          refine .o1 (tk rfl rfl fun _ w hn k => ⟨_, v_move rfl (k.eq1 5 59 rfl), rfl⟩) ?_
          refine .o1 (tg rfl rfl rfl (fun _ _ k => k.eq1 6 60 rfl) fun _ w hn k => ⟨_, v_move rfl (k.fx 7 hv359), rfl⟩) ?_
          refine .o1 (tg rfl rfl rfl (fun _ _ k => k.eq1 6 60 rfl) fun _ w hn k => ⟨_, v_move rfl (k.fx 9 hv361), rfl⟩) ?_
          refine .o1 (tg rfl rfl rfl (fun _ _ k => k.eq1 6 60 rfl) fun _ w hn k => ⟨_, v_bin rfl (k.eq1 7 61 rfl) (k.eq1 8 62 rfl) (fun _ => rfl) (fun w => by kernel_rfl), rfl⟩) ?_
          refine .o1 (tk rfl rfl fun _ w hn k => ⟨_, v_pickT rfl (k.eq1 6 60 rfl) (k.eq1 9 63 rfl), rfl⟩) ?_
          refine .o1 (tk rfl rfl fun _ w hn k => ⟨_, v_move rfl (k.eq1 10 64 rfl), rfl⟩) ?_
          refine .o1 (tg rfl rfl rfl (fun _ _ k => k.eq1 11 65 rfl) fun _ w hn k => ⟨_, v_load rfl (k.fx 8 h347) (l_two Tryd.isAgg23 Tryd.sizeOf23 (hb334.new_ hn)), rfl⟩) ?_
          refine .o1 (tg rfl rfl rfl (fun _ _ k => k.eq1 11 65 rfl) fun _ w hn k => ⟨_, v_load rfl (k.fx 6 h345) (l_two Tryd.isAgg23 Tryd.sizeOf23 (hb333.new_ hn)), rfl⟩) ?_
          refine .o1 (cg rfl rfl rfl (fun _ _ k => k.eq1 11 65 rfl) rfl (fun _ w hn k => ⟨#[nv ((mulM a b).1)], args1 (k.eq1 13 67 rfl), fun _ => by kernel_rfl, neg_c ((mulM a b).1) _⟩) fun _ => rfl) ?_
          refine .o1 (cg rfl rfl rfl (fun _ _ k => k.eq1 11 65 rfl) rfl (fun _ w hn k => ⟨#[nv ((mulM (negM a) b).1), nv (negM ((mulM a b).1))], args2 (k.eq1 12 66 rfl) (k.eq1 14 68 rfl), fun _ => by kernel_rfl, same_c ((mulM (negM a) b).1) (negM ((mulM a b).1)) _⟩) fun _ => congrArg Value.bool ht362) ?_
          refine .o1 (tk rfl rfl fun _ w hn k => ⟨_, v_pickT rfl (k.eq1 11 65 rfl) (k.eq1 15 69 rfl), rfl⟩) ?_
          refine .o1 (tk rfl rfl fun _ w hn k => ⟨_, v_move rfl (k.eq1 16 70 rfl), rfl⟩) ?_
          refine .o1 (tg rfl rfl rfl (fun _ _ k => k.eq1 17 71 rfl) fun _ w hn k => ⟨_, v_move rfl (k.fx 11 hv364), rfl⟩) ?_
          refine .o1 (tg rfl rfl rfl (fun _ _ k => k.eq1 17 71 rfl) fun _ w hn k => ⟨_, v_move rfl (k.fx 13 hv366), rfl⟩) ?_
          refine .o1 (tg rfl rfl rfl (fun _ _ k => k.eq1 17 71 rfl) fun _ w hn k => ⟨_, v_bin rfl (k.eq1 18 72 rfl) (k.eq1 19 73 rfl) (fun _ => rfl) (fun w => by kernel_rfl), rfl⟩) ?_
          refine .o1 (tk rfl rfl fun _ w hn k => ⟨_, v_pickT rfl (k.eq1 17 71 rfl) (k.eq1 20 74 rfl), rfl⟩) ?_
          refine .o1 (tk rfl rfl fun _ w hn k => ⟨_, v_move rfl (k.eq1 21 75 rfl), rfl⟩) ?_
          refine .o1 (tg rfl rfl rfl (fun _ _ k => k.eq1 22 76 rfl) fun _ w hn k => ⟨_, v_load rfl (k.fx 12 h351) (l_two Tryd.isAgg23 Tryd.sizeOf23 (hb336.new_ hn)), rfl⟩) ?_
          refine .o1 (tg rfl rfl rfl (fun _ _ k => k.eq1 22 76 rfl) fun _ w hn k => ⟨_, v_load rfl (k.fx 10 h349) (l_two Tryd.isAgg23 Tryd.sizeOf23 (hb335.new_ hn)), rfl⟩) ?_
          refine .o1 (cg rfl rfl rfl (fun _ _ k => k.eq1 22 76 rfl) rfl (fun _ w hn k => ⟨#[nv ((addM a b).1)], args1 (k.eq1 24 78 rfl), fun _ => by kernel_rfl, neg_c ((addM a b).1) _⟩) fun _ => rfl) ?_
          refine .o1 (cg rfl rfl rfl (fun _ _ k => k.eq1 22 76 rfl) rfl (fun _ w hn k => ⟨#[nv ((addM (negM a) (negM b)).1), nv (negM ((addM a b).1))], args2 (k.eq1 23 77 rfl) (k.eq1 25 79 rfl), fun _ => by kernel_rfl, same_c ((addM (negM a) (negM b)).1) (negM ((addM a b).1)) _⟩) fun _ => congrArg Value.bool ht367) ?_
          refine .o1 (tg rfl rfl rfl (fun _ _ k => k.eq1 22 76 rfl) fun _ w hn k => ⟨_, v_move rfl (k.eq1 26 80 rfl), rfl⟩) ?_
          refine .o1 (tg rfl rfl rfl (fun _ _ k => k.eq1 27 81 rfl) fun _ w hn k => ⟨_, v_load rfl (k.fx 10 h349) (l_two Tryd.isAgg23 Tryd.sizeOf23 (hb335.new_ hn)), rfl⟩) ?_
          refine .o1 (cg rfl rfl rfl (fun _ _ k => k.eq1 27 81 rfl) rfl (fun _ w hn k => ⟨#[iv 0], args1 rfl, fun _ => by kernel_rfl, w_c 0 _⟩) fun _ => rfl) ?_
          refine .o1 (cg rfl rfl rfl (fun _ _ k => k.eq1 27 81 rfl) rfl (fun _ w hn k => ⟨#[nv ((addM a b).1), nv (Nm.mk 0 0)], args2 (k.eq1 28 82 rfl) (k.eq1 29 83 rfl), fun _ => by kernel_rfl, equal_c ((addM a b).1) (Nm.mk 0 0) _⟩) fun _ => congrArg Value.bool ht389) ?_
          refine .o1 (tg rfl rfl rfl (fun _ _ k => k.eq1 22 76 rfl) fun _ w hn k => ⟨_, v_pickF rfl (k.eq1 27 81 rfl) (k.eq1 30 84 rfl), rfl⟩) ?_
          refine .o1 (tk rfl rfl fun _ w hn k => ⟨_, v_pickT rfl (k.eq1 22 76 rfl) (k.eq1 31 85 rfl), rfl⟩) ?_
          refine .o1 (tk rfl rfl fun _ w hn k => ⟨_, v_move rfl (k.eq1 32 86 rfl), rfl⟩) ?_
          refine .o1 (tg rfl rfl rfl (fun _ _ k => k.eq1 33 87 rfl) fun _ w hn k => ⟨_, v_move rfl (k.fx 15 hv391), rfl⟩) ?_
          refine .o1 (tk rfl rfl fun _ w hn k => ⟨_, v_pickT rfl (k.eq1 33 87 rfl) (k.eq1 34 88 rfl), rfl⟩) ?_
          refine .o1 (tk rfl rfl fun _ w hn k => ⟨_, v_move rfl (k.eq1 35 89 rfl), rfl⟩) ?_
          refine .o1 (tg rfl rfl rfl (fun _ _ k => k.eq1 36 90 rfl) fun _ w hn k => ⟨_, v_load rfl (k.fx 14 h355) (l_two Tryd.isAgg23 Tryd.sizeOf23 (hb326.new_ hn)), rfl⟩) ?_
          refine .o1 (tg rfl rfl rfl (fun _ _ k => k.eq1 36 90 rfl) fun _ w hn k => ⟨_, v_load rfl (k.fx 2 h342) (l_two Tryd.isAgg23 Tryd.sizeOf23 (hb331.new_ hn)), rfl⟩) ?_
          refine .o1 (cg rfl rfl rfl (fun _ _ k => k.eq1 36 90 rfl) rfl (fun _ w hn k => ⟨#[nv a], args1 (k.eq1 38 92 rfl), fun _ => by kernel_rfl, neg_c a _⟩) fun _ => rfl) ?_
          refine .o1 (cg rfl rfl rfl (fun _ _ k => k.eq1 36 90 rfl) rfl (fun _ w hn k => ⟨#[nv ((addM (Nm.mk 0 0) (negM a)).1), nv (negM a)], args2 (k.eq1 37 91 rfl) (k.eq1 39 93 rfl), fun _ => by kernel_rfl, equal_c ((addM (Nm.mk 0 0) (negM a)).1) (negM a) _⟩) fun _ => congrArg Value.bool ht393) ?_
          refine .o1 (tg rfl rfl rfl (fun _ _ k => k.eq1 36 90 rfl) fun _ w hn k => ⟨_, v_field rfl (k.fx 14 h355) (fun w => rfl), rfl⟩) ?_
          refine .o1 (tg rfl rfl rfl (fun _ _ k => k.eq1 36 90 rfl) fun _ w hn k => ⟨_, v_load rfl (k.eq1 41 95 rfl) (l_one Tryd.isAgg3 ((hb326.new_ hn).cell 0)), rfl⟩) ?_
          refine .o1 (tg rfl rfl rfl (fun _ _ k => k.eq1 36 90 rfl) fun _ w hn k => ⟨_, v_bin rfl (k.eq1 42 96 rfl) rfl (fun _ => rfl) (r_neq ht392), rfl⟩) ?_
          refine .o1 (tg rfl rfl rfl (fun _ _ k => k.eq1 36 90 rfl) fun _ w hn k => ⟨_, v_bin rfl (k.eq1 40 94 rfl) (k.eq1 43 97 rfl) (fun _ => rfl) (fun w => by kernel_rfl), rfl⟩) ?_
          refine .o1 (tk rfl rfl fun _ w hn k => ⟨_, v_pickT rfl (k.eq1 36 90 rfl) (k.eq1 44 98 rfl), rfl⟩) ?_
          refine .o1 (tk rfl rfl fun _ w hn k => ⟨_, v_assign rfl (k.eq1 45 99 rfl), rfl⟩) ?_
          exact .nil
        intro a394 w395 hn396 ha397
        have hs398 := ha397.size.trans hs340
        have hd399 := ha397.defers.trans hd341
        have h400 := ha397.ge 46 4 rfl
        have hN401 := hN337.transNew hn396
        clear hs340 hd341 h342 h343 h344 h345 hv359 h347 hv361 h349 hv364 h351 hv366 h355 hv391 hb331 hq16 hb332 hq50 hb333 hq84 hb334 hq135 hb335 hq193 hb336 hq255 hb326 hq322 hN337 ha397 hn396
        refine st_nil ?_
        refine hK _ _ ?_
        clear hK K
        refine wp_ret (ret_k hd399 (v := .bool true) (res_t rfl h400 _) ?_)
        exact ⟨rfl, hN401⟩
      have ht392d := of_decide_eq_false ht392
      have ht402 : (equalM ((addM (Nm.mk 0 0) (negM a)).1) (negM a)) = true := ((zero_sub a).2.trans (by rw [ht392]; rfl))
      refine wp_g0 [true, true, true, true, true, true, true, true, true, true, true, true, true, true, true, true, true, true, true, true, true, true, true, true, true, true, true, true, true, true, true, true, true, true, true, true, true, true, true, true, true, true, true, true, true, true, true] [] 100
        [ve (.bool true),
         ve (.bool true),
         ve (nv (negM (negM a))),
         ve (nv a),
         ve (.bool true),
         ve (.bool true),
         ve (.bool true),
         ve (.bool true),
         ve (.bool true),
         ve (.bool true),
         ve (.bool true),
         ve (.bool true),
         ve (nv ((mulM (negM a) b).1)),
         ve (nv ((mulM a b).1)),
         ve (nv (negM ((mulM a b).1))),
         ve (.bool true),
         ve (.bool true),
         ve (.bool true),
         ve (.bool true),
         ve (.bool true),
         ve (.bool true),
         ve (.bool true),
         ve (.bool true),
         ve (nv ((addM (negM a) (negM b)).1)),
         ve (nv ((addM a b).1)),
         ve (nv (negM ((addM a b).1))),
         ve (.bool false),
         ve (.bool false),
         ve (nv ((addM a b).1)),
         ve (nv (Nm.mk 0 0)),
         ve (.bool true),
         ve (.bool true),
         ve (.bool true),
         ve (.bool true),
         ve (.bool true),
         ve (.bool true),
         ve (.bool true),
         ve (nv ((addM (Nm.mk 0 0) (negM a)).1)),
         ve (nv a),
         ve (nv (negM a)),
         ve (.bool true),
         ve (pv q307),
         ve (iv ((addM (Nm.mk 0 0) (negM a)).1.k)),
         ve (.bool true),
         ve (.bool true),
         ve (.bool true),
         ve (.bool true)] hs340 (.eq (.eq (.eq (.eq (.eq (.eq (.eq (.eq (.eq (.eq (.eq (.eq (.eq (.eq (.eq (.eq (.eq (.eq (.eq (.eq (.eq (.eq (.eq (.eq (.eq (.eq (.eq (.eq (.eq (.eq (.eq (.eq (.eq (.eq (.eq (.eq (.eq (.eq (.eq (.eq (.eq (.eq (.eq (.eq (.eq (.eq (.eq (.nil)))))))))))))))))))))))))))))))))))))))))))))))) ?_ ?_
      · skip
        refine .o1 (ck rfl rfl rfl (fun _ w hn k => ⟨#[], rfl, fun _ => by kernel_rfl, first_c  _⟩) fun _ => rfl) ?_
        refine .o1 (tk rfl rfl fun _ w hn k => ⟨_, v_move rfl (k.eq1 0 54 rfl), rfl⟩) ?_
        refine .o1 (tg rfl rfl rfl (fun _ _ k => k.eq1 1 55 rfl) fun _ w hn k => ⟨_, v_load rfl (k.fx 5 h344) (l_two Tryd.isAgg23 Tryd.sizeOf23 (hb332.new_ hn)), rfl⟩) ?_
        refine .o1 (tg rfl rfl rfl (fun _ _ k => k.eq1 1 55 rfl) fun _ w hn k => ⟨_, v_load rfl (k.fx 2 h342) (l_two Tryd.isAgg23 Tryd.sizeOf23 (hb331.new_ hn)), rfl⟩) ?_
        refine .o1 (cg rfl rfl rfl (fun _ _ k => k.eq1 1 55 rfl) rfl (fun _ w hn k => ⟨#[nv (negM (negM a)), nv a], args2 (k.eq1 2 56 rfl) (k.eq1 3 57 rfl), fun _ => by kernel_rfl, same_c (negM (negM a)) a _⟩) fun _ => congrArg Value.bool ht357) ?_
        refine .o1 (tk rfl rfl fun _ w hn k => ⟨_, v_pickT rfl (k.eq1 1 55 rfl) (k.eq1 4 58 rfl), rfl⟩) ?_
        refine .o1 (tk rfl rfl fun _ w hn k => ⟨_, v_move rfl (k.eq1 5 59 rfl), rfl⟩) ?_
        refine .o1 (tg rfl rfl rfl (fun _ _ k => k.eq1 6 60 rfl) fun _ w hn k => ⟨_, v_move rfl (k.fx 7 hv359), rfl⟩) ?_
        refine .o1 (tg rfl rfl rfl (fun _ _ k => k.eq1 6 60 rfl) fun _ w hn k => ⟨_, v_move rfl (k.fx 9 hv361), rfl⟩) ?_
        refine .o1 (tg rfl rfl rfl (fun _ _ k => k.eq1 6 60 rfl) fun _ w hn k => ⟨_, v_bin rfl (k.eq1 7 61 rfl) (k.eq1 8 62 rfl) (fun _ => rfl) (fun w => by kernel_rfl), rfl⟩) ?_
        refine .o1 (tk rfl rfl fun _ w hn k => ⟨_, v_pickT rfl (k.eq1 6 60 rfl) (k.eq1 9 63 rfl), rfl⟩) ?_
        refine .o1 (tk rfl rfl fun _ w hn k => ⟨_, v_move rfl (k.eq1 10 64 rfl), rfl⟩) ?_
        refine .o1 (tg rfl rfl rfl (fun _ _ k => k.eq1 11 65 rfl) fun _ w hn k => ⟨_, v_load rfl (k.fx 8 h347) (l_two Tryd.isAgg23 Tryd.sizeOf23 (hb334.new_ hn)), rfl⟩) ?_
        refine .o1 (tg rfl rfl rfl (fun _ _ k => k.eq1 11 65 rfl) fun _ w hn k => ⟨_, v_load rfl (k.fx 6 h345) (l_two Tryd.isAgg23 Tryd.sizeOf23 (hb333.new_ hn)), rfl⟩) ?_
        refine .o1 (cg rfl rfl rfl (fun _ _ k => k.eq1 11 65 rfl) rfl (fun _ w hn k => ⟨#[nv ((mulM a b).1)], args1 (k.eq1 13 67 rfl), fun _ => by kernel_rfl, neg_c ((mulM a b).1) _⟩) fun _ => rfl) ?_
        refine .o1 (cg rfl rfl rfl (fun _ _ k => k.eq1 11 65 rfl) rfl (fun _ w hn k => ⟨#[nv ((mulM (negM a) b).1), nv (negM ((mulM a b).1))], args2 (k.eq1 12 66 rfl) (k.eq1 14 68 rfl), fun _ => by kernel_rfl, same_c ((mulM (negM a) b).1) (negM ((mulM a b).1)) _⟩) fun _ => congrArg Value.bool ht362) ?_
        refine .o1 (tk rfl rfl fun _ w hn k => ⟨_, v_pickT rfl (k.eq1 11 65 rfl) (k.eq1 15 69 rfl), rfl⟩) ?_
        refine .o1 (tk rfl rfl fun _ w hn k => ⟨_, v_move rfl (k.eq1 16 70 rfl), rfl⟩) ?_
        refine .o1 (tg rfl rfl rfl (fun _ _ k => k.eq1 17 71 rfl) fun _ w hn k => ⟨_, v_move rfl (k.fx 11 hv364), rfl⟩) ?_
        refine .o1 (tg rfl rfl rfl (fun _ _ k => k.eq1 17 71 rfl) fun _ w hn k => ⟨_, v_move rfl (k.fx 13 hv366), rfl⟩) ?_
        refine .o1 (tg rfl rfl rfl (fun _ _ k => k.eq1 17 71 rfl) fun _ w hn k => ⟨_, v_bin rfl (k.eq1 18 72 rfl) (k.eq1 19 73 rfl) (fun _ => rfl) (fun w => by kernel_rfl), rfl⟩) ?_
        refine .o1 (tk rfl rfl fun _ w hn k => ⟨_, v_pickT rfl (k.eq1 17 71 rfl) (k.eq1 20 74 rfl), rfl⟩) ?_
        refine .o1 (tk rfl rfl fun _ w hn k => ⟨_, v_move rfl (k.eq1 21 75 rfl), rfl⟩) ?_
        refine .o1 (tg rfl rfl rfl (fun _ _ k => k.eq1 22 76 rfl) fun _ w hn k => ⟨_, v_load rfl (k.fx 12 h351) (l_two Tryd.isAgg23 Tryd.sizeOf23 (hb336.new_ hn)), rfl⟩) ?_
        refine .o1 (tg rfl rfl rfl (fun _ _ k => k.eq1 22 76 rfl) fun _ w hn k => ⟨_, v_load rfl (k.fx 10 h349) (l_two Tryd.isAgg23 Tryd.sizeOf23 (hb335.new_ hn)), rfl⟩) ?_
        refine .o1 (cg rfl rfl rfl (fun _ _ k => k.eq1 22 76 rfl) rfl (fun _ w hn k => ⟨#[nv ((addM a b).1)], args1 (k.eq1 24 78 rfl), fun _ => by kernel_rfl, neg_c ((addM a b).1) _⟩) fun _ => rfl) ?_
        refine .o1 (cg rfl rfl rfl (fun _ _ k => k.eq1 22 76 rfl) rfl (fun _ w hn k => ⟨#[nv ((addM (negM a) (negM b)).1), nv (negM ((addM a b).1))], args2 (k.eq1 23 77 rfl) (k.eq1 25 79 rfl), fun _ => by kernel_rfl, same_c ((addM (negM a) (negM b)).1) (negM ((addM a b).1)) _⟩) fun _ => congrArg Value.bool ht367) ?_
        refine .o1 (tg rfl rfl rfl (fun _ _ k => k.eq1 22 76 rfl) fun _ w hn k => ⟨_, v_move rfl (k.eq1 26 80 rfl), rfl⟩) ?_
        refine .o1 (tg rfl rfl rfl (fun _ _ k => k.eq1 27 81 rfl) fun _ w hn k => ⟨_, v_load rfl (k.fx 10 h349) (l_two Tryd.isAgg23 Tryd.sizeOf23 (hb335.new_ hn)), rfl⟩) ?_
        refine .o1 (cg rfl rfl rfl (fun _ _ k => k.eq1 27 81 rfl) rfl (fun _ w hn k => ⟨#[iv 0], args1 rfl, fun _ => by kernel_rfl, w_c 0 _⟩) fun _ => rfl) ?_
        refine .o1 (cg rfl rfl rfl (fun _ _ k => k.eq1 27 81 rfl) rfl (fun _ w hn k => ⟨#[nv ((addM a b).1), nv (Nm.mk 0 0)], args2 (k.eq1 28 82 rfl) (k.eq1 29 83 rfl), fun _ => by kernel_rfl, equal_c ((addM a b).1) (Nm.mk 0 0) _⟩) fun _ => congrArg Value.bool ht389) ?_
        refine .o1 (tg rfl rfl rfl (fun _ _ k => k.eq1 22 76 rfl) fun _ w hn k => ⟨_, v_pickF rfl (k.eq1 27 81 rfl) (k.eq1 30 84 rfl), rfl⟩) ?_
        refine .o1 (tk rfl rfl fun _ w hn k => ⟨_, v_pickT rfl (k.eq1 22 76 rfl) (k.eq1 31 85 rfl), rfl⟩) ?_
        refine .o1 (tk rfl rfl fun _ w hn k => ⟨_, v_move rfl (k.eq1 32 86 rfl), rfl⟩) ?_
        refine .o1 (tg rfl rfl rfl (fun _ _ k => k.eq1 33 87 rfl) fun _ w hn k => ⟨_, v_move rfl (k.fx 15 hv391), rfl⟩) ?_
        refine .o1 (tk rfl rfl fun _ w hn k => ⟨_, v_pickT rfl (k.eq1 33 87 rfl) (k.eq1 34 88 rfl), rfl⟩) ?_
        refine .o1 (tk rfl rfl fun _ w hn k => ⟨_, v_move rfl (k.eq1 35 89 rfl), rfl⟩) ?_
        refine .o1 (tg rfl rfl rfl (fun _ _ k => k.eq1 36 90 rfl) fun _ w hn k => ⟨_, v_load rfl (k.fx 14 h355) (l_two Tryd.isAgg23 Tryd.sizeOf23 (hb326.new_ hn)), rfl⟩) ?_
        refine .o1 (tg rfl rfl rfl (fun _ _ k => k.eq1 36 90 rfl) fun _ w hn k => ⟨_, v_load rfl (k.fx 2 h342) (l_two Tryd.isAgg23 Tryd.sizeOf23 (hb331.new_ hn)), rfl⟩) ?_
        refine .o1 (cg rfl rfl rfl (fun _ _ k => k.eq1 36 90 rfl) rfl (fun _ w hn k => ⟨#[nv a], args1 (k.eq1 38 92 rfl), fun _ => by kernel_rfl, neg_c a _⟩) fun _ => rfl) ?_
        refine .o1 (cg rfl rfl rfl (fun _ _ k => k.eq1 36 90 rfl) rfl (fun _ w hn k => ⟨#[nv ((addM (Nm.mk 0 0) (negM a)).1), nv (negM a)], args2 (k.eq1 37 91 rfl) (k.eq1 39 93 rfl), fun _ => by kernel_rfl, equal_c ((addM (Nm.mk 0 0) (negM a)).1) (negM a) _⟩) fun _ => congrArg Value.bool ht402) ?_
        refine .o1 (tg rfl rfl rfl (fun _ _ k => k.eq1 36 90 rfl) fun _ w hn k => ⟨_, v_field rfl (k.fx 14 h355) (fun w => rfl), rfl⟩) ?_
        refine .o1 (tg rfl rfl rfl (fun _ _ k => k.eq1 36 90 rfl) fun _ w hn k => ⟨_, v_load rfl (k.eq1 41 95 rfl) (l_one Tryd.isAgg3 ((hb326.new_ hn).cell 0)), rfl⟩) ?_
        refine .o1 (tg rfl rfl rfl (fun _ _ k => k.eq1 36 90 rfl) fun _ w hn k => ⟨_, v_bin rfl (k.eq1 42 96 rfl) rfl (fun _ => rfl) (r_neq ht392), rfl⟩) ?_
        refine .o1 (tg rfl rfl rfl (fun _ _ k => k.eq1 36 90 rfl) fun _ w hn k => ⟨_, v_bin rfl (k.eq1 40 94 rfl) (k.eq1 43 97 rfl) (fun _ => rfl) (fun w => by kernel_rfl), rfl⟩) ?_
        refine .o1 (tk rfl rfl fun _ w hn k => ⟨_, v_pickT rfl (k.eq1 36 90 rfl) (k.eq1 44 98 rfl), rfl⟩) ?_
        refine .o1 (tk rfl rfl fun _ w hn k => ⟨_, v_assign rfl (k.eq1 45 99 rfl), rfl⟩) ?_
        exact .nil
      intro a403 w404 hn405 ha406
      have hs407 := ha406.size.trans hs340
      have hd408 := ha406.defers.trans hd341
      have h409 := ha406.ge 46 4 rfl
      have hN410 := hN337.transNew hn405
      clear hs340 hd341 h342 h343 h344 h345 hv359 h347 hv361 h349 hv364 h351 hv366 h355 hv391 hb331 hq16 hb332 hq50 hb333 hq84 hb334 hq135 hb335 hq193 hb336 hq255 hb326 hq322 hN337 ha406 hn405
      refine st_nil ?_
      refine hK _ _ ?_
      clear hK K
      refine wp_ret (ret_k hd408 (v := .bool true) (res_t rfl h409 _) ?_)
      exact ⟨rfl, hN410⟩
    have hv411 : a338.eval (.tmp 11) = .bool false := h350.trans (congrArg Value.bool ht363)
    clear h350
    have ht412 : ((addM (negM a) (negM b)).2) = false := (add_neg a b).1.trans ht363
    have hv413 : a338.eval (.tmp 13) = .bool false := h352.trans (congrArg Value.bool ht412)
    clear h352
    rcases Bool.eq_false_or_eq_true (sameM ((addM (negM a) (negM b)).1) (negM ((addM a b).1))) with ht414 | ht414
    · skip
      have ht415 : ((addM (Nm.mk 0 0) (negM a)).2) = true := (zero_sub a).1
      have hv416 : a338.eval (.tmp 15) = .bool true := h356.trans (congrArg Value.bool ht415)
      clear h356
      rcases Bool.eq_false_or_eq_true (decide (((addM (Nm.mk 0 0) (negM a)).1.k) = 2)) with ht417 | ht417
      · skip
        have ht417d := of_decide_eq_true ht417
        have ht418 : (equalM ((addM (Nm.mk 0 0) (negM a)).1) (negM a)) = false := ((zero_sub a).2.trans (by rw [ht417]; rfl))
        refine wp_g0 [true, true, true, true, true, true, true, true, true, true, true, true, true, true, true, true, true, true, true, true, true, true, true, true, true, true, true, true, true, true, true, true, true, true, true, true, true, true, true, true, true, true, true, true, true, true, true] [] 100
          [ve (.bool true),
           ve (.bool true),
           ve (nv (negM (negM a))),
           ve (nv a),
           ve (.bool true),
           ve (.bool true),
           ve (.bool true),
           ve (.bool true),
           ve (.bool true),
           ve (.bool true),
           ve (.bool true),
           ve (.bool true),
           ve (nv ((mulM (negM a) b).1)),
           ve (nv ((mulM a b).1)),
           ve (nv (negM ((mulM a b).1))),
           ve (.bool true),
           ve (.bool true),
           ve (.bool true),
           ve (.bool false),
           ve (.bool false),
           ve (.bool true),
           ve (.bool true),
           ve (.bool true),
           ve (nv ((addM (negM a) (negM b)).1)),
           ve (nv ((addM a b).1)),
           ve (nv (negM ((addM a b).1))),
           ve (.bool true),
           ve (.bool true),
           ve undef,
           ve undef,
           ve undef,
           ve (.bool true),
           ve (.bool true),
           ve (.bool true),
           ve (.bool true),
           ve (.bool true),
           ve (.bool true),
           ve (nv ((addM (Nm.mk 0 0) (negM a)).1)),
           ve (nv a),
           ve (nv (negM a)),
           ve (.bool false),
           ve (pv q307),
           ve (iv ((addM (Nm.mk 0 0) (negM a)).1.k)),
           ve (.bool false),
           ve (.bool true),
           ve (.bool true),
           ve (.bool true)] hs340 (.eq (.eq (.eq (.eq (.eq (.eq (.eq (.eq (.eq (.eq (.eq (.eq (.eq (.eq (.eq (.eq (.eq (.eq (.eq (.eq (.eq (.eq (.eq (.eq (.eq (.eq (.eq (.eq (.eq (.eq (.eq (.eq (.eq (.eq (.eq (.eq (.eq (.eq (.eq (.eq (.eq (.eq (.eq (.eq (.eq (.eq (.eq (.nil)))))))))))))))))))))))))))))))))))))))))))))))) ?_ ?_
        · skip
          refine .o1 (ck rfl rfl rfl (fun _ w hn k => ⟨#[], rfl, fun _ => by kernel_rfl, first_c  _⟩) fun _ => rfl) ?_
          refine .o1 (tk rfl rfl fun _ w hn k => ⟨_, v_move rfl (k.eq1 0 54 rfl), rfl⟩) ?_
          refine .o1 (tg rfl rfl rfl (fun _ _ k => k.eq1 1 55 rfl) fun _ w hn k => ⟨_, v_load rfl (k.fx 5 h344) (l_two Tryd.isAgg23 Tryd.sizeOf23 (hb332.new_ hn)), rfl⟩) ?_
          refine .o1 (tg rfl rfl rfl (fun _ _ k => k.eq1 1 55 rfl) fun _ w hn k => ⟨_, v_load rfl (k.fx 2 h342) (l_two Tryd.isAgg23 Tryd.sizeOf23 (hb331.new_ hn)), rfl⟩) ?_
          refine .o1 (cg rfl rfl rfl (fun _ _ k => k.eq1 1 55 rfl) rfl (fun _ w hn k => ⟨#[nv (negM (negM a)), nv a], args2 (k.eq1 2 56 rfl) (k.eq1 3 57 rfl), fun _ => by kernel_rfl, same_c (negM (negM a)) a _⟩) fun _ => congrArg Value.bool ht357) ?_
          refine .o1 (tk rfl rfl fun _ w hn k => ⟨_, v_pickT rfl (k.eq1 1 55 rfl) (k.eq1 4 58 rfl), rfl⟩) ?_
          refine .o1 (tk rfl rfl fun _ w hn k => ⟨_, v_move rfl (k.eq1 5 59 rfl), rfl⟩) ?_
          refine .o1 (tg rfl rfl rfl (fun _ _ k => k.eq1 6 60 rfl) fun _ w hn k => ⟨_, v_move rfl (k.fx 7 hv359), rfl⟩) ?_
          refine .o1 (tg rfl rfl rfl (fun _ _ k => k.eq1 6 60 rfl) fun _ w hn k => ⟨_, v_move rfl (k.fx 9 hv361), rfl⟩) ?_
          refine .o1 (tg rfl rfl rfl (fun _ _ k => k.eq1 6 60 rfl) fun _ w hn k => ⟨_, v_bin rfl (k.eq1 7 61 rfl) (k.eq1 8 62 rfl) (fun _ => rfl) (fun w => by kernel_rfl), rfl⟩) ?_
          refine .o1 (tk rfl rfl fun _ w hn k => ⟨_, v_pickT rfl (k.eq1 6 60 rfl) (k.eq1 9 63 rfl), rfl⟩) ?_
          refine .o1 (tk rfl rfl fun _ w hn k => ⟨_, v_move rfl (k.eq1 10 64 rfl), rfl⟩) ?_
          refine .o1 (tg rfl rfl rfl (fun _ _ k => k.eq1 11 65 rfl) fun _ w hn k => ⟨_, v_load rfl (k.fx 8 h347) (l_two Tryd.isAgg23 Tryd.sizeOf23 (hb334.new_ hn)), rfl⟩) ?_
          refine .o1 (tg rfl rfl rfl (fun _ _ k => k.eq1 11 65 rfl) fun _ w hn k => ⟨_, v_load rfl (k.fx 6 h345) (l_two Tryd.isAgg23 Tryd.sizeOf23 (hb333.new_ hn)), rfl⟩) ?_
          refine .o1 (cg rfl rfl rfl (fun _ _ k => k.eq1 11 65 rfl) rfl (fun _ w hn k => ⟨#[nv ((mulM a b).1)], args1 (k.eq1 13 67 rfl), fun _ => by kernel_rfl, neg_c ((mulM a b).1) _⟩) fun _ => rfl) ?_
          refine .o1 (cg rfl rfl rfl (fun _ _ k => k.eq1 11 65 rfl) rfl (fun _ w hn k => ⟨#[nv ((mulM (negM a) b).1), nv (negM ((mulM a b).1))], args2 (k.eq1 12 66 rfl) (k.eq1 14 68 rfl), fun _ => by kernel_rfl, same_c ((mulM (negM a) b).1) (negM ((mulM a b).1)) _⟩) fun _ => congrArg Value.bool ht362) ?_
          refine .o1 (tk rfl rfl fun _ w hn k => ⟨_, v_pickT rfl (k.eq1 11 65 rfl) (k.eq1 15 69 rfl), rfl⟩) ?_
          refine .o1 (tk rfl rfl fun _ w hn k => ⟨_, v_move rfl (k.eq1 16 70 rfl), rfl⟩) ?_
          refine .o1 (tg rfl rfl rfl (fun _ _ k => k.eq1 17 71 rfl) fun _ w hn k => ⟨_, v_move rfl (k.fx 11 hv411), rfl⟩) ?_
          refine .o1 (tg rfl rfl rfl (fun _ _ k => k.eq1 17 71 rfl) fun _ w hn k => ⟨_, v_move rfl (k.fx 13 hv413), rfl⟩) ?_
          refine .o1 (tg rfl rfl rfl (fun _ _ k => k.eq1 17 71 rfl) fun _ w hn k => ⟨_, v_bin rfl (k.eq1 18 72 rfl) (k.eq1 19 73 rfl) (fun _ => rfl) (fun w => by kernel_rfl), rfl⟩) ?_
          refine .o1 (tk rfl rfl fun _ w hn k => ⟨_, v_pickT rfl (k.eq1 17 71 rfl) (k.eq1 20 74 rfl), rfl⟩) ?_
          refine .o1 (tk rfl rfl fun _ w hn k => ⟨_, v_move rfl (k.eq1 21 75 rfl), rfl⟩) ?_
          refine .o1 (tg rfl rfl rfl (fun _ _ k => k.eq1 22 76 rfl) fun _ w hn k => ⟨_, v_load rfl (k.fx 12 h351) (l_two Tryd.isAgg23 Tryd.sizeOf23 (hb336.new_ hn)), rfl⟩) ?_
          refine .o1 (tg rfl rfl rfl (fun _ _ k => k.eq1 22 76 rfl) fun _ w hn k => ⟨_, v_load rfl (k.fx 10 h349) (l_two Tryd.isAgg23 Tryd.sizeOf23 (hb335.new_ hn)), rfl⟩) ?_
          refine .o1 (cg rfl rfl rfl (fun _ _ k => k.eq1 22 76 rfl) rfl (fun _ w hn k => ⟨#[nv ((addM a b).1)], args1 (k.eq1 24 78 rfl), fun _ => by kernel_rfl, neg_c ((addM a b).1) _⟩) fun _ => rfl) ?_
          refine .o1 (cg rfl rfl rfl (fun _ _ k => k.eq1 22 76 rfl) rfl (fun _ w hn k => ⟨#[nv ((addM (negM a) (negM b)).1), nv (negM ((addM a b).1))], args2 (k.eq1 23 77 rfl) (k.eq1 25 79 rfl), fun _ => by kernel_rfl, same_c ((addM (negM a) (negM b)).1) (negM ((addM a b).1)) _⟩) fun _ => congrArg Value.bool ht414) ?_
          refine .o1 (tg rfl rfl rfl (fun _ _ k => k.eq1 22 76 rfl) fun _ w hn k => ⟨_, v_move rfl (k.eq1 26 80 rfl), rfl⟩) ?_
          refine .o1 (sk rfl rfl rfl (fun _ _ _ k => k.eq1 27 81 rfl) (fun _ => rfl)) ?_
          refine .o1 (sk rfl rfl rfl (fun _ _ _ k => k.eq1 27 81 rfl) (fun _ => rfl)) ?_
          refine .o1 (sk rfl rfl rfl (fun _ _ _ k => k.eq1 27 81 rfl) (fun _ => rfl)) ?_
          refine .o1 (tg rfl rfl rfl (fun _ _ k => k.eq1 22 76 rfl) fun _ w hn k => ⟨_, v_pickT rfl (k.eq1 27 81 rfl) rfl, rfl⟩) ?_
          refine .o1 (tk rfl rfl fun _ w hn k => ⟨_, v_pickT rfl (k.eq1 22 76 rfl) (k.eq1 31 85 rfl), rfl⟩) ?_
          refine .o1 (tk rfl rfl fun _ w hn k => ⟨_, v_move rfl (k.eq1 32 86 rfl), rfl⟩) ?_
          refine .o1 (tg rfl rfl rfl (fun _ _ k => k.eq1 33 87 rfl) fun _ w hn k => ⟨_, v_move rfl (k.fx 15 hv416), rfl⟩) ?_
          refine .o1 (tk rfl rfl fun _ w hn k => ⟨_, v_pickT rfl (k.eq1 33 87 rfl) (k.eq1 34 88 rfl), rfl⟩) ?_
          refine .o1 (tk rfl rfl fun _ w hn k => ⟨_, v_move rfl (k.eq1 35 89 rfl), rfl⟩) ?_
          refine .o1 (tg rfl rfl rfl (fun _ _ k => k.eq1 36 90 rfl) fun _ w hn k => ⟨_, v_load rfl (k.fx 14 h355) (l_two Tryd.isAgg23 Tryd.sizeOf23 (hb326.new_ hn)), rfl⟩) ?_
          refine .o1 (tg rfl rfl rfl (fun _ _ k => k.eq1 36 90 rfl) fun _ w hn k => ⟨_, v_load rfl (k.fx 2 h342) (l_two Tryd.isAgg23 Tryd.sizeOf23 (hb331.new_ hn)), rfl⟩) ?_
          refine .o1 (cg rfl rfl rfl (fun _ _ k => k.eq1 36 90 rfl) rfl (fun _ w hn k => ⟨#[nv a], args1 (k.eq1 38 92 rfl), fun _ => by kernel_rfl, neg_c a _⟩) fun _ => rfl) ?_
          refine .o1 (cg rfl rfl rfl (fun _ _ k => k.eq1 36 90 rfl) rfl (fun _ w hn k => ⟨#[nv ((addM (Nm.mk 0 0) (negM a)).1), nv (negM a)], args2 (k.eq1 37 91 rfl) (k.eq1 39 93 rfl), fun _ => by kernel_rfl, equal_c ((addM (Nm.mk 0 0) (negM a)).1) (negM a) _⟩) fun _ => congrArg Value.bool ht418) ?_
          refine .o1 (tg rfl rfl rfl (fun _ _ k => k.eq1 36 90 rfl) fun _ w hn k => ⟨_, v_field rfl (k.fx 14 h355) (fun w => rfl), rfl⟩) ?_
          refine .o1 (tg rfl rfl rfl (fun _ _ k => k.eq1 36 90 rfl) fun _ w hn k => ⟨_, v_load rfl (k.eq1 41 95 rfl) (l_one Tryd.isAgg3 ((hb326.new_ hn).cell 0)), rfl⟩) ?_
          refine .o1 (tg rfl rfl rfl (fun _ _ k => k.eq1 36 90 rfl) fun _ w hn k => ⟨_, v_bin rfl (k.eq1 42 96 rfl) rfl (fun _ => rfl) (r_neq ht417), rfl⟩) ?_
          refine .o1 (tg rfl rfl rfl (fun _ _ k => k.eq1 36 90 rfl) fun _ w hn k => ⟨_, v_bin rfl (k.eq1 40 94 rfl) (k.eq1 43 97 rfl) (fun _ => rfl) (fun w => by kernel_rfl), rfl⟩) ?_
          refine .o1 (tk rfl rfl fun _ w hn k => ⟨_, v_pickT rfl (k.eq1 36 90 rfl) (k.eq1 44 98 rfl), rfl⟩) ?_
          refine .o1 (tk rfl rfl fun _ w hn k => ⟨_, v_assign rfl (k.eq1 45 99 rfl), rfl⟩) ?_
          exact .nil
        intro a419 w420 hn421 ha422
        have hs423 := ha422.size.trans hs340
        have hd424 := ha422.defers.trans hd341
        have h425 := ha422.ge 46 4 rfl
        have hN426 := hN337.transNew hn421
        clear hs340 hd341 h342 h343 h344 h345 hv359 h347 hv361 h349 hv411 h351 hv413 h355 hv416 hb331 hq16 hb332 hq50 hb333 hq84 hb334 hq135 hb335 hq193 hb336 hq255 hb326 hq322 hN337 ha422 hn421
        refine st_nil ?_
        refine hK _ _ ?_
        clear hK K
        refine wp_ret (ret_k hd424 (v := .bool true) (res_t rfl h425 _) ?_)
        exact ⟨rfl, hN426⟩
      have ht417d := of_decide_eq_false ht417
      have ht427 : (equalM ((addM (Nm.mk 0 0) (negM a)).1) (negM a)) = true := ((zero_sub a).2.trans (by rw [ht417]; rfl))
      refine wp_g0 [true, true, true, true, true, true, true, true, true, true, true, true, true, true, true, true, true, true, true, true, true, true, true, true, true, true, true, true, true, true, true, true, true, true, true, true, true, true, true, true, true, true, true, true, true, true, true] [] 100
        [ve (.bool true),
         ve (.bool true),
         ve (nv (negM (negM a))),
         ve (nv a),
         ve (.bool true),
         ve (.bool true),
         ve (.bool true),
         ve (.bool true),
         ve (.bool true),
         ve (.bool true),
         ve (.bool true),
         ve (.bool true),
         ve (nv ((mulM (negM a) b).1)),
         ve (nv ((mulM a b).1)),
         ve (nv (negM ((mulM a b).1))),
         ve (.bool true),
         ve (.bool true),
         ve (.bool true),
         ve (.bool false),
         ve (.bool false),
         ve (.bool true),
         ve (.bool true),
         ve (.bool true),
         ve (nv ((addM (negM a) (negM b)).1)),
         ve (nv ((addM a b).1)),
         ve (nv (negM ((addM a b).1))),
         ve (.bool true),
         ve (.bool true),
         ve undef,
         ve undef,
         ve undef,
         ve (.bool true),
         ve (.bool true),
         ve (.bool true),
         ve (.bool true),
         ve (.bool true),
         ve (.bool true),
         ve (nv ((addM (Nm.mk 0 0) (negM a)).1)),
         ve (nv a),
         ve (nv (negM a)),
         ve (.bool true),
         ve (pv q307),
         ve (iv ((addM (Nm.mk 0 0) (negM a)).1.k)),
         ve (.bool true),
         ve (.bool true),
         ve (.bool true),
         ve (.bool true)] hs340 (.eq (.eq (.eq (.eq (.eq (.eq (.eq (.eq (.eq (.eq (.eq (.eq (.eq (.eq (.eq (.eq (.eq (.eq (.eq (.eq (.eq (.eq (.eq (.eq (.eq (.eq (.eq (.eq (.eq (.eq (.eq (.eq (.eq (.eq (.eq (.eq (.eq (.eq (.eq (.eq (.eq (.eq (.eq (.eq (.eq (.eq (.eq (.nil)))))))))))))))))))))))))))))))))))))))))))))))) ?_ ?_
      · skip
        refine .o1 (ck rfl rfl rfl (fun _ w hn k => ⟨#[], rfl, fun _ => by kernel_rfl, first_c  _⟩) fun _ => rfl) ?_
        refine .o1 (tk rfl rfl fun _ w hn k => ⟨_, v_move rfl (k.eq1 0 54 rfl), rfl⟩) ?_
        refine .o1 (tg rfl rfl rfl (fun _ _ k => k.eq1 1 55 rfl) fun _ w hn k => ⟨_, v_load rfl (k.fx 5 h344) (l_two Tryd.isAgg23 Tryd.sizeOf23 (hb332.new_ hn)), rfl⟩) ?_
        refine .o1 (tg rfl rfl rfl (fun _ _ k => k.eq1 1 55 rfl) fun _ w hn k => ⟨_, v_load rfl (k.fx 2 h342) (l_two Tryd.isAgg23 Tryd.sizeOf23 (hb331.new_ hn)), rfl⟩) ?_
        refine .o1 (cg rfl rfl rfl (fun _ _ k => k.eq1 1 55 rfl) rfl (fun _ w hn k => ⟨#[nv (negM (negM a)), nv a], args2 (k.eq1 2 56 rfl) (k.eq1 3 57 rfl), fun _ => by kernel_rfl, same_c (negM (negM a)) a _⟩) fun _ => congrArg Value.bool ht357) ?_
        refine .o1 (tk rfl rfl fun _ w hn k => ⟨_, v_pickT rfl (k.eq1 1 55 rfl) (k.eq1 4 58 rfl), rfl⟩) ?_
        refine .o1 (tk rfl rfl fun _ w hn k => ⟨_, v_move rfl (k.eq1 5 59 rfl), rfl⟩) ?_
        refine .o1 (tg rfl rfl rfl (fun _ _ k => k.eq1 6 60 rfl) fun _ w hn k => ⟨_, v_move rfl (k.fx 7 hv359), rfl⟩) ?_
        refine .o1 (tg rfl rfl rfl (fun _ _ k => k.eq1 6 60 rfl) fun _ w hn k => ⟨_, v_move rfl (k.fx 9 hv361), rfl⟩) ?_
        refine .o1 (tg rfl rfl rfl (fun _ _ k => k.eq1 6 60 rfl) fun _ w hn k => ⟨_, v_bin rfl (k.eq1 7 61 rfl) (k.eq1 8 62 rfl) (fun _ => rfl) (fun w => by kernel_rfl), rfl⟩) ?_
        refine .o1 (tk rfl rfl fun _ w hn k => ⟨_, v_pickT rfl (k.eq1 6 60 rfl) (k.eq1 9 63 rfl), rfl⟩) ?_
        refine .o1 (tk rfl rfl fun _ w hn k => ⟨_, v_move rfl (k.eq1 10 64 rfl), rfl⟩) ?_
        refine .o1 (tg rfl rfl rfl (fun _ _ k => k.eq1 11 65 rfl) fun _ w hn k => ⟨_, v_load rfl (k.fx 8 h347) (l_two Tryd.isAgg23 Tryd.sizeOf23 (hb334.new_ hn)), rfl⟩) ?_
        refine .o1 (tg rfl rfl rfl (fun _ _ k => k.eq1 11 65 rfl) fun _ w hn k => ⟨_, v_load rfl (k.fx 6 h345) (l_two Tryd.isAgg23 Tryd.sizeOf23 (hb333.new_ hn)), rfl⟩) ?_
        refine .o1 (cg rfl rfl rfl (fun _ _ k => k.eq1 11 65 rfl) rfl (fun _ w hn k => ⟨#[nv ((mulM a b).1)], args1 (k.eq1 13 67 rfl), fun _ => by kernel_rfl, neg_c ((mulM a b).1) _⟩) fun _ => rfl) ?_
        refine .o1 (cg rfl rfl rfl (fun _ _ k => k.eq1 11 65 rfl) rfl (fun _ w hn k => ⟨#[nv ((mulM (negM a) b).1), nv (negM ((mulM a b).1))], args2 (k.eq1 12 66 rfl) (k.eq1 14 68 rfl), fun _ => by kernel_rfl, same_c ((mulM (negM a) b).1) (negM ((mulM a b).1)) _⟩) fun _ => congrArg Value.bool ht362) ?_
        refine .o1 (tk rfl rfl fun _ w hn k => ⟨_, v_pickT rfl (k.eq1 11 65 rfl) (k.eq1 15 69 rfl), rfl⟩) ?_
        refine .o1 (tk rfl rfl fun _ w hn k => ⟨_, v_move rfl (k.eq1 16 70 rfl), rfl⟩) ?_
        refine .o1 (tg rfl rfl rfl (fun _ _ k => k.eq1 17 71 rfl) fun _ w hn k => ⟨_, v_move rfl (k.fx 11 hv411), rfl⟩) ?_
        refine .o1 (tg rfl rfl rfl (fun _ _ k => k.eq1 17 71 rfl) fun _ w hn k => ⟨_, v_move rfl (k.fx 13 hv413), rfl⟩) ?_
        refine .o1 (tg rfl rfl rfl (fun _ _ k => k.eq1 17 71 rfl) fun _ w hn k => ⟨_, v_bin rfl (k.eq1 18 72 rfl) (k.eq1 19 73 rfl) (fun _ => rfl) (fun w => by kernel_rfl), rfl⟩) ?_
        refine .o1 (tk rfl rfl fun _ w hn k => ⟨_, v_pickT rfl (k.eq1 17 71 rfl) (k.eq1 20 74 rfl), rfl⟩) ?_
        refine .o1 (tk rfl rfl fun _ w hn k => ⟨_, v_move rfl (k.eq1 21 75 rfl), rfl⟩) ?_
        refine .o1 (tg rfl rfl rfl (fun _ _ k => k.eq1 22 76 rfl) fun _ w hn k => ⟨_, v_load rfl (k.fx 12 h351) (l_two Tryd.isAgg23 Tryd.sizeOf23 (hb336.new_ hn)), rfl⟩) ?_
        refine .o1 (tg rfl rfl rfl (fun _ _ k => k.eq1 22 76 rfl) fun _ w hn k => ⟨_, v_load rfl (k.fx 10 h349) (l_two Tryd.isAgg23 Tryd.sizeOf23 (hb335.new_ hn)), rfl⟩) ?_
        refine .o1 (cg rfl rfl rfl (fun _ _ k => k.eq1 22 76 rfl) rfl (fun _ w hn k => ⟨#[nv ((addM a b).1)], args1 (k.eq1 24 78 rfl), fun _ => by kernel_rfl, neg_c ((addM a b).1) _⟩) fun _ => rfl) ?_
        refine .o1 (cg rfl rfl rfl (fun _ _ k => k.eq1 22 76 rfl) rfl (fun _ w hn k => ⟨#[nv ((addM (negM a) (negM b)).1), nv (negM ((addM a b).1))], args2 (k.eq1 23 77 rfl) (k.eq1 25 79 rfl), fun _ => by kernel_rfl, same_c ((addM (negM a) (negM b)).1) (negM ((addM a b).1)) _⟩) fun _ => congrArg Value.bool ht414) ?_
        refine .o1 (tg rfl rfl rfl (fun _ _ k => k.eq1 22 76 rfl) fun _ w hn k => ⟨_, v_move rfl (k.eq1 26 80 rfl), rfl⟩) ?_
        refine .o1 (sk rfl rfl rfl (fun _ _ _ k => k.eq1 27 81 rfl) (fun _ => rfl)) ?_
        refine .o1 (sk rfl rfl rfl (fun _ _ _ k => k.eq1 27 81 rfl) (fun _ => rfl)) ?_
        refine .o1 (sk rfl rfl rfl (fun _ _ _ k => k.eq1 27 81 rfl) (fun _ => rfl)) ?_
        refine .o1 (tg rfl rfl rfl (fun _ _ k => k.eq1 22 76 rfl) fun _ w hn k => ⟨_, v_pickT rfl (k.eq1 27 81 rfl) rfl, rfl⟩) ?_
        refine .o1 (tk rfl rfl fun _ w hn k => ⟨_, v_pickT rfl (k.eq1 22 76 rfl) (k.eq1 31 85 rfl), rfl⟩) ?_
        refine .o1 (tk rfl rfl fun _ w hn k => ⟨_, v_move rfl (k.eq1 32 86 rfl), rfl⟩) ?_
        refine .o1 (tg rfl rfl rfl (fun _ _ k => k.eq1 33 87 rfl) fun _ w hn k => ⟨_, v_move rfl (k.fx 15 hv416), rfl⟩) ?_
        refine .o1 (tk rfl rfl fun _ w hn k => ⟨_, v_pickT rfl (k.eq1 33 87 rfl) (k.eq1 34 88 rfl), rfl⟩) ?_
        refine .o1 (tk rfl rfl fun _ w hn k => ⟨_, v_move rfl (k.eq1 35 89 rfl), rfl⟩) ?_
        refine .o1 (tg rfl rfl rfl (fun _ _ k => k.eq1 36 90 rfl) fun _ w hn k => ⟨_, v_load rfl (k.fx 14 h355) (l_two Tryd.isAgg23 Tryd.sizeOf23 (hb326.new_ hn)), rfl⟩) ?_
        refine .o1 (tg rfl rfl rfl (fun _ _ k => k.eq1 36 90 rfl) fun _ w hn k => ⟨_, v_load rfl (k.fx 2 h342) (l_two Tryd.isAgg23 Tryd.sizeOf23 (hb331.new_ hn)), rfl⟩) ?_
        refine .o1 (cg rfl rfl rfl (fun _ _ k => k.eq1 36 90 rfl) rfl (fun _ w hn k => ⟨#[nv a], args1 (k.eq1 38 92 rfl), fun _ => by kernel_rfl, neg_c a _⟩) fun _ => rfl) ?_
        refine .o1 (cg rfl rfl rfl (fun _ _ k => k.eq1 36 90 rfl) rfl (fun _ w hn k => ⟨#[nv ((addM (Nm.mk 0 0) (negM a)).1), nv (negM a)], args2 (k.eq1 37 91 rfl) (k.eq1 39 93 rfl), fun _ => by kernel_rfl, equal_c ((addM (Nm.mk 0 0) (negM a)).1) (negM a) _⟩) fun _ => congrArg Value.bool ht427) ?_
        refine .o1 (tg rfl rfl rfl (fun _ _ k => k.eq1 36 90 rfl) fun _ w hn k => ⟨_, v_field rfl (k.fx 14 h355) (fun w => rfl), rfl⟩) ?_
        refine .o1 (tg rfl rfl rfl (fun _ _ k => k.eq1 36 90 rfl) fun _ w hn k => ⟨_, v_load rfl (k.eq1 41 95 rfl) (l_one Tryd.isAgg3 ((hb326.new_ hn).cell 0)), rfl⟩) ?_
        refine .o1 (tg rfl rfl rfl (fun _ _ k => k.eq1 36 90 rfl) fun _ w hn k => ⟨_, v_bin rfl (k.eq1 42 96 rfl) rfl (fun _ => rfl) (r_neq ht417), rfl⟩) ?_
        refine .o1 (tg rfl rfl rfl (fun _ _ k => k.eq1 36 90 rfl) fun _ w hn k => ⟨_, v_bin rfl (k.eq1 40 94 rfl) (k.eq1 43 97 rfl) (fun _ => rfl) (fun w => by kernel_rfl), rfl⟩) ?_
        refine .o1 (tk rfl rfl fun _ w hn k => ⟨_, v_pickT rfl (k.eq1 36 90 rfl) (k.eq1 44 98 rfl), rfl⟩) ?_
        refine .o1 (tk rfl rfl fun _ w hn k => ⟨_, v_assign rfl (k.eq1 45 99 rfl), rfl⟩) ?_
        exact .nil
      intro a428 w429 hn430 ha431
      have hs432 := ha431.size.trans hs340
      have hd433 := ha431.defers.trans hd341
      have h434 := ha431.ge 46 4 rfl
      have hN435 := hN337.transNew hn430
      clear hs340 hd341 h342 h343 h344 h345 hv359 h347 hv361 h349 hv411 h351 hv413 h355 hv416 hb331 hq16 hb332 hq50 hb333 hq84 hb334 hq135 hb335 hq193 hb336 hq255 hb326 hq322 hN337 ha431 hn430
      refine st_nil ?_
      refine hK _ _ ?_
      clear hK K
      refine wp_ret (ret_k hd433 (v := .bool true) (res_t rfl h434 _) ?_)
      exact ⟨rfl, hN435⟩
    have ht436 : (equalM ((addM a b).1) (Nm.mk 0 0)) = true := ((add_neg a b).2.resolve_left (by rw [ht414]; simp))
    have ht437 : ((addM (Nm.mk 0 0) (negM a)).2) = true := (zero_sub a).1
    have hv438 : a338.eval (.tmp 15) = .bool true := h356.trans (congrArg Value.bool ht437)
    clear h356
    rcases Bool.eq_false_or_eq_true (decide (((addM (Nm.mk 0 0) (negM a)).1.k) = 2)) with ht439 | ht439
    · skip
      have ht439d := of_decide_eq_true ht439
      have ht440 : (equalM ((addM (Nm.mk 0 0) (negM a)).1) (negM a)) = false := ((zero_sub a).2.trans (by rw [ht439]; rfl))
      refine wp_g0 [true, true, true, true, true, true, true, true, true, true, true, true, true, true, true, true, true, true, true, true, true, true, true, true, true, true, true, true, true, true, true, true, true, true, true, true, true, true, true, true, true, true, true, true, true, true, true] [] 100
        [ve (.bool true),
         ve (.bool true),
         ve (nv (negM (negM a))),
         ve (nv a),
         ve (.bool true),
         ve (.bool true),
         ve (.bool true),
         ve (.bool true),
         ve (.bool true),
         ve (.bool true),
         ve (.bool true),
         ve (.bool true),
         ve (nv ((mulM (negM a) b).1)),
         ve (nv ((mulM a b).1)),
         ve (nv (negM ((mulM a b).1))),
         ve (.bool true),
         ve (.bool true),
         ve (.bool true),
         ve (.bool false),
         ve (.bool false),
         ve (.bool true),
         ve (.bool true),
         ve (.bool true),
         ve (nv ((addM (negM a) (negM b)).1)),
         ve (nv ((addM a b).1)),
         ve (nv (negM ((addM a b).1))),
         ve (.bool false),
         ve (.bool false),
         ve (nv ((addM a b).1)),
         ve (nv (Nm.mk 0 0)),
         ve (.bool true),
         ve (.bool true),
         ve (.bool true),
         ve (.bool true),
         ve (.bool true),
         ve (.bool true),
         ve (.bool true),
         ve (nv ((addM (Nm.mk 0 0) (negM a)).1)),
         ve (nv a),
         ve (nv (negM a)),
         ve (.bool false),
         ve (pv q307),
         ve (iv ((addM (Nm.mk 0 0) (negM a)).1.k)),
         ve (.bool false),
         ve (.bool true),
         ve (.bool true),
         ve (.bool true)] hs340 (.eq (.eq (.eq (.eq (.eq (.eq (.eq (.eq (.eq (.eq (.eq (.eq (.eq (.eq (.eq (.eq (.eq (.eq (.eq (.eq (.eq (.eq (.eq (.eq (.eq (.eq (.eq (.eq (.eq (.eq (.eq (.eq (.eq (.eq (.eq (.eq (.eq (.eq (.eq (.eq (.eq (.eq (.eq (.eq (.eq (.eq (.eq (.nil)))))))))))))))))))))))))))))))))))))))))))))))) ?_ ?_
      · skip
        refine .o1 (ck rfl rfl rfl (fun _ w hn k => ⟨#[], rfl, fun _ => by kernel_rfl, first_c  _⟩) fun _ => rfl) ?_
        refine .o1 (tk rfl rfl fun _ w hn k => ⟨_, v_move rfl (k.eq1 0 54 rfl), rfl⟩) ?_
        refine .o1 (tg rfl rfl rfl (fun _ _ k => k.eq1 1 55 rfl) fun _ w hn k => ⟨_, v_load rfl (k.fx 5 h344) (l_two Tryd.isAgg23 Tryd.sizeOf23 (hb332.new_ hn)), rfl⟩) ?_
        refine .o1 (tg rfl rfl rfl (fun _ _ k => k.eq1 1 55 rfl) fun _ w hn k => ⟨_, v_load rfl (k.fx 2 h342) (l_two Tryd.isAgg23 Tryd.sizeOf23 (hb331.new_ hn)), rfl⟩) ?_
        refine .o1 (cg rfl rfl rfl (fun _ _ k => k.eq1 1 55 rfl) rfl (fun _ w hn k => ⟨#[nv (negM (negM a)), nv a], args2 (k.eq1 2 56 rfl) (k.eq1 3 57 rfl), fun _ => by kernel_rfl, same_c (negM (negM a)) a _⟩) fun _ => congrArg Value.bool ht357) ?_
        refine .o1 (tk rfl rfl fun _ w hn k => ⟨_, v_pickT rfl (k.eq1 1 55 rfl) (k.eq1 4 58 rfl), rfl⟩) ?_
        refine .o1 (tk rfl rfl fun _ w hn k => ⟨_, v_move rfl (k.eq1 5 59 rfl), rfl⟩) ?_
        refine .o1 (tg rfl rfl rfl (fun _ _ k => k.eq1 6 60 rfl) fun _ w hn k => ⟨_, v_move rfl (k.fx 7 hv359), rfl⟩) ?_
        refine .o1 (tg rfl rfl rfl (fun _ _ k => k.eq1 6 60 rfl) fun _ w hn k => ⟨_, v_move rfl (k.fx 9 hv361), rfl⟩) ?_
        refine .o1 (tg rfl rfl rfl (fun _ _ k => k.eq1 6 60 rfl) fun _ w hn k => ⟨_, v_bin rfl (k.eq1 7 61 rfl) (k.eq1 8 62 rfl) (fun _ => rfl) (fun w => by kernel_rfl), rfl⟩) ?_
        refine .o1 (tk rfl rfl fun _ w hn k => ⟨_, v_pickT rfl (k.eq1 6 60 rfl) (k.eq1 9 63 rfl), rfl⟩) ?_
        refine .o1 (tk rfl rfl fun _ w hn k => ⟨_, v_move rfl (k.eq1 10 64 rfl), rfl⟩) ?_
        refine .o1 (tg rfl rfl rfl (fun _ _ k => k.eq1 11 65 rfl) fun _ w hn k => ⟨_, v_load rfl (k.fx 8 h347) (l_two Tryd.isAgg23 Tryd.sizeOf23 (hb334.new_ hn)), rfl⟩) ?_
        refine .o1 (tg rfl rfl rfl (fun _ _ k => k.eq1 11 65 rfl) fun _ w hn k => ⟨_, v_load rfl (k.fx 6 h345) (l_two Tryd.isAgg23 Tryd.sizeOf23 (hb333.new_ hn)), rfl⟩) ?_
        refine .o1 (cg rfl rfl rfl (fun _ _ k => k.eq1 11 65 rfl) rfl (fun _ w hn k => ⟨#[nv ((mulM a b).1)], args1 (k.eq1 13 67 rfl), fun _ => by kernel_rfl, neg_c ((mulM a b).1) _⟩) fun _ => rfl) ?_
        refine .o1 (cg rfl rfl rfl (fun _ _ k => k.eq1 11 65 rfl) rfl (fun _ w hn k => ⟨#[nv ((mulM (negM a) b).1), nv (negM ((mulM a b).1))], args2 (k.eq1 12 66 rfl) (k.eq1 14 68 rfl), fun _ => by kernel_rfl, same_c ((mulM (negM a) b).1) (negM ((mulM a b).1)) _⟩) fun _ => congrArg Value.bool ht362) ?_
        refine .o1 (tk rfl rfl fun _ w hn k => ⟨_, v_pickT rfl (k.eq1 11 65 rfl) (k.eq1 15 69 rfl), rfl⟩) ?_
        refine .o1 (tk rfl rfl fun _ w hn k => ⟨_, v_move rfl (k.eq1 16 70 rfl), rfl⟩) ?_
        refine .o1 (tg rfl rfl rfl (fun _ _ k => k.eq1 17 71 rfl) fun _ w hn k => ⟨_, v_move rfl (k.fx 11 hv411), rfl⟩) ?_
        refine .o1 (tg rfl rfl rfl (fun _ _ k => k.eq1 17 71 rfl) fun _ w hn k => ⟨_, v_move rfl (k.fx 13 hv413), rfl⟩) ?_
        refine .o1 (tg rfl rfl rfl (fun _ _ k => k.eq1 17 71 rfl) fun _ w hn k => ⟨_, v_bin rfl (k.eq1 18 72 rfl) (k.eq1 19 73 rfl) (fun _ => rfl) (fun w => by kernel_rfl), rfl⟩) ?_
        refine .o1 (tk rfl rfl fun _ w hn k => ⟨_, v_pickT rfl (k.eq1 17 71 rfl) (k.eq1 20 74 rfl), rfl⟩) ?_
        refine .o1 (tk rfl rfl fun _ w hn k => ⟨_, v_move rfl (k.eq1 21 75 rfl), rfl⟩) ?_
        refine .o1 (tg rfl rfl rfl (fun _ _ k => k.eq1 22 76 rfl) fun _ w hn k => ⟨_, v_load rfl (k.fx 12 h351) (l_two Tryd.isAgg23 Tryd.sizeOf23 (hb336.new_ hn)), rfl⟩) ?_
        refine .o1 (tg rfl rfl rfl (fun _ _ k => k.eq1 22 76 rfl) fun _ w hn k => ⟨_, v_load rfl (k.fx 10 h349) (l_two Tryd.isAgg23 Tryd.sizeOf23 (hb335.new_ hn)), rfl⟩) ?_
        refine .o1 (cg rfl rfl rfl (fun _ _ k => k.eq1 22 76 rfl) rfl (fun _ w hn k => ⟨#[nv ((addM a b).1)], args1 (k.eq1 24 78 rfl), fun _ => by kernel_rfl, neg_c ((addM a b).1) _⟩) fun _ => rfl) ?_
        refine .o1 (cg rfl rfl rfl (fun _ _ k => k.eq1 22 76 rfl) rfl (fun _ w hn k => ⟨#[nv ((addM (negM a) (negM b)).1), nv (negM ((addM a b).1))], args2 (k.eq1 23 77 rfl) (k.eq1 25 79 rfl), fun _ => by kernel_rfl, same_c ((addM (negM a) (negM b)).1) (negM ((addM a b).1)) _⟩) fun _ => congrArg Value.bool ht414) ?_
        refine .o1 (tg rfl rfl rfl (fun _ _ k => k.eq1 22 76 rfl) fun _ w hn k => ⟨_, v_move rfl (k.eq1 26 80 rfl), rfl⟩) ?_
        refine .o1 (tg rfl rfl rfl (fun _ _ k => k.eq1 27 81 rfl) fun _ w hn k => ⟨_, v_load rfl (k.fx 10 h349) (l_two Tryd.isAgg23 Tryd.sizeOf23 (hb335.new_ hn)), rfl⟩) ?_
        refine .o1 (cg rfl rfl rfl (fun _ _ k => k.eq1 27 81 rfl) rfl (fun _ w hn k => ⟨#[iv 0], args1 rfl, fun _ => by kernel_rfl, w_c 0 _⟩) fun _ => rfl) ?_
        refine .o1 (cg rfl rfl rfl (fun _ _ k => k.eq1 27 81 rfl) rfl (fun _ w hn k => ⟨#[nv ((addM a b).1), nv (Nm.mk 0 0)], args2 (k.eq1 28 82 rfl) (k.eq1 29 83 rfl), fun _ => by kernel_rfl, equal_c ((addM a b).1) (Nm.mk 0 0) _⟩) fun _ => congrArg Value.bool ht436) ?_
        refine .o1 (tg rfl rfl rfl (fun _ _ k => k.eq1 22 76 rfl) fun _ w hn k => ⟨_, v_pickF rfl (k.eq1 27 81 rfl) (k.eq1 30 84 rfl), rfl⟩) ?_
        refine .o1 (tk rfl rfl fun _ w hn k => ⟨_, v_pickT rfl (k.eq1 22 76 rfl) (k.eq1 31 85 rfl), rfl⟩) ?_
        refine .o1 (tk rfl rfl fun _ w hn k => ⟨_, v_move rfl (k.eq1 32 86 rfl), rfl⟩) ?_
        refine .o1 (tg rfl rfl rfl (fun _ _ k => k.eq1 33 87 rfl) fun _ w hn k => ⟨_, v_move rfl (k.fx 15 hv438), rfl⟩) ?_
        refine .o1 (tk rfl rfl fun _ w hn k => ⟨_, v_pickT rfl (k.eq1 33 87 rfl) (k.eq1 34 88 rfl), rfl⟩) ?_
        refine .o1 (tk rfl rfl fun _ w hn k => ⟨_, v_move rfl (k.eq1 35 89 rfl), rfl⟩) ?_
        refine .o1 (tg rfl rfl rfl (fun _ _ k => k.eq1 36 90 rfl) fun _ w hn k => ⟨_, v_load rfl (k.fx 14 h355) (l_two Tryd.isAgg23 Tryd.sizeOf23 (hb326.new_ hn)), rfl⟩) ?_
        refine .o1 (tg rfl rfl rfl (fun _ _ k => k.eq1 36 90 rfl) fun _ w hn k => ⟨_, v_load rfl (k.fx 2 h342) (l_two Tryd.isAgg23 Tryd.sizeOf23 (hb331.new_ hn)), rfl⟩) ?_
        refine .o1 (cg rfl rfl rfl (fun _ _ k => k.eq1 36 90 rfl) rfl (fun _ w hn k => ⟨#[nv a], args1 (k.eq1 38 92 rfl), fun _ => by kernel_rfl, neg_c a _⟩) fun _ => rfl) ?_
        refine .o1 (cg rfl rfl rfl (fun _ _ k => k.eq1 36 90 rfl) rfl (fun _ w hn k => ⟨#[nv ((addM (Nm.mk 0 0) (negM a)).1), nv (negM a)], args2 (k.eq1 37 91 rfl) (k.eq1 39 93 rfl), fun _ => by kernel_rfl, equal_c ((addM (Nm.mk 0 0) (negM a)).1) (negM a) _⟩) fun _ => congrArg Value.bool ht440) ?_
        refine .o1 (tg rfl rfl rfl (fun _ _ k => k.eq1 36 90 rfl) fun _ w hn k => ⟨_, v_field rfl (k.fx 14 h355) (fun w => rfl), rfl⟩) ?_
        refine .o1 (tg rfl rfl rfl (fun _ _ k => k.eq1 36 90 rfl) fun _ w hn k => ⟨_, v_load rfl (k.eq1 41 95 rfl) (l_one Tryd.isAgg3 ((hb326.new_ hn).cell 0)), rfl⟩) ?_
        refine .o1 (tg rfl rfl rfl (fun _ _ k => k.eq1 36 90 rfl) fun _ w hn k => ⟨_, v_bin rfl (k.eq1 42 96 rfl) rfl (fun _ => rfl) (r_neq ht439), rfl⟩) ?_
        refine .o1 (tg rfl rfl rfl (fun _ _ k => k.eq1 36 90 rfl) fun _ w hn k => ⟨_, v_bin rfl (k.eq1 40 94 rfl) (k.eq1 43 97 rfl) (fun _ => rfl) (fun w => by kernel_rfl), rfl⟩) ?_
        refine .o1 (tk rfl rfl fun _ w hn k => ⟨_, v_pickT rfl (k.eq1 36 90 rfl) (k.eq1 44 98 rfl), rfl⟩) ?_
        refine .o1 (tk rfl rfl fun _ w hn k => ⟨_, v_assign rfl (k.eq1 45 99 rfl), rfl⟩) ?_
        exact .nil
      intro a441 w442 hn443 ha444
      have hs445 := ha444.size.trans hs340
      have hd446 := ha444.defers.trans hd341
      have h447 := ha444.ge 46 4 rfl
      have hN448 := hN337.transNew hn443
      clear hs340 hd341 h342 h343 h344 h345 hv359 h347 hv361 h349 hv411 h351 hv413 h355 hv438 hb331 hq16 hb332 hq50 hb333 hq84 hb334 hq135 hb335 hq193 hb336 hq255 hb326 hq322 hN337 ha444 hn443
      refine st_nil ?_
      refine hK _ _ ?_
      clear hK K
      refine wp_ret (ret_k hd446 (v := .bool true) (res_t rfl h447 _) ?_)
      exact ⟨rfl, hN448⟩
    have ht439d := of_decide_eq_false ht439
    have ht449 : (equalM ((addM (Nm.mk 0 0) (negM a)).1) (negM a)) = true := ((zero_sub a).2.trans (by rw [ht439]; rfl))
    refine wp_g0 [true, true, true, true, true, true, true, true, true, true, true, true, true, true, true, true, true, true, true, true, true, true, true, true, true, true, true, true, true, true, true, true, true, true, true, true, true, true, true, true, true, true, true, true, true, true, true] [] 100
      [ve (.bool true),
       ve (.bool true),
       ve (nv (negM (negM a))),
       ve (nv a),
       ve (.bool true),
       ve (.bool true),
       ve (.bool true),
       ve (.bool true),
       ve (.bool true),
       ve (.bool true),
       ve (.bool true),
       ve (.bool true),
       ve (nv ((mulM (negM a) b).1)),
       ve (nv ((mulM a b).1)),
       ve (nv (negM ((mulM a b).1))),
       ve (.bool true),
       ve (.bool true),
       ve (.bool true),
       ve (.bool false),
       ve (.bool false),
       ve (.bool true),
       ve (.bool true),
       ve (.bool true),
       ve (nv ((addM (negM a) (negM b)).1)),
       ve (nv ((addM a b).1)),
       ve (nv (negM ((addM a b).1))),
       ve (.bool false),
       ve (.bool false),
       ve (nv ((addM a b).1)),
       ve (nv (Nm.mk 0 0)),
       ve (.bool true),
       ve (.bool true),
       ve (.bool true),
       ve (.bool true),
       ve (.bool true),
       ve (.bool true),
       ve (.bool true),
       ve (nv ((addM (Nm.mk 0 0) (negM a)).1)),
       ve (nv a),
       ve (nv (negM a)),
       ve (.bool true),
       ve (pv q307),
       ve (iv ((addM (Nm.mk 0 0) (negM a)).1.k)),
       ve (.bool true),
       ve (.bool true),
       ve (.bool true),
       ve (.bool true)] hs340 (.eq (.eq (.eq (.eq (.eq (.eq (.eq (.eq (.eq (.eq (.eq (.eq (.eq (.eq (.eq (.eq (.eq (.eq (.eq (.eq (.eq (.eq (.eq (.eq (.eq (.eq (.eq (.eq (.eq (.eq (.eq (.eq (.eq (.eq (.eq (.eq (.eq (.eq (.eq (.eq (.eq (.eq (.eq (.eq (.eq (.eq (.eq (.nil)))))))))))))))))))))))))))))))))))))))))))))))) ?_ ?_
    · skip
      refine .o1 (ck rfl rfl rfl (fun _ w hn k => ⟨#[], rfl, fun _ => by kernel_rfl, first_c  _⟩) fun _ => rfl) ?_
      refine .o1 (tk rfl rfl fun _ w hn k => ⟨_, v_move rfl (k.eq1 0 54 rfl), rfl⟩) ?_
      refine .o1 (tg rfl rfl rfl (fun _ _ k => k.eq1 1 55 rfl) fun _ w hn k => ⟨_, v_load rfl (k.fx 5 h344) (l_two Tryd.isAgg23 Tryd.sizeOf23 (hb332.new_ hn)), rfl⟩) ?_
      refine .o1 (tg rfl rfl rfl (fun _ _ k => k.eq1 1 55 rfl) fun _ w hn k => ⟨_, v_load rfl (k.fx 2 h342) (l_two Tryd.isAgg23 Tryd.sizeOf23 (hb331.new_ hn)), rfl⟩) ?_
      refine .o1 (cg rfl rfl rfl (fun _ _ k => k.eq1 1 55 rfl) rfl (fun _ w hn k => ⟨#[nv (negM (negM a)), nv a], args2 (k.eq1 2 56 rfl) (k.eq1 3 57 rfl), fun _ => by kernel_rfl, same_c (negM (negM a)) a _⟩) fun _ => congrArg Value.bool ht357) ?_
      refine .o1 (tk rfl rfl fun _ w hn k => ⟨_, v_pickT rfl (k.eq1 1 55 rfl) (k.eq1 4 58 rfl), rfl⟩) ?_
      refine .o1 (tk rfl rfl fun _ w hn k => ⟨_, v_move rfl (k.eq1 5 59 rfl), rfl⟩) ?_
      refine .o1 (tg rfl rfl rfl (fun _ _ k => k.eq1 6 60 rfl) fun _ w hn k => ⟨_, v_move rfl (k.fx 7 hv359), rfl⟩) ?_
      refine .o1 (tg rfl rfl rfl (fun _ _ k => k.eq1 6 60 rfl) fun _ w hn k => ⟨_, v_move rfl (k.fx 9 hv361), rfl⟩) ?_
      refine .o1 (tg rfl rfl rfl (fun _ _ k => k.eq1 6 60 rfl) fun _ w hn k => ⟨_, v_bin rfl (k.eq1 7 61 rfl) (k.eq1 8 62 rfl) (fun _ => rfl) (fun w => by kernel_rfl), rfl⟩) ?_
      refine .o1 (tk rfl rfl fun _ w hn k => ⟨_, v_pickT rfl (k.eq1 6 60 rfl) (k.eq1 9 63 rfl), rfl⟩) ?_
      refine .o1 (tk rfl rfl fun _ w hn k => ⟨_, v_move rfl (k.eq1 10 64 rfl), rfl⟩) ?_
      refine .o1 (tg rfl rfl rfl (fun _ _ k => k.eq1 11 65 rfl) fun _ w hn k => ⟨_, v_load rfl (k.fx 8 h347) (l_two Tryd.isAgg23 Tryd.sizeOf23 (hb334.new_ hn)), rfl⟩) ?_
      refine .o1 (tg rfl rfl rfl (fun _ _ k => k.eq1 11 65 rfl) fun _ w hn k => ⟨_, v_load rfl (k.fx 6 h345) (l_two Tryd.isAgg23 Tryd.sizeOf23 (hb333.new_ hn)), rfl⟩) ?_
      refine .o1 (cg rfl rfl rfl (fun _ _ k => k.eq1 11 65 rfl) rfl (fun _ w hn k => ⟨#[nv ((mulM a b).1)], args1 (k.eq1 13 67 rfl), fun _ => by kernel_rfl, neg_c ((mulM a b).1) _⟩) fun _ => rfl) ?_
      refine .o1 (cg rfl rfl rfl (fun _ _ k => k.eq1 11 65 rfl) rfl (fun _ w hn k => ⟨#[nv ((mulM (negM a) b).1), nv (negM ((mulM a b).1))], args2 (k.eq1 12 66 rfl) (k.eq1 14 68 rfl), fun _ => by kernel_rfl, same_c ((mulM (negM a) b).1) (negM ((mulM a b).1)) _⟩) fun _ => congrArg Value.bool ht362) ?_
      refine .o1 (tk rfl rfl fun _ w hn k => ⟨_, v_pickT rfl (k.eq1 11 65 rfl) (k.eq1 15 69 rfl), rfl⟩) ?_
      refine .o1 (tk rfl rfl fun _ w hn k => ⟨_, v_move rfl (k.eq1 16 70 rfl), rfl⟩) ?_
      refine .o1 (tg rfl rfl rfl (fun _ _ k => k.eq1 17 71 rfl) fun _ w hn k => ⟨_, v_move rfl (k.fx 11 hv411), rfl⟩) ?_
      refine .o1 (tg rfl rfl rfl (fun _ _ k => k.eq1 17 71 rfl) fun _ w hn k => ⟨_, v_move rfl (k.fx 13 hv413), rfl⟩) ?_
      refine .o1 (tg rfl rfl rfl (fun _ _ k => k.eq1 17 71 rfl) fun _ w hn k => ⟨_, v_bin rfl (k.eq1 18 72 rfl) (k.eq1 19 73 rfl) (fun _ => rfl) (fun w => by kernel_rfl), rfl⟩) ?_
      refine .o1 (tk rfl rfl fun _ w hn k => ⟨_, v_pickT rfl (k.eq1 17 71 rfl) (k.eq1 20 74 rfl), rfl⟩) ?_
      refine .o1 (tk rfl rfl fun _ w hn k => ⟨_, v_move rfl (k.eq1 21 75 rfl), rfl⟩) ?_
      refine .o1 (tg rfl rfl rfl (fun _ _ k => k.eq1 22 76 rfl) fun _ w hn k => ⟨_, v_load rfl (k.fx 12 h351) (l_two Tryd.isAgg23 Tryd.sizeOf23 (hb336.new_ hn)), rfl⟩) ?_
      refine .o1 (tg rfl rfl rfl (fun _ _ k => k.eq1 22 76 rfl) fun _ w hn k => ⟨_, v_load rfl (k.fx 10 h349) (l_two Tryd.isAgg23 Tryd.sizeOf23 (hb335.new_ hn)), rfl⟩) ?_
      refine .o1 (cg rfl rfl rfl (fun _ _ k => k.eq1 22 76 rfl) rfl (fun _ w hn k => ⟨#[nv ((addM a b).1)], args1 (k.eq1 24 78 rfl), fun _ => by kernel_rfl, neg_c ((addM a b).1) _⟩) fun _ => rfl) ?_
      refine .o1 (cg rfl rfl rfl (fun _ _ k => k.eq1 22 76 rfl) rfl (fun _ w hn k => ⟨#[nv ((addM (negM a) (negM b)).1), nv (negM ((addM a b).1))], args2 (k.eq1 23 77 rfl) (k.eq1 25 79 rfl), fun _ => by kernel_rfl, same_c ((addM (negM a) (negM b)).1) (negM ((addM a b).1)) _⟩) fun _ => congrArg Value.bool ht414) ?_
      refine .o1 (tg rfl rfl rfl (fun _ _ k => k.eq1 22 76 rfl) fun _ w hn k => ⟨_, v_move rfl (k.eq1 26 80 rfl), rfl⟩) ?_
      refine .o1 (tg rfl rfl rfl (fun _ _ k => k.eq1 27 81 rfl) fun _ w hn k => ⟨_, v_load rfl (k.fx 10 h349) (l_two Tryd.isAgg23 Tryd.sizeOf23 (hb335.new_ hn)), rfl⟩) ?_
      refine .o1 (cg rfl rfl rfl (fun _ _ k => k.eq1 27 81 rfl) rfl (fun _ w hn k => ⟨#[iv 0], args1 rfl, fun _ => by kernel_rfl, w_c 0 _⟩) fun _ => rfl) ?_
      refine .o1 (cg rfl rfl rfl (fun _ _ k => k.eq1 27 81 rfl) rfl (fun _ w hn k => ⟨#[nv ((addM a b).1), nv (Nm.mk 0 0)], args2 (k.eq1 28 82 rfl) (k.eq1 29 83 rfl), fun _ => by kernel_rfl, equal_c ((addM a b).1) (Nm.mk 0 0) _⟩) fun _ => congrArg Value.bool ht436) ?_
      refine .o1 (tg rfl rfl rfl (fun _ _ k => k.eq1 22 76 rfl) fun _ w hn k => ⟨_, v_pickF rfl (k.eq1 27 81 rfl) (k.eq1 30 84 rfl), rfl⟩) ?_
      refine .o1 (tk rfl rfl fun _ w hn k => ⟨_, v_pickT rfl (k.eq1 22 76 rfl) (k.eq1 31 85 rfl), rfl⟩) ?_
      refine .o1 (tk rfl rfl fun _ w hn k => ⟨_, v_move rfl (k.eq1 32 86 rfl), rfl⟩) ?_
      refine .o1 (tg rfl rfl rfl (fun _ _ k => k.eq1 33 87 rfl) fun _ w hn k => ⟨_, v_move rfl (k.fx 15 hv438), rfl⟩) ?_
      refine .o1 (tk rfl rfl fun _ w hn k => ⟨_, v_pickT rfl (k.eq1 33 87 rfl) (k.eq1 34 88 rfl), rfl⟩) ?_
      refine .o1 (tk rfl rfl fun _ w hn k => ⟨_, v_move rfl (k.eq1 35 89 rfl), rfl⟩) ?_
      refine .o1 (tg rfl rfl rfl (fun _ _ k => k.eq1 36 90 rfl) fun _ w hn k => ⟨_, v_load rfl (k.fx 14 h355) (l_two Tryd.isAgg23 Tryd.sizeOf23 (hb326.new_ hn)), rfl⟩) ?_
      refine .o1 (tg rfl rfl rfl (fun _ _ k => k.eq1 36 90 rfl) fun _ w hn k => ⟨_, v_load rfl (k.fx 2 h342) (l_two Tryd.isAgg23 Tryd.sizeOf23 (hb331.new_ hn)), rfl⟩) ?_
      refine .o1 (cg rfl rfl rfl (fun _ _ k => k.eq1 36 90 rfl) rfl (fun _ w hn k => ⟨#[nv a], args1 (k.eq1 38 92 rfl), fun _ => by kernel_rfl, neg_c a _⟩) fun _ => rfl) ?_
      refine .o1 (cg rfl rfl rfl (fun _ _ k => k.eq1 36 90 rfl) rfl (fun _ w hn k => ⟨#[nv ((addM (Nm.mk 0 0) (negM a)).1), nv (negM a)], args2 (k.eq1 37 91 rfl) (k.eq1 39 93 rfl), fun _ => by kernel_rfl, equal_c ((addM (Nm.mk 0 0) (negM a)).1) (negM a) _⟩) fun _ => congrArg Value.bool ht449) ?_
      refine .o1 (tg rfl rfl rfl (fun _ _ k => k.eq1 36 90 rfl) fun _ w hn k => ⟨_, v_field rfl (k.fx 14 h355) (fun w => rfl), rfl⟩) ?_
      refine .o1 (tg rfl rfl rfl (fun _ _ k => k.eq1 36 90 rfl) fun _ w hn k => ⟨_, v_load rfl (k.eq1 41 95 rfl) (l_one Tryd.isAgg3 ((hb326.new_ hn).cell 0)), rfl⟩) ?_
      refine .o1 (tg rfl rfl rfl (fun _ _ k => k.eq1 36 90 rfl) fun _ w hn k => ⟨_, v_bin rfl (k.eq1 42 96 rfl) rfl (fun _ => rfl) (r_neq ht439), rfl⟩) ?_
      refine .o1 (tg rfl rfl rfl (fun _ _ k => k.eq1 36 90 rfl) fun _ w hn k => ⟨_, v_bin rfl (k.eq1 40 94 rfl) (k.eq1 43 97 rfl) (fun _ => rfl) (fun w => by kernel_rfl), rfl⟩) ?_
      refine .o1 (tk rfl rfl fun _ w hn k => ⟨_, v_pickT rfl (k.eq1 36 90 rfl) (k.eq1 44 98 rfl), rfl⟩) ?_
      refine .o1 (tk rfl rfl fun _ w hn k => ⟨_, v_assign rfl (k.eq1 45 99 rfl), rfl⟩) ?_
      exact .nil
    intro a450 w451 hn452 ha453
    have hs454 := ha453.size.trans hs340
    have hd455 := ha453.defers.trans hd341
    have h456 := ha453.ge 46 4 rfl
    have hN457 := hN337.transNew hn452
    clear hs340 hd341 h342 h343 h344 h345 hv359 h347 hv361 h349 hv411 h351 hv413 h355 hv438 hb331 hq16 hb332 hq50 hb333 hq84 hb334 hq135 hb335 hq193 hb336 hq255 hb326 hq322 hN337 ha453 hn452
    refine st_nil ?_
    refine hK _ _ ?_
    clear hK K
    refine wp_ret (ret_k hd455 (v := .bool true) (res_t rfl h456 _) ?_)
    exact ⟨rfl, hN457⟩
  have hv458 : a338.eval (.tmp 7) = .bool false := h346.trans (congrArg Value.bool ht358)
  clear h346
  have ht459 : ((mulM (negM a) b).2) = false := (mul_neg a b).1.trans ht358
  have hv460 : a338.eval (.tmp 9) = .bool false := h348.trans (congrArg Value.bool ht459)
  clear h348
  have ht461 : (sameM ((mulM (negM a) b).1) (negM ((mulM a b).1))) = true := (mul_neg a b).2
  rcases Bool.eq_false_or_eq_true ((addM a b).2) with ht462 | ht462
  · skip
    have hv463 : a338.eval (.tmp 11) = .bool true := h350.trans (congrArg Value.bool ht462)
    clear h350
    have ht464 : ((addM (negM a) (negM b)).2) = true := (add_neg a b).1.trans ht462
    have hv465 : a338.eval (.tmp 13) = .bool true := h352.trans (congrArg Value.bool ht464)
    clear h352
    rcases Bool.eq_false_or_eq_true (sameM ((addM (negM a) (negM b)).1) (negM ((addM a b).1))) with ht466 | ht466
    · skip
      have ht467 : ((addM (Nm.mk 0 0) (negM a)).2) = true := (zero_sub a).1
      have hv468 : a338.eval (.tmp 15) = .bool true := h356.trans (congrArg Value.bool ht467)
      clear h356
      rcases Bool.eq_false_or_eq_true (decide (((addM (Nm.mk 0 0) (negM a)).1.k) = 2)) with ht469 | ht469
      · skip
        have ht469d := of_decide_eq_true ht469
        have ht470 : (equalM ((addM (Nm.mk 0 0) (negM a)).1) (negM a)) = false := ((zero_sub a).2.trans (by rw [ht469]; rfl))
        refine wp_g0 [true, true, true, true, true, true, true, true, true, true, true, true, true, true, true, true, true, true, true, true, true, true, true, true, true, true, true, true, true, true, true, true, true, true, true, true, true, true, true, true, true, true, true, true, true, true, true] [] 100
          [ve (.bool true),
           ve (.bool true),
           ve (nv (negM (negM a))),
           ve (nv a),
           ve (.bool true),
           ve (.bool true),
           ve (.bool true),
           ve (.bool false),
           ve (.bool false),
           ve (.bool true),
           ve (.bool true),
           ve (.bool true),
           ve (nv ((mulM (negM a) b).1)),
           ve (nv ((mulM a b).1)),
           ve (nv (negM ((mulM a b).1))),
           ve (.bool true),
           ve (.bool true),
           ve (.bool true),
           ve (.bool true),
           ve (.bool true),
           ve (.bool true),
           ve (.bool true),
           ve (.bool true),
           ve (nv ((addM (negM a) (negM b)).1)),
           ve (nv ((addM a b).1)),
           ve (nv (negM ((addM a b).1))),
           ve (.bool true),
           ve (.bool true),
           ve undef,
           ve undef,
           ve undef,
           ve (.bool true),
           ve (.bool true),
           ve (.bool true),
           ve (.bool true),
           ve (.bool true),
           ve (.bool true),
           ve (nv ((addM (Nm.mk 0 0) (negM a)).1)),
           ve (nv a),
           ve (nv (negM a)),
           ve (.bool false),
           ve (pv q307),
           ve (iv ((addM (Nm.mk 0 0) (negM a)).1.k)),
           ve (.bool false),
           ve (.bool true),
           ve (.bool true),
           ve (.bool true)] hs340 (.eq (.eq (.eq (.eq (.eq (.eq (.eq (.eq (.eq (.eq (.eq (.eq (.eq (.eq (.eq (.eq (.eq (.eq (.eq (.eq (.eq (.eq (.eq (.eq (.eq (.eq (.eq (.eq (.eq (.eq (.eq (.eq (.eq (.eq (.eq (.eq (.eq (.eq (.eq (.eq (.eq (.eq (.eq (.eq (.eq (.eq (.eq (.nil)))))))))))))))))))))))))))))))))))))))))))))))) ?_ ?_
        · skip
          refine .o1 (ck rfl rfl rfl (fun _ w hn k => ⟨#[], rfl, fun _ => by kernel_rfl, first_c  _⟩) fun _ => rfl) ?_
          refine .o1 (tk rfl rfl fun _ w hn k => ⟨_, v_move rfl (k.eq1 0 54 rfl), rfl⟩) ?_
          refine .o1 (tg rfl rfl rfl (fun _ _ k => k.eq1 1 55 rfl) fun _ w hn k => ⟨_, v_load rfl (k.fx 5 h344) (l_two Tryd.isAgg23 Tryd.sizeOf23 (hb332.new_ hn)), rfl⟩) ?_
          refine .o1 (tg rfl rfl rfl (fun _ _ k => k.eq1 1 55 rfl) fun _ w hn k => ⟨_, v_load rfl (k.fx 2 h342) (l_two Tryd.isAgg23 Tryd.sizeOf23 (hb331.new_ hn)), rfl⟩) ?_
          refine .o1 (cg rfl rfl rfl (fun _ _ k => k.eq1 1 55 rfl) rfl (fun _ w hn k => ⟨#[nv (negM (negM a)), nv a], args2 (k.eq1 2 56 rfl) (k.eq1 3 57 rfl), fun _ => by kernel_rfl, same_c (negM (negM a)) a _⟩) fun _ => congrArg Value.bool ht357) ?_
          refine .o1 (tk rfl rfl fun _ w hn k => ⟨_, v_pickT rfl (k.eq1 1 55 rfl) (k.eq1 4 58 rfl), rfl⟩) ?_
          refine .o1 (tk rfl rfl fun _ w hn k => ⟨_, v_move rfl (k.eq1 5 59 rfl), rfl⟩) ?_
          refine .o1 (tg rfl rfl rfl (fun _ _ k => k.eq1 6 60 rfl) fun _ w hn k => ⟨_, v_move rfl (k.fx 7 hv458), rfl⟩) ?_
          refine .o1 (tg rfl rfl rfl (fun _ _ k => k.eq1 6 60 rfl) fun _ w hn k => ⟨_, v_move rfl (k.fx 9 hv460), rfl⟩) ?_
          refine .o1 (tg rfl rfl rfl (fun _ _ k => k.eq1 6 60 rfl) fun _ w hn k => ⟨_, v_bin rfl (k.eq1 7 61 rfl) (k.eq1 8 62 rfl) (fun _ => rfl) (fun w => by kernel_rfl), rfl⟩) ?_
          refine .o1 (tk rfl rfl fun _ w hn k => ⟨_, v_pickT rfl (k.eq1 6 60 rfl) (k.eq1 9 63 rfl), rfl⟩) ?_
          refine .o1 (tk rfl rfl fun _ w hn k => ⟨_, v_move rfl (k.eq1 10 64 rfl), rfl⟩) ?_
          refine .o1 (tg rfl rfl rfl (fun _ _ k => k.eq1 11 65 rfl) fun _ w hn k => ⟨_, v_load rfl (k.fx 8 h347) (l_two Tryd.isAgg23 Tryd.sizeOf23 (hb334.new_ hn)), rfl⟩) ?_
          refine .o1 (tg rfl rfl rfl (fun _ _ k => k.eq1 11 65 rfl) fun _ w hn k => ⟨_, v_load rfl (k.fx 6 h345) (l_two Tryd.isAgg23 Tryd.sizeOf23 (hb333.new_ hn)), rfl⟩) ?_
          refine .o1 (cg rfl rfl rfl (fun _ _ k => k.eq1 11 65 rfl) rfl (fun _ w hn k => ⟨#[nv ((mulM a b).1)], args1 (k.eq1 13 67 rfl), fun _ => by kernel_rfl, neg_c ((mulM a b).1) _⟩) fun _ => rfl) ?_
          refine .o1 (cg rfl rfl rfl (fun _ _ k => k.eq1 11 65 rfl) rfl (fun _ w hn k => ⟨#[nv ((mulM (negM a) b).1), nv (negM ((mulM a b).1))], args2 (k.eq1 12 66 rfl) (k.eq1 14 68 rfl), fun _ => by kernel_rfl, same_c ((mulM (negM a) b).1) (negM ((mulM a b).1)) _⟩) fun _ => congrArg Value.bool ht461) ?_
          refine .o1 (tk rfl rfl fun _ w hn k => ⟨_, v_pickT rfl (k.eq1 11 65 rfl) (k.eq1 15 69 rfl), rfl⟩) ?_
          refine .o1 (tk rfl rfl fun _ w hn k => ⟨_, v_move rfl (k.eq1 16 70 rfl), rfl⟩) ?_
          refine .o1 (tg rfl rfl rfl (fun _ _ k => k.eq1 17 71 rfl) fun _ w hn k => ⟨_, v_move rfl (k.fx 11 hv463), rfl⟩) ?_
          refine .o1 (tg rfl rfl rfl (fun _ _ k => k.eq1 17 71 rfl) fun _ w hn k => ⟨_, v_move rfl (k.fx 13 hv465), rfl⟩) ?_
          refine .o1 (tg rfl rfl rfl (fun _ _ k => k.eq1 17 71 rfl) fun _ w hn k => ⟨_, v_bin rfl (k.eq1 18 72 rfl) (k.eq1 19 73 rfl) (fun _ => rfl) (fun w => by kernel_rfl), rfl⟩) ?_
          refine .o1 (tk rfl rfl fun _ w hn k => ⟨_, v_pickT rfl (k.eq1 17 71 rfl) (k.eq1 20 74 rfl), rfl⟩) ?_
          refine .o1 (tk rfl rfl fun _ w hn k => ⟨_, v_move rfl (k.eq1 21 75 rfl), rfl⟩) ?_
          refine .o1 (tg rfl rfl rfl (fun _ _ k => k.eq1 22 76 rfl) fun _ w hn k => ⟨_, v_load rfl (k.fx 12 h351) (l_two Tryd.isAgg23 Tryd.sizeOf23 (hb336.new_ hn)), rfl⟩) ?_
          refine .o1 (tg rfl rfl rfl (fun _ _ k => k.eq1 22 76 rfl) fun _ w hn k => ⟨_, v_load rfl (k.fx 10 h349) (l_two Tryd.isAgg23 Tryd.sizeOf23 (hb335.new_ hn)), rfl⟩) ?_
          refine .o1 (cg rfl rfl rfl (fun _ _ k => k.eq1 22 76 rfl) rfl (fun _ w hn k => ⟨#[nv ((addM a b).1)], args1 (k.eq1 24 78 rfl), fun _ => by kernel_rfl, neg_c ((addM a b).1) _⟩) fun _ => rfl) ?_
          refine .o1 (cg rfl rfl rfl (fun _ _ k => k.eq1 22 76 rfl) rfl (fun _ w hn k => ⟨#[nv ((addM (negM a) (negM b)).1), nv (negM ((addM a b).1))], args2 (k.eq1 23 77 rfl) (k.eq1 25 79 rfl), fun _ => by kernel_rfl, same_c ((addM (negM a) (negM b)).1) (negM ((addM a b).1)) _⟩) fun _ => congrArg Value.bool ht466) ?_
          refine .o1 (tg rfl rfl rfl (fun _ _ k => k.eq1 22 76 rfl) fun _ w hn k => ⟨_, v_move rfl (k.eq1 26 80 rfl), rfl⟩) ?_
          refine .o1 (sk rfl rfl rfl (fun _ _ _ k => k.eq1 27 81 rfl) (fun _ => rfl)) ?_
          refine .o1 (sk rfl rfl rfl (fun _ _ _ k => k.eq1 27 81 rfl) (fun _ => rfl)) ?_
          refine .o1 (sk rfl rfl rfl (fun _ _ _ k => k.eq1 27 81 rfl) (fun _ => rfl)) ?_
          refine .o1 (tg rfl rfl rfl (fun _ _ k => k.eq1 22 76 rfl) fun _ w hn k => ⟨_, v_pickT rfl (k.eq1 27 81 rfl) rfl, rfl⟩) ?_
          refine .o1 (tk rfl rfl fun _ w hn k => ⟨_, v_pickT rfl (k.eq1 22 76 rfl) (k.eq1 31 85 rfl), rfl⟩) ?_
          refine .o1 (tk rfl rfl fun _ w hn k => ⟨_, v_move rfl (k.eq1 32 86 rfl), rfl⟩) ?_
          refine .o1 (tg rfl rfl rfl (fun _ _ k => k.eq1 33 87 rfl) fun _ w hn k => ⟨_, v_move rfl (k.fx 15 hv468), rfl⟩) ?_
          refine .o1 (tk rfl rfl fun _ w hn k => ⟨_, v_pickT rfl (k.eq1 33 87 rfl) (k.eq1 34 88 rfl), rfl⟩) ?_
          refine .o1 (tk rfl rfl fun _ w hn k => ⟨_, v_move rfl (k.eq1 35 89 rfl), rfl⟩) ?_
          refine .o1 (tg rfl rfl rfl (fun _ _ k => k.eq1 36 90 rfl) fun _ w hn k => ⟨_, v_load rfl (k.fx 14 h355) (l_two Tryd.isAgg23 Tryd.sizeOf23 (hb326.new_ hn)), rfl⟩) ?_
          refine .o1 (tg rfl rfl rfl (fun _ _ k => k.eq1 36 90 rfl) fun _ w hn k => ⟨_, v_load rfl (k.fx 2 h342) (l_two Tryd.isAgg23 Tryd.sizeOf23 (hb331.new_ hn)), rfl⟩) ?_
          refine .o1 (cg rfl rfl rfl (fun _ _ k => k.eq1 36 90 rfl) rfl (fun _ w hn k => ⟨#[nv a], args1 (k.eq1 38 92 rfl), fun _ => by kernel_rfl, neg_c a _⟩) fun _ => rfl) ?_
          refine .o1 (cg rfl rfl rfl (fun _ _ k => k.eq1 36 90 rfl) rfl (fun _ w hn k => ⟨#[nv ((addM (Nm.mk 0 0) (negM a)).1), nv (negM a)], args2 (k.eq1 37 91 rfl) (k.eq1 39 93 rfl), fun _ => by kernel_rfl, equal_c ((addM (Nm.mk 0 0) (negM a)).1) (negM a) _⟩) fun _ => congrArg Value.bool ht470) ?_
          refine .o1 (tg rfl rfl rfl (fun _ _ k => k.eq1 36 90 rfl) fun _ w hn k => ⟨_, v_field rfl (k.fx 14 h355) (fun w => rfl), rfl⟩) ?_
          refine .o1 (tg rfl rfl rfl (fun _ _ k => k.eq1 36 90 rfl) fun _ w hn k => ⟨_, v_load rfl (k.eq1 41 95 rfl) (l_one Tryd.isAgg3 ((hb326.new_ hn).cell 0)), rfl⟩) ?_
          refine .o1 (tg rfl rfl rfl (fun _ _ k => k.eq1 36 90 rfl) fun _ w hn k => ⟨_, v_bin rfl (k.eq1 42 96 rfl) rfl (fun _ => rfl) (r_neq ht469), rfl⟩) ?_
          refine .o1 (tg rfl rfl rfl (fun _ _ k => k.eq1 36 90 rfl) fun _ w hn k => ⟨_, v_bin rfl (k.eq1 40 94 rfl) (k.eq1 43 97 rfl) (fun _ => rfl) (fun w => by kernel_rfl), rfl⟩) ?_
          refine .o1 (tk rfl rfl fun _ w hn k => ⟨_, v_pickT rfl (k.eq1 36 90 rfl) (k.eq1 44 98 rfl), rfl⟩) ?_
          refine .o1 (tk rfl rfl fun _ w hn k => ⟨_, v_assign rfl (k.eq1 45 99 rfl), rfl⟩) ?_
          exact .nil
        intro a471 w472 hn473 ha474
        have hs475 := ha474.size.trans hs340
        have hd476 := ha474.defers.trans hd341
        have h477 := ha474.ge 46 4 rfl
        have hN478 := hN337.transNew hn473
        clear hs340 hd341 h342 h343 h344 h345 hv458 h347 hv460 h349 hv463 h351 hv465 h355 hv468 hb331 hq16 hb332 hq50 hb333 hq84 hb334 hq135 hb335 hq193 hb336 hq255 hb326 hq322 hN337 ha474 hn473
        refine st_nil ?_
        refine hK _ _ ?_
        clear hK K
        refine wp_ret (ret_k hd476 (v := .bool true) (res_t rfl h477 _) ?_)
        exact ⟨rfl, hN478⟩
      have ht469d := of_decide_eq_false ht469
      have ht479 : (equalM ((addM (Nm.mk 0 0) (negM a)).1) (negM a)) = true := ((zero_sub a).2.trans (by rw [ht469]; rfl))
      refine wp_g0 [true, true, true, true, true, true, true, true, true, true, true, true, true, true, true, true, true, true, true, true, true, true, true, true, true, true, true, true, true, true, true, true, true, true, true, true, true, true, true, true, true, true, true, true, true, true, true] [] 100
        [ve (.bool true),
         ve (.bool true),
         ve (nv (negM (negM a))),
         ve (nv a),
         ve (.bool true),
         ve (.bool true),
         ve (.bool true),
         ve (.bool false),
         ve (.bool false),
         ve (.bool true),
         ve (.bool true),
         ve (.bool true),
         ve (nv ((mulM (negM a) b).1)),
         ve (nv ((mulM a b).1)),
         ve (nv (negM ((mulM a b).1))),
         ve (.bool true),
         ve (.bool true),
         ve (.bool true),
         ve (.bool true),
         ve (.bool true),
         ve (.bool true),
         ve (.bool true),
         ve (.bool true),
         ve (nv ((addM (negM a) (negM b)).1)),
         ve (nv ((addM a b).1)),
         ve (nv (negM ((addM a b).1))),
         ve (.bool true),
         ve (.bool true),
         ve undef,
         ve undef,
         ve undef,
         ve (.bool true),
         ve (.bool true),
         ve (.bool true),
         ve (.bool true),
         ve (.bool true),
         ve (.bool true),
         ve (nv ((addM (Nm.mk 0 0) (negM a)).1)),
         ve (nv a),
         ve (nv (negM a)),
         ve (.bool true),
         ve (pv q307),
         ve (iv ((addM (Nm.mk 0 0) (negM a)).1.k)),
         ve (.bool true),
         ve (.bool true),
         ve (.bool true),
         ve (.bool true)] hs340 (.eq (.eq (.eq (.eq (.eq (.eq (.eq (.eq (.eq (.eq (.eq (.eq (.eq (.eq (.eq (.eq (.eq (.eq (.eq (.eq (.eq (.eq (.eq (.eq (.eq (.eq (.eq (.eq (.eq (.eq (.eq (.eq (.eq (.eq (.eq (.eq (.eq (.eq (.eq (.eq (.eq (.eq (.eq (.eq (.eq (.eq (.eq (.nil)))))))))))))))))))))))))))))))))))))))))))))))) ?_ ?_
      · skip
        refine .o1 (ck rfl rfl rfl (fun _ w hn k => ⟨#[], rfl, fun _ => by kernel_rfl, first_c  _⟩) fun _ => rfl) ?_
        refine .o1 (tk rfl rfl fun _ w hn k => ⟨_, v_move rfl (k.eq1 0 54 rfl), rfl⟩) ?_
        refine .o1 (tg rfl rfl rfl (fun _ _ k => k.eq1 1 55 rfl) fun _ w hn k => ⟨_, v_load rfl (k.fx 5 h344) (l_two Tryd.isAgg23 Tryd.sizeOf23 (hb332.new_ hn)), rfl⟩) ?_
        refine .o1 (tg rfl rfl rfl (fun _ _ k => k.eq1 1 55 rfl) fun _ w hn k => ⟨_, v_load rfl (k.fx 2 h342) (l_two Tryd.isAgg23 Tryd.sizeOf23 (hb331.new_ hn)), rfl⟩) ?_
        refine .o1 (cg rfl rfl rfl (fun _ _ k => k.eq1 1 55 rfl) rfl (fun _ w hn k => ⟨#[nv (negM (negM a)), nv a], args2 (k.eq1 2 56 rfl) (k.eq1 3 57 rfl), fun _ => by kernel_rfl, same_c (negM (negM a)) a _⟩) fun _ => congrArg Value.bool ht357) ?_
        refine .o1 (tk rfl rfl fun _ w hn k => ⟨_, v_pickT rfl (k.eq1 1 55 rfl) (k.eq1 4 58 rfl), rfl⟩) ?_
        refine .o1 (tk rfl rfl fun _ w hn k => ⟨_, v_move rfl (k.eq1 5 59 rfl), rfl⟩) ?_
        refine .o1 (tg rfl rfl rfl (fun _ _ k => k.eq1 6 60 rfl) fun _ w hn k => ⟨_, v_move rfl (k.fx 7 hv458), rfl⟩) ?_
        refine .o1 (tg rfl rfl rfl (fun _ _ k => k.eq1 6 60 rfl) fun _ w hn k => ⟨_, v_move rfl (k.fx 9 hv460), rfl⟩) ?_
        refine .o1 (tg rfl rfl rfl (fun _ _ k => k.eq1 6 60 rfl) fun _ w hn k => ⟨_, v_bin rfl (k.eq1 7 61 rfl) (k.eq1 8 62 rfl) (fun _ => rfl) (fun w => by kernel_rfl), rfl⟩) ?_
        refine .o1 (tk rfl rfl fun _ w hn k => ⟨_, v_pickT rfl (k.eq1 6 60 rfl) (k.eq1 9 63 rfl), rfl⟩) ?_
        refine .o1 (tk rfl rfl fun _ w hn k => ⟨_, v_move rfl (k.eq1 10 64 rfl), rfl⟩) ?_
        refine .o1 (tg rfl rfl rfl (fun _ _ k => k.eq1 11 65 rfl) fun _ w hn k => ⟨_, v_load rfl (k.fx 8 h347) (l_two Tryd.isAgg23 Tryd.sizeOf23 (hb334.new_ hn)), rfl⟩) ?_
        refine .o1 (tg rfl rfl rfl (fun _ _ k => k.eq1 11 65 rfl) fun _ w hn k => ⟨_, v_load rfl (k.fx 6 h345) (l_two Tryd.isAgg23 Tryd.sizeOf23 (hb333.new_ hn)), rfl⟩) ?_
        refine .o1 (cg rfl rfl rfl (fun _ _ k => k.eq1 11 65 rfl) rfl (fun _ w hn k => ⟨#[nv ((mulM a b).1)], args1 (k.eq1 13 67 rfl), fun _ => by kernel_rfl, neg_c ((mulM a b).1) _⟩) fun _ => rfl) ?_
        refine .o1 (cg rfl rfl rfl (fun _ _ k => k.eq1 11 65 rfl) rfl (fun _ w hn k => ⟨#[nv ((mulM (negM a) b).1), nv (negM ((mulM a b).1))], args2 (k.eq1 12 66 rfl) (k.eq1 14 68 rfl), fun _ => by kernel_rfl, same_c ((mulM (negM a) b).1) (negM ((mulM a b).1)) _⟩) fun _ => congrArg Value.bool ht461) ?_
        refine .o1 (tk rfl rfl fun _ w hn k => ⟨_, v_pickT rfl (k.eq1 11 65 rfl) (k.eq1 15 69 rfl), rfl⟩) ?_
        refine .o1 (tk rfl rfl fun _ w hn k => ⟨_, v_move rfl (k.eq1 16 70 rfl), rfl⟩) ?_
        refine .o1 (tg rfl rfl rfl (fun _ _ k => k.eq1 17 71 rfl) fun _ w hn k => ⟨_, v_move rfl (k.fx 11 hv463), rfl⟩) ?_
        refine .o1 (tg rfl rfl rfl (fun _ _ k => k.eq1 17 71 rfl) fun _ w hn k => ⟨_, v_move rfl (k.fx 13 hv465), rfl⟩) ?_
        refine .o1 (tg rfl rfl rfl (fun _ _ k => k.eq1 17 71 rfl) fun _ w hn k => ⟨_, v_bin rfl (k.eq1 18 72 rfl) (k.eq1 19 73 rfl) (fun _ => rfl) (fun w => by kernel_rfl), rfl⟩) ?_
        refine .o1 (tk rfl rfl fun _ w hn k => ⟨_, v_pickT rfl (k.eq1 17 71 rfl) (k.eq1 20 74 rfl), rfl⟩) ?_
        refine .o1 (tk rfl rfl fun _ w hn k => ⟨_, v_move rfl (k.eq1 21 75 rfl), rfl⟩) ?_
        refine .o1 (tg rfl rfl rfl (fun _ _ k => k.eq1 22 76 rfl) fun _ w hn k => ⟨_, v_load rfl (k.fx 12 h351) (l_two Tryd.isAgg23 Tryd.sizeOf23 (hb336.new_ hn)), rfl⟩) ?_
        refine .o1 (tg rfl rfl rfl (fun _ _ k => k.eq1 22 76 rfl) fun _ w hn k => ⟨_, v_load rfl (k.fx 10 h349) (l_two Tryd.isAgg23 Tryd.sizeOf23 (hb335.new_ hn)), rfl⟩) ?_
        refine .o1 (cg rfl rfl rfl (fun _ _ k => k.eq1 22 76 rfl) rfl (fun _ w hn k => ⟨#[nv ((addM a b).1)], args1 (k.eq1 24 78 rfl), fun _ => by kernel_rfl, neg_c ((addM a b).1) _⟩) fun _ => rfl) ?_
        refine .o1 (cg rfl rfl rfl (fun _ _ k => k.eq1 22 76 rfl) rfl (fun _ w hn k => ⟨#[nv ((addM (negM a) (negM b)).1), nv (negM ((addM a b).1))], args2 (k.eq1 23 77 rfl) (k.eq1 25 79 rfl), fun _ => by kernel_rfl, same_c ((addM (negM a) (negM b)).1) (negM ((addM a b).1)) _⟩) fun _ => congrArg Value.bool ht466) ?_
        refine .o1 (tg rfl rfl rfl (fun _ _ k => k.eq1 22 76 rfl) fun _ w hn k => ⟨_, v_move rfl (k.eq1 26 80 rfl), rfl⟩) ?_
        refine .o1 (sk rfl rfl rfl (fun _ _ _ k => k.eq1 27 81 rfl) (fun _ => rfl)) ?_
        refine .o1 (sk rfl rfl rfl (fun _ _ _ k => k.eq1 27 81 rfl) (fun _ => rfl)) ?_
        refine .o1 (sk rfl rfl rfl (fun _ _ _ k => k.eq1 27 81 rfl) (fun _ => rfl)) ?_
        refine .o1 (tg rfl rfl rfl (fun _ _ k => k.eq1 22 76 rfl) fun _ w hn k => ⟨_, v_pickT rfl (k.eq1 27 81 rfl) rfl, rfl⟩) ?_
        refine .o1 (tk rfl rfl fun _ w hn k => ⟨_, v_pickT rfl (k.eq1 22 76 rfl) (k.eq1 31 85 rfl), rfl⟩) ?_
        refine .o1 (tk rfl rfl fun _ w hn k => ⟨_, v_move rfl (k.eq1 32 86 rfl), rfl⟩) ?_
        refine .o1 (tg rfl rfl rfl (fun _ _ k => k.eq1 33 87 rfl) fun _ w hn k => ⟨_, v_move rfl (k.fx 15 hv468), rfl⟩) ?_
        refine .o1 (tk rfl rfl fun _ w hn k => ⟨_, v_pickT rfl (k.eq1 33 87 rfl) (k.eq1 34 88 rfl), rfl⟩) ?_
        refine .o1 (tk rfl rfl fun _ w hn k => ⟨_, v_move rfl (k.eq1 35 89 rfl), rfl⟩) ?_
        refine .o1 (tg rfl rfl rfl (fun _ _ k => k.eq1 36 90 rfl) fun _ w hn k => ⟨_, v_load rfl (k.fx 14 h355) (l_two Tryd.isAgg23 Tryd.sizeOf23 (hb326.new_ hn)), rfl⟩) ?_
        refine .o1 (tg rfl rfl rfl (fun _ _ k => k.eq1 36 90 rfl) fun _ w hn k => ⟨_, v_load rfl (k.fx 2 h342) (l_two Tryd.isAgg23 Tryd.sizeOf23 (hb331.new_ hn)), rfl⟩) ?_
        refine .o1 (cg rfl rfl rfl (fun _ _ k => k.eq1 36 90 rfl) rfl (fun _ w hn k => ⟨#[nv a], args1 (k.eq1 38 92 rfl), fun _ => by kernel_rfl, neg_c a _⟩) fun _ => rfl) ?_
        refine .o1 (cg rfl rfl rfl (fun _ _ k => k.eq1 36 90 rfl) rfl (fun _ w hn k => ⟨#[nv ((addM (Nm.mk 0 0) (negM a)).1), nv (negM a)], args2 (k.eq1 37 91 rfl) (k.eq1 39 93 rfl), fun _ => by kernel_rfl, equal_c ((addM (Nm.mk 0 0) (negM a)).1) (negM a) _⟩) fun _ => congrArg Value.bool ht479) ?_
        refine .o1 (tg rfl rfl rfl (fun _ _ k => k.eq1 36 90 rfl) fun _ w hn k => ⟨_, v_field rfl (k.fx 14 h355) (fun w => rfl), rfl⟩) ?_
        refine .o1 (tg rfl rfl rfl (fun _ _ k => k.eq1 36 90 rfl) fun _ w hn k => ⟨_, v_load rfl (k.eq1 41 95 rfl) (l_one Tryd.isAgg3 ((hb326.new_ hn).cell 0)), rfl⟩) ?_
        refine .o1 (tg rfl rfl rfl (fun _ _ k => k.eq1 36 90 rfl) fun _ w hn k => ⟨_, v_bin rfl (k.eq1 42 96 rfl) rfl (fun _ => rfl) (r_neq ht469), rfl⟩) ?_
        refine .o1 (tg rfl rfl rfl (fun _ _ k => k.eq1 36 90 rfl) fun _ w hn k => ⟨_, v_bin rfl (k.eq1 40 94 rfl) (k.eq1 43 97 rfl) (fun _ => rfl) (fun w => by kernel_rfl), rfl⟩) ?_
        refine .o1 (tk rfl rfl fun _ w hn k => ⟨_, v_pickT rfl (k.eq1 36 90 rfl) (k.eq1 44 98 rfl), rfl⟩) ?_
        refine .o1 (tk rfl rfl fun _ w hn k => ⟨_, v_assign rfl (k.eq1 45 99 rfl), rfl⟩) ?_
        exact .nil
      intro a480 w481 hn482 ha483
      have hs484 := ha483.size.trans hs340
      have hd485 := ha483.defers.trans hd341
      have h486 := ha483.ge 46 4 rfl
      have hN487 := hN337.transNew hn482
      clear hs340 hd341 h342 h343 h344 h345 hv458 h347 hv460 h349 hv463 h351 hv465 h355 hv468 hb331 hq16 hb332 hq50 hb333 hq84 hb334 hq135 hb335 hq193 hb336 hq255 hb326 hq322 hN337 ha483 hn482
      refine st_nil ?_
      refine hK _ _ ?_
      clear hK K
      refine wp_ret (ret_k hd485 (v := .bool true) (res_t rfl h486 _) ?_)
      exact ⟨rfl, hN487⟩
    have ht488 : (equalM ((addM a b).1) (Nm.mk 0 0)) = true := ((add_neg a b).2.resolve_left (by rw [ht466]; simp))
    have ht489 : ((addM (Nm.mk 0 0) (negM a)).2) = true := (zero_sub a).1
    have hv490 : a338.eval (.tmp 15) = .bool true := h356.trans (congrArg Value.bool ht489)
    clear h356
    rcases Bool.eq_false_or_eq_true (decide (((addM (Nm.mk 0 0) (negM a)).1.k) = 2)) with ht491 | ht491
    · skip
      have ht491d := of_decide_eq_true ht491
      have ht492 : (equalM ((addM (Nm.mk 0 0) (negM a)).1) (negM a)) = false := ((zero_sub a).2.trans (by rw [ht491]; rfl))
      refine wp_g0 [true, true, true, true, true, true, true, true, true, true, true, true, true, true, true, true, true, true, true, true, true, true, true, true, true, true, true, true, true, true, true, true, true, true, true, true, true, true, true, true, true, true, true, true, true, true, true] [] 100
        [ve (.bool true),
         ve (.bool true),
         ve (nv (negM (negM a))),
         ve (nv a),
         ve (.bool true),
         ve (.bool true),
         ve (.bool true),
         ve (.bool false),
         ve (.bool false),
         ve (.bool true),
         ve (.bool true),
         ve (.bool true),
         ve (nv ((mulM (negM a) b).1)),
         ve (nv ((mulM a b).1)),
         ve (nv (negM ((mulM a b).1))),
         ve (.bool true),
         ve (.bool true),
         ve (.bool true),
         ve (.bool true),
         ve (.bool true),
         ve (.bool true),
         ve (.bool true),
         ve (.bool true),
         ve (nv ((addM (negM a) (negM b)).1)),
         ve (nv ((addM a b).1)),
         ve (nv (negM ((addM a b).1))),
         ve (.bool false),
         ve (.bool false),
         ve (nv ((addM a b).1)),
         ve (nv (Nm.mk 0 0)),
         ve (.bool true),
         ve (.bool true),
         ve (.bool true),
         ve (.bool true),
         ve (.bool true),
         ve (.bool true),
         ve (.bool true),
         ve (nv ((addM (Nm.mk 0 0) (negM a)).1)),
         ve (nv a),
         ve (nv (negM a)),
         ve (.bool false),
         ve (pv q307),
         ve (iv ((addM (Nm.mk 0 0) (negM a)).1.k)),
         ve (.bool false),
         ve (.bool true),
         ve (.bool true),
         ve (.bool true)] hs340 (.eq (.eq (.eq (.eq (.eq (.eq (.eq (.eq (.eq (.eq (.eq (.eq (.eq (.eq (.eq (.eq (.eq (.eq (.eq (.eq (.eq (.eq (.eq (.eq (.eq (.eq (.eq (.eq (.eq (.eq (.eq (.eq (.eq (.eq (.eq (.eq (.eq (.eq (.eq (.eq (.eq (.eq (.eq (.eq (.eq (.eq (.eq (.nil)))))))))))))))))))))))))))))))))))))))))))))))) ?_ ?_
      · skip
        refine .o1 (ck rfl rfl rfl (fun _ w hn k => ⟨#[], rfl, fun _ => by kernel_rfl, first_c  _⟩) fun _ => rfl) ?_
        refine .o1 (tk rfl rfl fun _ w hn k => ⟨_, v_move rfl (k.eq1 0 54 rfl), rfl⟩) ?_
        refine .o1 (tg rfl rfl rfl (fun _ _ k => k.eq1 1 55 rfl) fun _ w hn k => ⟨_, v_load rfl (k.fx 5 h344) (l_two Tryd.isAgg23 Tryd.sizeOf23 (hb332.new_ hn)), rfl⟩) ?_
        refine .o1 (tg rfl rfl rfl (fun _ _ k => k.eq1 1 55 rfl) fun _ w hn k => ⟨_, v_load rfl (k.fx 2 h342) (l_two Tryd.isAgg23 Tryd.sizeOf23 (hb331.new_ hn)), rfl⟩) ?_
        refine .o1 (cg rfl rfl rfl (fun _ _ k => k.eq1 1 55 rfl) rfl (fun _ w hn k => ⟨#[nv (negM (negM a)), nv a], args2 (k.eq1 2 56 rfl) (k.eq1 3 57 rfl), fun _ => by kernel_rfl, same_c (negM (negM a)) a _⟩) fun _ => congrArg Value.bool ht357) ?_
        refine .o1 (tk rfl rfl fun _ w hn k => ⟨_, v_pickT rfl (k.eq1 1 55 rfl) (k.eq1 4 58 rfl), rfl⟩) ?_
        refine .o1 (tk rfl rfl fun _ w hn k => ⟨_, v_move rfl (k.eq1 5 59 rfl), rfl⟩) ?_
        refine .o1 (tg rfl rfl rfl (fun _ _ k => k.eq1 6 60 rfl) fun _ w hn k => ⟨_, v_move rfl (k.fx 7 hv458), rfl⟩) ?_
        refine .o1 (tg rfl rfl rfl (fun _ _ k => k.eq1 6 60 rfl) fun _ w hn k => ⟨_, v_move rfl (k.fx 9 hv460), rfl⟩) ?_
        refine .o1 (tg rfl rfl rfl (fun _ _ k => k.eq1 6 60 rfl) fun _ w hn k => ⟨_, v_bin rfl (k.eq1 7 61 rfl) (k.eq1 8 62 rfl) (fun _ => rfl) (fun w => by kernel_rfl), rfl⟩) ?_
        refine .o1 (tk rfl rfl fun _ w hn k => ⟨_, v_pickT rfl (k.eq1 6 60 rfl) (k.eq1 9 63 rfl), rfl⟩) ?_
        refine .o1 (tk rfl rfl fun _ w hn k => ⟨_, v_move rfl (k.eq1 10 64 rfl), rfl⟩) ?_
        refine .o1 (tg rfl rfl rfl (fun _ _ k => k.eq1 11 65 rfl) fun _ w hn k => ⟨_, v_load rfl (k.fx 8 h347) (l_two Tryd.isAgg23 Tryd.sizeOf23 (hb334.new_ hn)), rfl⟩) ?_
        refine .o1 (tg rfl rfl rfl (fun _ _ k => k.eq1 11 65 rfl) fun _ w hn k => ⟨_, v_load rfl (k.fx 6 h345) (l_two Tryd.isAgg23 Tryd.sizeOf23 (hb333.new_ hn)), rfl⟩) ?_
        refine .o1 (cg rfl rfl rfl (fun _ _ k => k.eq1 11 65 rfl) rfl (fun _ w hn k => ⟨#[nv ((mulM a b).1)], args1 (k.eq1 13 67 rfl), fun _ => by kernel_rfl, neg_c ((mulM a b).1) _⟩) fun _ => rfl) ?_
        refine .o1 (cg rfl rfl rfl (fun _ _ k => k.eq1 11 65 rfl) rfl (fun _ w hn k => ⟨#[nv ((mulM (negM a) b).1), nv (negM ((mulM a b).1))], args2 (k.eq1 12 66 rfl) (k.eq1 14 68 rfl), fun _ => by kernel_rfl, same_c ((mulM (negM a) b).1) (negM ((mulM a b).1)) _⟩) fun _ => congrArg Value.bool ht461) ?_
        refine .o1 (tk rfl rfl fun _ w hn k => ⟨_, v_pickT rfl (k.eq1 11 65 rfl) (k.eq1 15 69 rfl), rfl⟩) ?_
        refine .o1 (tk rfl rfl fun _ w hn k => ⟨_, v_move rfl (k.eq1 16 70 rfl), rfl⟩) ?_
        refine .o1 (tg rfl rfl rfl (fun _ _ k => k.eq1 17 71 rfl) fun _ w hn k => ⟨_, v_move rfl (k.fx 11 hv463), rfl⟩) ?_
        refine .o1 (tg rfl rfl rfl (fun _ _ k => k.eq1 17 71 rfl) fun _ w hn k => ⟨_, v_move rfl (k.fx 13 hv465), rfl⟩) ?_
        refine .o1 (tg rfl rfl rfl (fun _ _ k => k.eq1 17 71 rfl) fun _ w hn k => ⟨_, v_bin rfl (k.eq1 18 72 rfl) (k.eq1 19 73 rfl) (fun _ => rfl) (fun w => by kernel_rfl), rfl⟩) ?_
        refine .o1 (tk rfl rfl fun _ w hn k => ⟨_, v_pickT rfl (k.eq1 17 71 rfl) (k.eq1 20 74 rfl), rfl⟩) ?_
        refine .o1 (tk rfl rfl fun _ w hn k => ⟨_, v_move rfl (k.eq1 21 75 rfl), rfl⟩) ?_
        refine .o1 (tg rfl rfl rfl (fun _ _ k => k.eq1 22 76 rfl) fun _ w hn k => ⟨_, v_load rfl (k.fx 12 h351) (l_two Tryd.isAgg23 Tryd.sizeOf23 (hb336.new_ hn)), rfl⟩) ?_
        refine .o1 (tg rfl rfl rfl (fun _ _ k => k.eq1 22 76 rfl) fun _ w hn k => ⟨_, v_load rfl (k.fx 10 h349) (l_two Tryd.isAgg23 Tryd.sizeOf23 (hb335.new_ hn)), rfl⟩) ?_
        refine .o1 (cg rfl rfl rfl (fun _ _ k => k.eq1 22 76 rfl) rfl (fun _ w hn k => ⟨#[nv ((addM a b).1)], args1 (k.eq1 24 78 rfl), fun _ => by kernel_rfl, neg_c ((addM a b).1) _⟩) fun _ => rfl) ?_
        refine .o1 (cg rfl rfl rfl (fun _ _ k => k.eq1 22 76 rfl) rfl (fun _ w hn k => ⟨#[nv ((addM (negM a) (negM b)).1), nv (negM ((addM a b).1))], args2 (k.eq1 23 77 rfl) (k.eq1 25 79 rfl), fun _ => by kernel_rfl, same_c ((addM (negM a) (negM b)).1) (negM ((addM a b).1)) _⟩) fun _ => congrArg Value.bool ht466) ?_
        refine .o1 (tg rfl rfl rfl (fun _ _ k => k.eq1 22 76 rfl) fun _ w hn k => ⟨_, v_move rfl (k.eq1 26 80 rfl), rfl⟩) ?_
        refine .o1 (tg rfl rfl rfl (fun _ _ k => k.eq1 27 81 rfl) fun _ w hn k => ⟨_, v_load rfl (k.fx 10 h349) (l_two Tryd.isAgg23 Tryd.sizeOf23 (hb335.new_ hn)), rfl⟩) ?_
        refine .o1 (cg rfl rfl rfl (fun _ _ k => k.eq1 27 81 rfl) rfl (fun _ w hn k => ⟨#[iv 0], args1 rfl, fun _ => by kernel_rfl, w_c 0 _⟩) fun _ => rfl) ?_
        refine .o1 (cg rfl rfl rfl (fun _ _ k => k.eq1 27 81 rfl) rfl (fun _ w hn k => ⟨#[nv ((addM a b).1), nv (Nm.mk 0 0)], args2 (k.eq1 28 82 rfl) (k.eq1 29 83 rfl), fun _ => by kernel_rfl, equal_c ((addM a b).1) (Nm.mk 0 0) _⟩) fun _ => congrArg Value.bool ht488) ?_
        refine .o1 (tg rfl rfl rfl (fun _ _ k => k.eq1 22 76 rfl) fun _ w hn k => ⟨_, v_pickF rfl (k.eq1 27 81 rfl) (k.eq1 30 84 rfl), rfl⟩) ?_
        refine .o1 (tk rfl rfl fun _ w hn k => ⟨_, v_pickT rfl (k.eq1 22 76 rfl) (k.eq1 31 85 rfl), rfl⟩) ?_
        refine .o1 (tk rfl rfl fun _ w hn k => ⟨_, v_move rfl (k.eq1 32 86 rfl), rfl⟩) ?_
        refine .o1 (tg rfl rfl rfl (fun _ _ k => k.eq1 33 87 rfl) fun _ w hn k => ⟨_, v_move rfl (k.fx 15 hv490), rfl⟩) ?_
        refine .o1 (tk rfl rfl fun _ w hn k => ⟨_, v_pickT rfl (k.eq1 33 87 rfl) (k.eq1 34 88 rfl), rfl⟩) ?_
        refine .o1 (tk rfl rfl fun _ w hn k => ⟨_, v_move rfl (k.eq1 35 89 rfl), rfl⟩) ?_
        refine .o1 (tg rfl rfl rfl (fun _ _ k => k.eq1 36 90 rfl) fun _ w hn k => ⟨_, v_load rfl (k.fx 14 h355) (l_two Tryd.isAgg23 Tryd.sizeOf23 (hb326.new_ hn)), rfl⟩) ?_
        refine .o1 (tg rfl rfl rfl (fun _ _ k => k.eq1 36 90 rfl) fun _ w hn k => ⟨_, v_load rfl (k.fx 2 h342) (l_two Tryd.isAgg23 Tryd.sizeOf23 (hb331.new_ hn)), rfl⟩) ?_
        refine .o1 (cg rfl rfl rfl (fun _ _ k => k.eq1 36 90 rfl) rfl (fun _ w hn k => ⟨#[nv a], args1 (k.eq1 38 92 rfl), fun _ => by kernel_rfl, neg_c a _⟩) fun _ => rfl) ?_
        refine .o1 (cg rfl rfl rfl (fun _ _ k => k.eq1 36 90 rfl) rfl (fun _ w hn k => ⟨#[nv ((addM (Nm.mk 0 0) (negM a)).1), nv (negM a)], args2 (k.eq1 37 91 rfl) (k.eq1 39 93 rfl), fun _ => by kernel_rfl, equal_c ((addM (Nm.mk 0 0) (negM a)).1) (negM a) _⟩) fun _ => congrArg Value.bool ht492) ?_
        refine .o1 (tg rfl rfl rfl (fun _ _ k => k.eq1 36 90 rfl) fun _ w hn k => ⟨_, v_field rfl (k.fx 14 h355) (fun w => rfl), rfl⟩) ?_
        refine .o1 (tg rfl rfl rfl (fun _ _ k => k.eq1 36 90 rfl) fun _ w hn k => ⟨_, v_load rfl (k.eq1 41 95 rfl) (l_one Tryd.isAgg3 ((hb326.new_ hn).cell 0)), rfl⟩) ?_
        refine .o1 (tg rfl rfl rfl (fun _ _ k => k.eq1 36 90 rfl) fun _ w hn k => ⟨_, v_bin rfl (k.eq1 42 96 rfl) rfl (fun _ => rfl) (r_neq ht491), rfl⟩) ?_
        refine .o1 (tg rfl rfl rfl (fun _ _ k => k.eq1 36 90 rfl) fun _ w hn k => ⟨_, v_bin rfl (k.eq1 40 94 rfl) (k.eq1 43 97 rfl) (fun _ => rfl) (fun w => by kernel_rfl), rfl⟩) ?_
        refine .o1 (tk rfl rfl fun _ w hn k => ⟨_, v_pickT rfl (k.eq1 36 90 rfl) (k.eq1 44 98 rfl), rfl⟩) ?_
        refine .o1 (tk rfl rfl fun _ w hn k => ⟨_, v_assign rfl (k.eq1 45 99 rfl), rfl⟩) ?_
        exact .nil
      intro a493 w494 hn495 ha496
      have hs497 := ha496.size.trans hs340
      have hd498 := ha496.defers.trans hd341
      have h499 := ha496.ge 46 4 rfl
      have hN500 := hN337.transNew hn495
      clear hs340 hd341 h342 h343 h344 h345 hv458 h347 hv460 h349 hv463 h351 hv465 h355 hv490 hb331 hq16 hb332 hq50 hb333 hq84 hb334 hq135 hb335 hq193 hb336 hq255 hb326 hq322 hN337 ha496 hn495
      refine st_nil ?_
      refine hK _ _ ?_
      clear hK K
      refine wp_ret (ret_k hd498 (v := .bool true) (res_t rfl h499 _) ?_)
      exact ⟨rfl, hN500⟩
    have ht491d := of_decide_eq_false ht491
    have ht501 : (equalM ((addM (Nm.mk 0 0) (negM a)).1) (negM a)) = true := ((zero_sub a).2.trans (by rw [ht491]; rfl))
    refine wp_g0 [true, true, true, true, true, true, true, true, true, true, true, true, true, true, true, true, true, true, true, true, true, true, true, true, true, true, true, true, true, true, true, true, true, true, true, true, true, true, true, true, true, true, true, true, true, true, true] [] 100
      [ve (.bool true),
       ve (.bool true),
       ve (nv (negM (negM a))),
       ve (nv a),
       ve (.bool true),
       ve (.bool true),
       ve (.bool true),
       ve (.bool false),
       ve (.bool false),
       ve (.bool true),
       ve (.bool true),
       ve (.bool true),
       ve (nv ((mulM (negM a) b).1)),
       ve (nv ((mulM a b).1)),
       ve (nv (negM ((mulM a b).1))),
       ve (.bool true),
       ve (.bool true),
       ve (.bool true),
       ve (.bool true),
       ve (.bool true),
       ve (.bool true),
       ve (.bool true),
       ve (.bool true),
       ve (nv ((addM (negM a) (negM b)).1)),
       ve (nv ((addM a b).1)),
       ve (nv (negM ((addM a b).1))),
       ve (.bool false),
       ve (.bool false),
       ve (nv ((addM a b).1)),
       ve (nv (Nm.mk 0 0)),
       ve (.bool true),
       ve (.bool true),
       ve (.bool true),
       ve (.bool true),
       ve (.bool true),
       ve (.bool true),
       ve (.bool true),
       ve (nv ((addM (Nm.mk 0 0) (negM a)).1)),
       ve (nv a),
       ve (nv (negM a)),
       ve (.bool true),
       ve (pv q307),
       ve (iv ((addM (Nm.mk 0 0) (negM a)).1.k)),
       ve (.bool true),
       ve (.bool true),
       ve (.bool true),
       ve (.bool true)] hs340 (.eq (.eq (.eq (.eq (.eq (.eq (.eq (.eq (.eq (.eq (.eq (.eq (.eq (.eq (.eq (.eq (.eq (.eq (.eq (.eq (.eq (.eq (.eq (.eq (.eq (.eq (.eq (.eq (.eq (.eq (.eq (.eq (.eq (.eq (.eq (.eq (.eq (.eq (.eq (.eq (.eq (.eq (.eq (.eq (.eq (.eq (.eq (.nil)))))))))))))))))))))))))))))))))))))))))))))))) ?_ ?_
    · skip
      refine .o1 (ck rfl rfl rfl (fun _ w hn k => ⟨#[], rfl, fun _ => by kernel_rfl, first_c  _⟩) fun _ => rfl) ?_
      refine .o1 (tk rfl rfl fun _ w hn k => ⟨_, v_move rfl (k.eq1 0 54 rfl), rfl⟩) ?_
      refine .o1 (tg rfl rfl rfl (fun _ _ k => k.eq1 1 55 rfl) fun _ w hn k => ⟨_, v_load rfl (k.fx 5 h344) (l_two Tryd.isAgg23 Tryd.sizeOf23 (hb332.new_ hn)), rfl⟩) ?_
      refine .o1 (tg rfl rfl rfl (fun _ _ k => k.eq1 1 55 rfl) fun _ w hn k => ⟨_, v_load rfl (k.fx 2 h342) (l_two Tryd.isAgg23 Tryd.sizeOf23 (hb331.new_ hn)), rfl⟩) ?_
      refine .o1 (cg rfl rfl rfl (fun _ _ k => k.eq1 1 55 rfl) rfl (fun _ w hn k => ⟨#[nv (negM (negM a)), nv a], args2 (k.eq1 2 56 rfl) (k.eq1 3 57 rfl), fun _ => by kernel_rfl, same_c (negM (negM a)) a _⟩) fun _ => congrArg Value.bool ht357) ?_
      refine .o1 (tk rfl rfl fun _ w hn k => ⟨_, v_pickT rfl (k.eq1 1 55 rfl) (k.eq1 4 58 rfl), rfl⟩) ?_
      refine .o1 (tk rfl rfl fun _ w hn k => ⟨_, v_move rfl (k.eq1 5 59 rfl), rfl⟩) ?_
      refine .o1 (tg rfl rfl rfl (fun _ _ k => k.eq1 6 60 rfl) fun _ w hn k => ⟨_, v_move rfl (k.fx 7 hv458), rfl⟩) ?_
      refine .o1 (tg rfl rfl rfl (fun _ _ k => k.eq1 6 60 rfl) fun _ w hn k => ⟨_, v_move rfl (k.fx 9 hv460), rfl⟩) ?_
      refine .o1 (tg rfl rfl rfl (fun _ _ k => k.eq1 6 60 rfl) fun _ w hn k => ⟨_, v_bin rfl (k.eq1 7 61 rfl) (k.eq1 8 62 rfl) (fun _ => rfl) (fun w => by kernel_rfl), rfl⟩) ?_
      refine .o1 (tk rfl rfl fun _ w hn k => ⟨_, v_pickT rfl (k.eq1 6 60 rfl) (k.eq1 9 63 rfl), rfl⟩) ?_
      refine .o1 (tk rfl rfl fun _ w hn k => ⟨_, v_move rfl (k.eq1 10 64 rfl), rfl⟩) ?_
      refine .o1 (tg rfl rfl rfl (fun _ _ k => k.eq1 11 65 rfl) fun _ w hn k => ⟨_, v_load rfl (k.fx 8 h347) (l_two Tryd.isAgg23 Tryd.sizeOf23 (hb334.new_ hn)), rfl⟩) ?_
      refine .o1 (tg rfl rfl rfl (fun _ _ k => k.eq1 11 65 rfl) fun _ w hn k => ⟨_, v_load rfl (k.fx 6 h345) (l_two Tryd.isAgg23 Tryd.sizeOf23 (hb333.new_ hn)), rfl⟩) ?_
      refine .o1 (cg rfl rfl rfl (fun _ _ k => k.eq1 11 65 rfl) rfl (fun _ w hn k => ⟨#[nv ((mulM a b).1)], args1 (k.eq1 13 67 rfl), fun _ => by kernel_rfl, neg_c ((mulM a b).1) _⟩) fun _ => rfl) ?_
      refine .o1 (cg rfl rfl rfl (fun _ _ k => k.eq1 11 65 rfl) rfl (fun _ w hn k => ⟨#[nv ((mulM (negM a) b).1), nv (negM ((mulM a b).1))], args2 (k.eq1 12 66 rfl) (k.eq1 14 68 rfl), fun _ => by kernel_rfl, same_c ((mulM (negM a) b).1) (negM ((mulM a b).1)) _⟩) fun _ => congrArg Value.bool ht461) ?_
      refine .o1 (tk rfl rfl fun _ w hn k => ⟨_, v_pickT rfl (k.eq1 11 65 rfl) (k.eq1 15 69 rfl), rfl⟩) ?_
      refine .o1 (tk rfl rfl fun _ w hn k => ⟨_, v_move rfl (k.eq1 16 70 rfl), rfl⟩) ?_
      refine .o1 (tg rfl rfl rfl (fun _ _ k => k.eq1 17 71 rfl) fun _ w hn k => ⟨_, v_move rfl (k.fx 11 hv463), rfl⟩) ?_
      refine .o1 (tg rfl rfl rfl (fun _ _ k => k.eq1 17 71 rfl) fun _ w hn k => ⟨_, v_move rfl (k.fx 13 hv465), rfl⟩) ?_
      refine .o1 (tg rfl rfl rfl (fun _ _ k => k.eq1 17 71 rfl) fun _ w hn k => ⟨_, v_bin rfl (k.eq1 18 72 rfl) (k.eq1 19 73 rfl) (fun _ => rfl) (fun w => by kernel_rfl), rfl⟩) ?_
      refine .o1 (tk rfl rfl fun _ w hn k => ⟨_, v_pickT rfl (k.eq1 17 71 rfl) (k.eq1 20 74 rfl), rfl⟩) ?_
      refine .o1 (tk rfl rfl fun _ w hn k => ⟨_, v_move rfl (k.eq1 21 75 rfl), rfl⟩) ?_
      refine .o1 (tg rfl rfl rfl (fun _ _ k => k.eq1 22 76 rfl) fun _ w hn k => ⟨_, v_load rfl (k.fx 12 h351) (l_two Tryd.isAgg23 Tryd.sizeOf23 (hb336.new_ hn)), rfl⟩) ?_
      refine .o1 (tg rfl rfl rfl (fun _ _ k => k.eq1 22 76 rfl) fun _ w hn k => ⟨_, v_load rfl (k.fx 10 h349) (l_two Tryd.isAgg23 Tryd.sizeOf23 (hb335.new_ hn)), rfl⟩) ?_
      refine .o1 (cg rfl rfl rfl (fun _ _ k => k.eq1 22 76 rfl) rfl (fun _ w hn k => ⟨#[nv ((addM a b).1)], args1 (k.eq1 24 78 rfl), fun _ => by kernel_rfl, neg_c ((addM a b).1) _⟩) fun _ => rfl) ?_
      refine .o1 (cg rfl rfl rfl (fun _ _ k => k.eq1 22 76 rfl) rfl (fun _ w hn k => ⟨#[nv ((addM (negM a) (negM b)).1), nv (negM ((addM a b).1))], args2 (k.eq1 23 77 rfl) (k.eq1 25 79 rfl), fun _ => by kernel_rfl, same_c ((addM (negM a) (negM b)).1) (negM ((addM a b).1)) _⟩) fun _ => congrArg Value.bool ht466) ?_
      refine .o1 (tg rfl rfl rfl (fun _ _ k => k.eq1 22 76 rfl) fun _ w hn k => ⟨_, v_move rfl (k.eq1 26 80 rfl), rfl⟩) ?_
      refine .o1 (tg rfl rfl rfl (fun _ _ k => k.eq1 27 81 rfl) fun _ w hn k => ⟨_, v_load rfl (k.fx 10 h349) (l_two Tryd.isAgg23 Tryd.sizeOf23 (hb335.new_ hn)), rfl⟩) ?_
      refine .o1 (cg rfl rfl rfl (fun _ _ k => k.eq1 27 81 rfl) rfl (fun _ w hn k => ⟨#[iv 0], args1 rfl, fun _ => by kernel_rfl, w_c 0 _⟩) fun _ => rfl) ?_
      refine .o1 (cg rfl rfl rfl (fun _ _ k => k.eq1 27 81 rfl) rfl (fun _ w hn k => ⟨#[nv ((addM a b).1), nv (Nm.mk 0 0)], args2 (k.eq1 28 82 rfl) (k.eq1 29 83 rfl), fun _ => by kernel_rfl, equal_c ((addM a b).1) (Nm.mk 0 0) _⟩) fun _ => congrArg Value.bool ht488) ?_
      refine .o1 (tg rfl rfl rfl (fun _ _ k => k.eq1 22 76 rfl) fun _ w hn k => ⟨_, v_pickF rfl (k.eq1 27 81 rfl) (k.eq1 30 84 rfl), rfl⟩) ?_
      refine .o1 (tk rfl rfl fun _ w hn k => ⟨_, v_pickT rfl (k.eq1 22 76 rfl) (k.eq1 31 85 rfl), rfl⟩) ?_
      refine .o1 (tk rfl rfl fun _ w hn k => ⟨_, v_move rfl (k.eq1 32 86 rfl), rfl⟩) ?_
      refine .o1 (tg rfl rfl rfl (fun _ _ k => k.eq1 33 87 rfl) fun _ w hn k => ⟨_, v_move rfl (k.fx 15 hv490), rfl⟩) ?_
      refine .o1 (tk rfl rfl fun _ w hn k => ⟨_, v_pickT rfl (k.eq1 33 87 rfl) (k.eq1 34 88 rfl), rfl⟩) ?_
      refine .o1 (tk rfl rfl fun _ w hn k => ⟨_, v_move rfl (k.eq1 35 89 rfl), rfl⟩) ?_
      refine .o1 (tg rfl rfl rfl (fun _ _ k => k.eq1 36 90 rfl) fun _ w hn k => ⟨_, v_load rfl (k.fx 14 h355) (l_two Tryd.isAgg23 Tryd.sizeOf23 (hb326.new_ hn)), rfl⟩) ?_
      refine .o1 (tg rfl rfl rfl (fun _ _ k => k.eq1 36 90 rfl) fun _ w hn k => ⟨_, v_load rfl (k.fx 2 h342) (l_two Tryd.isAgg23 Tryd.sizeOf23 (hb331.new_ hn)), rfl⟩) ?_
      refine .o1 (cg rfl rfl rfl (fun _ _ k => k.eq1 36 90 rfl) rfl (fun _ w hn k => ⟨#[nv a], args1 (k.eq1 38 92 rfl), fun _ => by kernel_rfl, neg_c a _⟩) fun _ => rfl) ?_
      refine .o1 (cg rfl rfl rfl (fun _ _ k => k.eq1 36 90 rfl) rfl (fun _ w hn k => ⟨#[nv ((addM (Nm.mk 0 0) (negM a)).1), nv (negM a)], args2 (k.eq1 37 91 rfl) (k.eq1 39 93 rfl), fun _ => by kernel_rfl, equal_c ((addM (Nm.mk 0 0) (negM a)).1) (negM a) _⟩) fun _ => congrArg Value.bool ht501) ?_
      refine .o1 (tg rfl rfl rfl (fun _ _ k => k.eq1 36 90 rfl) fun _ w hn k => ⟨_, v_field rfl (k.fx 14 h355) (fun w => rfl), rfl⟩) ?_
      refine .o1 (tg rfl rfl rfl (fun _ _ k => k.eq1 36 90 rfl) fun _ w hn k => ⟨_, v_load rfl (k.eq1 41 95 rfl) (l_one Tryd.isAgg3 ((hb326.new_ hn).cell 0)), rfl⟩) ?_
      refine .o1 (tg rfl rfl rfl (fun _ _ k => k.eq1 36 90 rfl) fun _ w hn k => ⟨_, v_bin rfl (k.eq1 42 96 rfl) rfl (fun _ => rfl) (r_neq ht491), rfl⟩) ?_
      refine .o1 (tg rfl rfl rfl (fun _ _ k => k.eq1 36 90 rfl) fun _ w hn k => ⟨_, v_bin rfl (k.eq1 40 94 rfl) (k.eq1 43 97 rfl) (fun _ => rfl) (fun w => by kernel_rfl), rfl⟩) ?_
      refine .o1 (tk rfl rfl fun _ w hn k => ⟨_, v_pickT rfl (k.eq1 36 90 rfl) (k.eq1 44 98 rfl), rfl⟩) ?_
      refine .o1 (tk rfl rfl fun _ w hn k => ⟨_, v_assign rfl (k.eq1 45 99 rfl), rfl⟩) ?_
      exact .nil
    intro a502 w503 hn504 ha505
    have hs506 := ha505.size.trans hs340
    have hd507 := ha505.defers.trans hd341
    have h508 := ha505.ge 46 4 rfl
    have hN509 := hN337.transNew hn504
    clear hs340 hd341 h342 h343 h344 h345 hv458 h347 hv460 h349 hv463 h351 hv465 h355 hv490 hb331 hq16 hb332 hq50 hb333 hq84 hb334 hq135 hb335 hq193 hb336 hq255 hb326 hq322 hN337 ha505 hn504
    refine st_nil ?_
    refine hK _ _ ?_
    clear hK K
    refine wp_ret (ret_k hd507 (v := .bool true) (res_t rfl h508 _) ?_)
    exact ⟨rfl, hN509⟩
  have hv510 : a338.eval (.tmp 11) = .bool false := h350.trans (congrArg Value.bool ht462)
  clear h350
  have ht511 : ((addM (negM a) (negM b)).2) = false := (add_neg a b).1.trans ht462
  have hv512 : a338.eval (.tmp 13) = .bool false := h352.trans (congrArg Value.bool ht511)
  clear h352
  rcases Bool.eq_false_or_eq_true (sameM ((addM (negM a) (negM b)).1) (negM ((addM a b).1))) with ht513 | ht513
  · skip
    have ht514 : ((addM (Nm.mk 0 0) (negM a)).2) = true := (zero_sub a).1
    have hv515 : a338.eval (.tmp 15) = .bool true := h356.trans (congrArg Value.bool ht514)
    clear h356
    rcases Bool.eq_false_or_eq_true (decide (((addM (Nm.mk 0 0) (negM a)).1.k) = 2)) with ht516 | ht516
    · skip
      have ht516d := of_decide_eq_true ht516
      have ht517 : (equalM ((addM (Nm.mk 0 0) (negM a)).1) (negM a)) = false := ((zero_sub a).2.trans (by rw [ht516]; rfl))
      refine wp_g0 [true, true, true, true, true, true, true, true, true, true, true, true, true, true, true, true, true, true, true, true, true, true, true, true, true, true, true, true, true, true, true, true, true, true, true, true, true, true, true, true, true, true, true, true, true, true, true] [] 100
        [ve (.bool true),
         ve (.bool true),
         ve (nv (negM (negM a))),
         ve (nv a),
         ve (.bool true),
         ve (.bool true),
         ve (.bool true),
         ve (.bool false),
         ve (.bool false),
         ve (.bool true),
         ve (.bool true),
         ve (.bool true),
         ve (nv ((mulM (negM a) b).1)),
         ve (nv ((mulM a b).1)),
         ve (nv (negM ((mulM a b).1))),
         ve (.bool true),
         ve (.bool true),
         ve (.bool true),
         ve (.bool false),
         ve (.bool false),
         ve (.bool true),
         ve (.bool true),
         ve (.bool true),
         ve (nv ((addM (negM a) (negM b)).1)),
         ve (nv ((addM a b).1)),
         ve (nv (negM ((addM a b).1))),
         ve (.bool true),
         ve (.bool true),
         ve undef,
         ve undef,
         ve undef,
         ve (.bool true),
         ve (.bool true),
         ve (.bool true),
         ve (.bool true),
         ve (.bool true),
         ve (.bool true),
         ve (nv ((addM (Nm.mk 0 0) (negM a)).1)),
         ve (nv a),
         ve (nv (negM a)),
         ve (.bool false),
         ve (pv q307),
         ve (iv ((addM (Nm.mk 0 0) (negM a)).1.k)),
         ve (.bool false),
         ve (.bool true),
         ve (.bool true),
         ve (.bool true)] hs340 (.eq (.eq (.eq (.eq (.eq (.eq (.eq (.eq (.eq (.eq (.eq (.eq (.eq (.eq (.eq (.eq (.eq (.eq (.eq (.eq (.eq (.eq (.eq (.eq (.eq (.eq (.eq (.eq (.eq (.eq (.eq (.eq (.eq (.eq (.eq (.eq (.eq (.eq (.eq (.eq (.eq (.eq (.eq (.eq (.eq (.eq (.eq (.nil)))))))))))))))))))))))))))))))))))))))))))))))) ?_ ?_
      · skip
        refine .o1 (ck rfl rfl rfl (fun _ w hn k => ⟨#[], rfl, fun _ => by kernel_rfl, first_c  _⟩) fun _ => rfl) ?_
        refine .o1 (tk rfl rfl fun _ w hn k => ⟨_, v_move rfl (k.eq1 0 54 rfl), rfl⟩) ?_
        refine .o1 (tg rfl rfl rfl (fun _ _ k => k.eq1 1 55 rfl) fun _ w hn k => ⟨_, v_load rfl (k.fx 5 h344) (l_two Tryd.isAgg23 Tryd.sizeOf23 (hb332.new_ hn)), rfl⟩) ?_
        refine .o1 (tg rfl rfl rfl (fun _ _ k => k.eq1 1 55 rfl) fun _ w hn k => ⟨_, v_load rfl (k.fx 2 h342) (l_two Tryd.isAgg23 Tryd.sizeOf23 (hb331.new_ hn)), rfl⟩) ?_
        refine .o1 (cg rfl rfl rfl (fun _ _ k => k.eq1 1 55 rfl) rfl (fun _ w hn k => ⟨#[nv (negM (negM a)), nv a], args2 (k.eq1 2 56 rfl) (k.eq1 3 57 rfl), fun _ => by kernel_rfl, same_c (negM (negM a)) a _⟩) fun _ => congrArg Value.bool ht357) ?_
        refine .o1 (tk rfl rfl fun _ w hn k => ⟨_, v_pickT rfl (k.eq1 1 55 rfl) (k.eq1 4 58 rfl), rfl⟩) ?_
        refine .o1 (tk rfl rfl fun _ w hn k => ⟨_, v_move rfl (k.eq1 5 59 rfl), rfl⟩) ?_
        refine .o1 (tg rfl rfl rfl (fun _ _ k => k.eq1 6 60 rfl) fun _ w hn k => ⟨_, v_move rfl (k.fx 7 hv458), rfl⟩) ?_
        refine .o1 (tg rfl rfl rfl (fun _ _ k => k.eq1 6 60 rfl) fun _ w hn k => ⟨_, v_move rfl (k.fx 9 hv460), rfl⟩) ?_
        refine .o1 (tg rfl rfl rfl (fun _ _ k => k.eq1 6 60 rfl) fun _ w hn k => ⟨_, v_bin rfl (k.eq1 7 61 rfl) (k.eq1 8 62 rfl) (fun _ => rfl) (fun w => by kernel_rfl), rfl⟩) ?_
        refine .o1 (tk rfl rfl fun _ w hn k => ⟨_, v_pickT rfl (k.eq1 6 60 rfl) (k.eq1 9 63 rfl), rfl⟩) ?_
        refine .o1 (tk rfl rfl fun _ w hn k => ⟨_, v_move rfl (k.eq1 10 64 rfl), rfl⟩) ?_
        refine .o1 (tg rfl rfl rfl (fun _ _ k => k.eq1 11 65 rfl) fun _ w hn k => ⟨_, v_load rfl (k.fx 8 h347) (l_two Tryd.isAgg23 Tryd.sizeOf23 (hb334.new_ hn)), rfl⟩) ?_
        refine .o1 (tg rfl rfl rfl (fun _ _ k => k.eq1 11 65 rfl) fun _ w hn k => ⟨_, v_load rfl (k.fx 6 h345) (l_two Tryd.isAgg23 Tryd.sizeOf23 (hb333.new_ hn)), rfl⟩) ?_
        refine .o1 (cg rfl rfl rfl (fun _ _ k => k.eq1 11 65 rfl) rfl (fun _ w hn k => ⟨#[nv ((mulM a b).1)], args1 (k.eq1 13 67 rfl), fun _ => by kernel_rfl, neg_c ((mulM a b).1) _⟩) fun _ => rfl) ?_
        refine .o1 (cg rfl rfl rfl (fun _ _ k => k.eq1 11 65 rfl) rfl (fun _ w hn k => ⟨#[nv ((mulM (negM a) b).1), nv (negM ((mulM a b).1))], args2 (k.eq1 12 66 rfl) (k.eq1 14 68 rfl), fun _ => by kernel_rfl, same_c ((mulM (negM a) b).1) (negM ((mulM a b).1)) _⟩) fun _ => congrArg Value.bool ht461) ?_
        refine .o1 (tk rfl rfl fun _ w hn k => ⟨_, v_pickT rfl (k.eq1 11 65 rfl) (k.eq1 15 69 rfl), rfl⟩) ?_
        refine .o1 (tk rfl rfl fun _ w hn k => ⟨_, v_move rfl (k.eq1 16 70 rfl), rfl⟩) ?_
        refine .o1 (tg rfl rfl rfl (fun _ _ k => k.eq1 17 71 rfl) fun _ w hn k => ⟨_, v_move rfl (k.fx 11 hv510), rfl⟩) ?_
        refine .o1 (tg rfl rfl rfl (fun _ _ k => k.eq1 17 71 rfl) fun _ w hn k => ⟨_, v_move rfl (k.fx 13 hv512), rfl⟩) ?_
        refine .o1 (tg rfl rfl rfl (fun _ _ k => k.eq1 17 71 rfl) fun _ w hn k => ⟨_, v_bin rfl (k.eq1 18 72 rfl) (k.eq1 19 73 rfl) (fun _ => rfl) (fun w => by kernel_rfl), rfl⟩) ?_
        refine .o1 (tk rfl rfl fun _ w hn k => ⟨_, v_pickT rfl (k.eq1 17 71 rfl) (k.eq1 20 74 rfl), rfl⟩) ?_
        refine .o1 (tk rfl rfl fun _ w hn k => ⟨_, v_move rfl (k.eq1 21 75 rfl), rfl⟩) ?_
        refine .o1 (tg rfl rfl rfl (fun _ _ k => k.eq1 22 76 rfl) fun _ w hn k => ⟨_, v_load rfl (k.fx 12 h351) (l_two Tryd.isAgg23 Tryd.sizeOf23 (hb336.new_ hn)), rfl⟩) ?_
        refine .o1 (tg rfl rfl rfl (fun _ _ k => k.eq1 22 76 rfl) fun _ w hn k => ⟨_, v_load rfl (k.fx 10 h349) (l_two Tryd.isAgg23 Tryd.sizeOf23 (hb335.new_ hn)), rfl⟩) ?_
        refine .o1 (cg rfl rfl rfl (fun _ _ k => k.eq1 22 76 rfl) rfl (fun _ w hn k => ⟨#[nv ((addM a b).1)], args1 (k.eq1 24 78 rfl), fun _ => by kernel_rfl, neg_c ((addM a b).1) _⟩) fun _ => rfl) ?_
        refine .o1 (cg rfl rfl rfl (fun _ _ k => k.eq1 22 76 rfl) rfl (fun _ w hn k => ⟨#[nv ((addM (negM a) (negM b)).1), nv (negM ((addM a b).1))], args2 (k.eq1 23 77 rfl) (k.eq1 25 79 rfl), fun _ => by kernel_rfl, same_c ((addM (negM a) (negM b)).1) (negM ((addM a b).1)) _⟩) fun _ => congrArg Value.bool ht513) ?_
        refine .o1 (tg rfl rfl rfl (fun _ _ k => k.eq1 22 76 rfl) fun _ w hn k => ⟨_, v_move rfl (k.eq1 26 80 rfl), rfl⟩) ?_
        refine .o1 (sk rfl rfl rfl (fun _ _ _ k => k.eq1 27 81 rfl) (fun _ => rfl)) ?_
        refine .o1 (sk rfl rfl rfl (fun _ _ _ k => k.eq1 27 81 rfl) (fun _ => rfl)) ?_
        refine .o1 (sk rfl rfl rfl (fun _ _ _ k => k.eq1 27 81 rfl) (fun _ => rfl)) ?_
        refine .o1 (tg rfl rfl rfl (fun _ _ k => k.eq1 22 76 rfl) fun _ w hn k => ⟨_, v_pickT rfl (k.eq1 27 81 rfl) rfl, rfl⟩) ?_
        refine .o1 (tk rfl rfl fun _ w hn k => ⟨_, v_pickT rfl (k.eq1 22 76 rfl) (k.eq1 31 85 rfl), rfl⟩) ?_
        refine .o1 (tk rfl rfl fun _ w hn k => ⟨_, v_move rfl (k.eq1 32 86 rfl), rfl⟩) ?_
        refine .o1 (tg rfl rfl rfl (fun _ _ k => k.eq1 33 87 rfl) fun _ w hn k => ⟨_, v_move rfl (k.fx 15 hv515), rfl⟩) ?_
        refine .o1 (tk rfl rfl fun _ w hn k => ⟨_, v_pickT rfl (k.eq1 33 87 rfl) (k.eq1 34 88 rfl), rfl⟩) ?_
        refine .o1 (tk rfl rfl fun _ w hn k => ⟨_, v_move rfl (k.eq1 35 89 rfl), rfl⟩) ?_
        refine .o1 (tg rfl rfl rfl (fun _ _ k => k.eq1 36 90 rfl) fun _ w hn k => ⟨_, v_load rfl (k.fx 14 h355) (l_two Tryd.isAgg23 Tryd.sizeOf23 (hb326.new_ hn)), rfl⟩) ?_
        refine .o1 (tg rfl rfl rfl (fun _ _ k => k.eq1 36 90 rfl) fun _ w hn k => ⟨_, v_load rfl (k.fx 2 h342) (l_two Tryd.isAgg23 Tryd.sizeOf23 (hb331.new_ hn)), rfl⟩) ?_
        refine .o1 (cg rfl rfl rfl (fun _ _ k => k.eq1 36 90 rfl) rfl (fun _ w hn k => ⟨#[nv a], args1 (k.eq1 38 92 rfl), fun _ => by kernel_rfl, neg_c a _⟩) fun _ => rfl) ?_
        refine .o1 (cg rfl rfl rfl (fun _ _ k => k.eq1 36 90 rfl) rfl (fun _ w hn k => ⟨#[nv ((addM (Nm.mk 0 0) (negM a)).1), nv (negM a)], args2 (k.eq1 37 91 rfl) (k.eq1 39 93 rfl), fun _ => by kernel_rfl, equal_c ((addM (Nm.mk 0 0) (negM a)).1) (negM a) _⟩) fun _ => congrArg Value.bool ht517) ?_
        refine .o1 (tg rfl rfl rfl (fun _ _ k => k.eq1 36 90 rfl) fun _ w hn k => ⟨_, v_field rfl (k.fx 14 h355) (fun w => rfl), rfl⟩) ?_
        refine .o1 (tg rfl rfl rfl (fun _ _ k => k.eq1 36 90 rfl) fun _ w hn k => ⟨_, v_load rfl (k.eq1 41 95 rfl) (l_one Tryd.isAgg3 ((hb326.new_ hn).cell 0)), rfl⟩) ?_
        refine .o1 (tg rfl rfl rfl (fun _ _ k => k.eq1 36 90 rfl) fun _ w hn k => ⟨_, v_bin rfl (k.eq1 42 96 rfl) rfl (fun _ => rfl) (r_neq ht516), rfl⟩) ?_
        refine .o1 (tg rfl rfl rfl (fun _ _ k => k.eq1 36 90 rfl) fun _ w hn k => ⟨_, v_bin rfl (k.eq1 40 94 rfl) (k.eq1 43 97 rfl) (fun _ => rfl) (fun w => by kernel_rfl), rfl⟩) ?_
        refine .o1 (tk rfl rfl fun _ w hn k => ⟨_, v_pickT rfl (k.eq1 36 90 rfl) (k.eq1 44 98 rfl), rfl⟩) ?_
        refine .o1 (tk rfl rfl fun _ w hn k => ⟨_, v_assign rfl (k.eq1 45 99 rfl), rfl⟩) ?_
        exact .nil
      intro a518 w519 hn520 ha521
      have hs522 := ha521.size.trans hs340
      have hd523 := ha521.defers.trans hd341
      have h524 := ha521.ge 46 4 rfl
      have hN525 := hN337.transNew hn520
      clear hs340 hd341 h342 h343 h344 h345 hv458 h347 hv460 h349 hv510 h351 hv512 h355 hv515 hb331 hq16 hb332 hq50 hb333 hq84 hb334 hq135 hb335 hq193 hb336 hq255 hb326 hq322 hN337 ha521 hn520
      refine st_nil ?_
      refine hK _ _ ?_
      clear hK K
      refine wp_ret (ret_k hd523 (v := .bool true) (res_t rfl h524 _) ?_)
      exact ⟨rfl, hN525⟩
    have ht516d := of_decide_eq_false ht516
    have ht526 : (equalM ((addM (Nm.mk 0 0) (negM a)).1) (negM a)) = true := ((zero_sub a).2.trans (by rw [ht516]; rfl))
    refine wp_g0 [true, true, true, true, true, true, true, true, true, true, true, true, true, true, true, true, true, true, true, true, true, true, true, true, true, true, true, true, true, true, true, true, true, true, true, true, true, true, true, true, true, true, true, true, true, true, true] [] 100
      [ve (.bool true),
       ve (.bool true),
       ve (nv (negM (negM a))),
       ve (nv a),
       ve (.bool true),
       ve (.bool true),
       ve (.bool true),
       ve (.bool false),
       ve (.bool false),
       ve (.bool true),
       ve (.bool true),
       ve (.bool true),
       ve (nv ((mulM (negM a) b).1)),
       ve (nv ((mulM a b).1)),
       ve (nv (negM ((mulM a b).1))),
       ve (.bool true),
       ve (.bool true),
       ve (.bool true),
       ve (.bool false),
       ve (.bool false),
       ve (.bool true),
       ve (.bool true),
       ve (.bool true),
       ve (nv ((addM (negM a) (negM b)).1)),
       ve (nv ((addM a b).1)),
       ve (nv (negM ((addM a b).1))),
       ve (.bool true),
       ve (.bool true),
       ve undef,
       ve undef,
       ve undef,
       ve (.bool true),
       ve (.bool true),
       ve (.bool true),
       ve (.bool true),
       ve (.bool true),
       ve (.bool true),
       ve (nv ((addM (Nm.mk 0 0) (negM a)).1)),
       ve (nv a),
       ve (nv (negM a)),
       ve (.bool true),
       ve (pv q307),
       ve (iv ((addM (Nm.mk 0 0) (negM a)).1.k)),
       ve (.bool true),
       ve (.bool true),
       ve (.bool true),
       ve (.bool true)] hs340 (.eq (.eq (.eq (.eq (.eq (.eq (.eq (.eq (.eq (.eq (.eq (.eq (.eq (.eq (.eq (.eq (.eq (.eq (.eq (.eq (.eq (.eq (.eq (.eq (.eq (.eq (.eq (.eq (.eq (.eq (.eq (.eq (.eq (.eq (.eq (.eq (.eq (.eq (.eq (.eq (.eq (.eq (.eq (.eq (.eq (.eq (.eq (.nil)))))))))))))))))))))))))))))))))))))))))))))))) ?_ ?_
    · skip
      refine .o1 (ck rfl rfl rfl (fun _ w hn k => ⟨#[], rfl, fun _ => by kernel_rfl, first_c  _⟩) fun _ => rfl) ?_
      refine .o1 (tk rfl rfl fun _ w hn k => ⟨_, v_move rfl (k.eq1 0 54 rfl), rfl⟩) ?_
      refine .o1 (tg rfl rfl rfl (fun _ _ k => k.eq1 1 55 rfl) fun _ w hn k => ⟨_, v_load rfl (k.fx 5 h344) (l_two Tryd.isAgg23 Tryd.sizeOf23 (hb332.new_ hn)), rfl⟩) ?_
      refine .o1 (tg rfl rfl rfl (fun _ _ k => k.eq1 1 55 rfl) fun _ w hn k => ⟨_, v_load rfl (k.fx 2 h342) (l_two Tryd.isAgg23 Tryd.sizeOf23 (hb331.new_ hn)), rfl⟩) ?_
      refine .o1 (cg rfl rfl rfl (fun _ _ k => k.eq1 1 55 rfl) rfl (fun _ w hn k => ⟨#[nv (negM (negM a)), nv a], args2 (k.eq1 2 56 rfl) (k.eq1 3 57 rfl), fun _ => by kernel_rfl, same_c (negM (negM a)) a _⟩) fun _ => congrArg Value.bool ht357) ?_
      refine .o1 (tk rfl rfl fun _ w hn k => ⟨_, v_pickT rfl (k.eq1 1 55 rfl) (k.eq1 4 58 rfl), rfl⟩) ?_
      refine .o1 (tk rfl rfl fun _ w hn k => ⟨_, v_move rfl (k.eq1 5 59 rfl), rfl⟩) ?_
      refine .o1 (tg rfl rfl rfl (fun _ _ k => k.eq1 6 60 rfl) fun _ w hn k => ⟨_, v_move rfl (k.fx 7 hv458), rfl⟩) ?_
      refine .o1 (tg rfl rfl rfl (fun _ _ k => k.eq1 6 60 rfl) fun _ w hn k => ⟨_, v_move rfl (k.fx 9 hv460), rfl⟩) ?_
      refine .o1 (tg rfl rfl rfl (fun _ _ k => k.eq1 6 60 rfl) fun _ w hn k => ⟨_, v_bin rfl (k.eq1 7 61 rfl) (k.eq1 8 62 rfl) (fun _ => rfl) (fun w => by kernel_rfl), rfl⟩) ?_
      refine .o1 (tk rfl rfl fun _ w hn k => ⟨_, v_pickT rfl (k.eq1 6 60 rfl) (k.eq1 9 63 rfl), rfl⟩) ?_
      refine .o1 (tk rfl rfl fun _ w hn k => ⟨_, v_move rfl (k.eq1 10 64 rfl), rfl⟩) ?_
      refine .o1 (tg rfl rfl rfl (fun _ _ k => k.eq1 11 65 rfl) fun _ w hn k => ⟨_, v_load rfl (k.fx 8 h347) (l_two Tryd.isAgg23 Tryd.sizeOf23 (hb334.new_ hn)), rfl⟩) ?_
      refine .o1 (tg rfl rfl rfl (fun _ _ k => k.eq1 11 65 rfl) fun _ w hn k => ⟨_, v_load rfl (k.fx 6 h345) (l_two Tryd.isAgg23 Tryd.sizeOf23 (hb333.new_ hn)), rfl⟩) ?_
      refine .o1 (cg rfl rfl rfl (fun _ _ k => k.eq1 11 65 rfl) rfl (fun _ w hn k => ⟨#[nv ((mulM a b).1)], args1 (k.eq1 13 67 rfl), fun _ => by kernel_rfl, neg_c ((mulM a b).1) _⟩) fun _ => rfl) ?_
      refine .o1 (cg rfl rfl rfl (fun _ _ k => k.eq1 11 65 rfl) rfl (fun _ w hn k => ⟨#[nv ((mulM (negM a) b).1), nv (negM ((mulM a b).1))], args2 (k.eq1 12 66 rfl) (k.eq1 14 68 rfl), fun _ => by kernel_rfl, same_c ((mulM (negM a) b).1) (negM ((mulM a b).1)) _⟩) fun _ => congrArg Value.bool ht461) ?_
      refine .o1 (tk rfl rfl fun _ w hn k => ⟨_, v_pickT rfl (k.eq1 11 65 rfl) (k.eq1 15 69 rfl), rfl⟩) ?_
      refine .o1 (tk rfl rfl fun _ w hn k => ⟨_, v_move rfl (k.eq1 16 70 rfl), rfl⟩) ?_
      refine .o1 (tg rfl rfl rfl (fun _ _ k => k.eq1 17 71 rfl) fun _ w hn k => ⟨_, v_move rfl (k.fx 11 hv510), rfl⟩) ?_
      refine .o1 (tg rfl rfl rfl (fun _ _ k => k.eq1 17 71 rfl) fun _ w hn k => ⟨_, v_move rfl (k.fx 13 hv512), rfl⟩) ?_
      refine .o1 (tg rfl rfl rfl (fun _ _ k => k.eq1 17 71 rfl) fun _ w hn k => ⟨_, v_bin rfl (k.eq1 18 72 rfl) (k.eq1 19 73 rfl) (fun _ => rfl) (fun w => by kernel_rfl), rfl⟩) ?_
      refine .o1 (tk rfl rfl fun _ w hn k => ⟨_, v_pickT rfl (k.eq1 17 71 rfl) (k.eq1 20 74 rfl), rfl⟩) ?_
      refine .o1 (tk rfl rfl fun _ w hn k => ⟨_, v_move rfl (k.eq1 21 75 rfl), rfl⟩) ?_
      refine .o1 (tg rfl rfl rfl (fun _ _ k => k.eq1 22 76 rfl) fun _ w hn k => ⟨_, v_load rfl (k.fx 12 h351) (l_two Tryd.isAgg23 Tryd.sizeOf23 (hb336.new_ hn)), rfl⟩) ?_
      refine .o1 (tg rfl rfl rfl (fun _ _ k => k.eq1 22 76 rfl) fun _ w hn k => ⟨_, v_load rfl (k.fx 10 h349) (l_two Tryd.isAgg23 Tryd.sizeOf23 (hb335.new_ hn)), rfl⟩) ?_
      refine .o1 (cg rfl rfl rfl (fun _ _ k => k.eq1 22 76 rfl) rfl (fun _ w hn k => ⟨#[nv ((addM a b).1)], args1 (k.eq1 24 78 rfl), fun _ => by kernel_rfl, neg_c ((addM a b).1) _⟩) fun _ => rfl) ?_
      refine .o1 (cg rfl rfl rfl (fun _ _ k => k.eq1 22 76 rfl) rfl (fun _ w hn k => ⟨#[nv ((addM (negM a) (negM b)).1), nv (negM ((addM a b).1))], args2 (k.eq1 23 77 rfl) (k.eq1 25 79 rfl), fun _ => by kernel_rfl, same_c ((addM (negM a) (negM b)).1) (negM ((addM a b).1)) _⟩) fun _ => congrArg Value.bool ht513) ?_
      refine .o1 (tg rfl rfl rfl (fun _ _ k => k.eq1 22 76 rfl) fun _ w hn k => ⟨_, v_move rfl (k.eq1 26 80 rfl), rfl⟩) ?_
      refine .o1 (sk rfl rfl rfl (fun _ _ _ k => k.eq1 27 81 rfl) (fun _ => rfl)) ?_
      refine .o1 (sk rfl rfl rfl (fun _ _ _ k => k.eq1 27 81 rfl) (fun _ => rfl)) ?_
      refine .o1 (sk rfl rfl rfl (fun _ _ _ k => k.eq1 27 81 rfl) (fun _ => rfl)) ?_
      refine .o1 (tg rfl rfl rfl (fun _ _ k => k.eq1 22 76 rfl) fun _ w hn k => ⟨_, v_pickT rfl (k.eq1 27 81 rfl) rfl, rfl⟩) ?_
      refine .o1 (tk rfl rfl fun _ w hn k => ⟨_, v_pickT rfl (k.eq1 22 76 rfl) (k.eq1 31 85 rfl), rfl⟩) ?_
      refine .o1 (tk rfl rfl fun _ w hn k => ⟨_, v_move rfl (k.eq1 32 86 rfl), rfl⟩) ?_
      refine .o1 (tg rfl rfl rfl (fun _ _ k => k.eq1 33 87 rfl) fun _ w hn k => ⟨_, v_move rfl (k.fx 15 hv515), rfl⟩) ?_
      refine .o1 (tk rfl rfl fun _ w hn k => ⟨_, v_pickT rfl (k.eq1 33 87 rfl) (k.eq1 34 88 rfl), rfl⟩) ?_
      refine .o1 (tk rfl rfl fun _ w hn k => ⟨_, v_move rfl (k.eq1 35 89 rfl), rfl⟩) ?_
      refine .o1 (tg rfl rfl rfl (fun _ _ k => k.eq1 36 90 rfl) fun _ w hn k => ⟨_, v_load rfl (k.fx 14 h355) (l_two Tryd.isAgg23 Tryd.sizeOf23 (hb326.new_ hn)), rfl⟩) ?_
      refine .o1 (tg rfl rfl rfl (fun _ _ k => k.eq1 36 90 rfl) fun _ w hn k => ⟨_, v_load rfl (k.fx 2 h342) (l_two Tryd.isAgg23 Tryd.sizeOf23 (hb331.new_ hn)), rfl⟩) ?_
      refine .o1 (cg rfl rfl rfl (fun _ _ k => k.eq1 36 90 rfl) rfl (fun _ w hn k => ⟨#[nv a], args1 (k.eq1 38 92 rfl), fun _ => by kernel_rfl, neg_c a _⟩) fun _ => rfl) ?_
      refine .o1 (cg rfl rfl rfl (fun _ _ k => k.eq1 36 90 rfl) rfl (fun _ w hn k => ⟨#[nv ((addM (Nm.mk 0 0) (negM a)).1), nv (negM a)], args2 (k.eq1 37 91 rfl) (k.eq1 39 93 rfl), fun _ => by kernel_rfl, equal_c ((addM (Nm.mk 0 0) (negM a)).1) (negM a) _⟩) fun _ => congrArg Value.bool ht526) ?_
      refine .o1 (tg rfl rfl rfl (fun _ _ k => k.eq1 36 90 rfl) fun _ w hn k => ⟨_, v_field rfl (k.fx 14 h355) (fun w => rfl), rfl⟩) ?_
      refine .o1 (tg rfl rfl rfl (fun _ _ k => k.eq1 36 90 rfl) fun _ w hn k => ⟨_, v_load rfl (k.eq1 41 95 rfl) (l_one Tryd.isAgg3 ((hb326.new_ hn).cell 0)), rfl⟩) ?_
      refine .o1 (tg rfl rfl rfl (fun _ _ k => k.eq1 36 90 rfl) fun _ w hn k => ⟨_, v_bin rfl (k.eq1 42 96 rfl) rfl (fun _ => rfl) (r_neq ht516), rfl⟩) ?_
      refine .o1 (tg rfl rfl rfl (fun _ _ k => k.eq1 36 90 rfl) fun _ w hn k => ⟨_, v_bin rfl (k.eq1 40 94 rfl) (k.eq1 43 97 rfl) (fun _ => rfl) (fun w => by kernel_rfl), rfl⟩) ?_
      refine .o1 (tk rfl rfl fun _ w hn k => ⟨_, v_pickT rfl (k.eq1 36 90 rfl) (k.eq1 44 98 rfl), rfl⟩) ?_
      refine .o1 (tk rfl rfl fun _ w hn k => ⟨_, v_assign rfl (k.eq1 45 99 rfl), rfl⟩) ?_
      exact .nil
    intro a527 w528 hn529 ha530
    have hs531 := ha530.size.trans hs340
    have hd532 := ha530.defers.trans hd341
    have h533 := ha530.ge 46 4 rfl
    have hN534 := hN337.transNew hn529
    clear hs340 hd341 h342 h343 h344 h345 hv458 h347 hv460 h349 hv510 h351 hv512 h355 hv515 hb331 hq16 hb332 hq50 hb333 hq84 hb334 hq135 hb335 hq193 hb336 hq255 hb326 hq322 hN337 ha530 hn529
    refine st_nil ?_
    refine hK _ _ ?_
    clear hK K
    refine wp_ret (ret_k hd532 (v := .bool true) (res_t rfl h533 _) ?_)
    exact ⟨rfl, hN534⟩
  have ht535 : (equalM ((addM a b).1) (Nm.mk 0 0)) = true := ((add_neg a b).2.resolve_left (by rw [ht513]; simp))
  have ht536 : ((addM (Nm.mk 0 0) (negM a)).2) = true := (zero_sub a).1
  have hv537 : a338.eval (.tmp 15) = .bool true := h356.trans (congrArg Value.bool ht536)
  clear h356
  rcases Bool.eq_false_or_eq_true (decide (((addM (Nm.mk 0 0) (negM a)).1.k) = 2)) with ht538 | ht538
  · skip
    have ht538d := of_decide_eq_true ht538
    have ht539 : (equalM ((addM (Nm.mk 0 0) (negM a)).1) (negM a)) = false := ((zero_sub a).2.trans (by rw [ht538]; rfl))
    refine wp_g0 [true, true, true, true, true, true, true, true, true, true, true, true, true, true, true, true, true, true, true, true, true, true, true, true, true, true, true, true, true, true, true, true, true, true, true, true, true, true, true, true, true, true, true, true, true, true, true] [] 100
      [ve (.bool true),
       ve (.bool true),
       ve (nv (negM (negM a))),
       ve (nv a),
       ve (.bool true),
       ve (.bool true),
       ve (.bool true),
       ve (.bool false),
       ve (.bool false),
       ve (.bool true),
       ve (.bool true),
       ve (.bool true),
       ve (nv ((mulM (negM a) b).1)),
       ve (nv ((mulM a b).1)),
       ve (nv (negM ((mulM a b).1))),
       ve (.bool true),
       ve (.bool true),
       ve (.bool true),
       ve (.bool false),
       ve (.bool false),
       ve (.bool true),
       ve (.bool true),
       ve (.bool true),
       ve (nv ((addM (negM a) (negM b)).1)),
       ve (nv ((addM a b).1)),
       ve (nv (negM ((addM a b).1))),
       ve (.bool false),
       ve (.bool false),
       ve (nv ((addM a b).1)),
       ve (nv (Nm.mk 0 0)),
       ve (.bool true),
       ve (.bool true),
       ve (.bool true),
       ve (.bool true),
       ve (.bool true),
       ve (.bool true),
       ve (.bool true),
       ve (nv ((addM (Nm.mk 0 0) (negM a)).1)),
       ve (nv a),
       ve (nv (negM a)),
       ve (.bool false),
       ve (pv q307),
       ve (iv ((addM (Nm.mk 0 0) (negM a)).1.k)),
       ve (.bool false),
       ve (.bool true),
       ve (.bool true),
       ve (.bool true)] hs340 (.eq (.eq (.eq (.eq (.eq (.eq (.eq (.eq (.eq (.eq (.eq (.eq (.eq (.eq (.eq (.eq (.eq (.eq (.eq (.eq (.eq (.eq (.eq (.eq (.eq (.eq (.eq (.eq (.eq (.eq (.eq (.eq (.eq (.eq (.eq (.eq (.eq (.eq (.eq (.eq (.eq (.eq (.eq (.eq (.eq (.eq (.eq (.nil)))))))))))))))))))))))))))))))))))))))))))))))) ?_ ?_
    · skip
      refine .o1 (ck rfl rfl rfl (fun _ w hn k => ⟨#[], rfl, fun _ => by kernel_rfl, first_c  _⟩) fun _ => rfl) ?_
      refine .o1 (tk rfl rfl fun _ w hn k => ⟨_, v_move rfl (k.eq1 0 54 rfl), rfl⟩) ?_
      refine .o1 (tg rfl rfl rfl (fun _ _ k => k.eq1 1 55 rfl) fun _ w hn k => ⟨_, v_load rfl (k.fx 5 h344) (l_two Tryd.isAgg23 Tryd.sizeOf23 (hb332.new_ hn)), rfl⟩) ?_
      refine .o1 (tg rfl rfl rfl (fun _ _ k => k.eq1 1 55 rfl) fun _ w hn k => ⟨_, v_load rfl (k.fx 2 h342) (l_two Tryd.isAgg23 Tryd.sizeOf23 (hb331.new_ hn)), rfl⟩) ?_
      refine .o1 (cg rfl rfl rfl (fun _ _ k => k.eq1 1 55 rfl) rfl (fun _ w hn k => ⟨#[nv (negM (negM a)), nv a], args2 (k.eq1 2 56 rfl) (k.eq1 3 57 rfl), fun _ => by kernel_rfl, same_c (negM (negM a)) a _⟩) fun _ => congrArg Value.bool ht357) ?_
      refine .o1 (tk rfl rfl fun _ w hn k => ⟨_, v_pickT rfl (k.eq1 1 55 rfl) (k.eq1 4 58 rfl), rfl⟩) ?_
      refine .o1 (tk rfl rfl fun _ w hn k => ⟨_, v_move rfl (k.eq1 5 59 rfl), rfl⟩) ?_
      refine .o1 (tg rfl rfl rfl (fun _ _ k => k.eq1 6 60 rfl) fun _ w hn k => ⟨_, v_move rfl (k.fx 7 hv458), rfl⟩) ?_
      refine .o1 (tg rfl rfl rfl (fun _ _ k => k.eq1 6 60 rfl) fun _ w hn k => ⟨_, v_move rfl (k.fx 9 hv460), rfl⟩) ?_
      refine .o1 (tg rfl rfl rfl (fun _ _ k => k.eq1 6 60 rfl) fun _ w hn k => ⟨_, v_bin rfl (k.eq1 7 61 rfl) (k.eq1 8 62 rfl) (fun _ => rfl) (fun w => by kernel_rfl), rfl⟩) ?_
      refine .o1 (tk rfl rfl fun _ w hn k => ⟨_, v_pickT rfl (k.eq1 6 60 rfl) (k.eq1 9 63 rfl), rfl⟩) ?_
      refine .o1 (tk rfl rfl fun _ w hn k => ⟨_, v_move rfl (k.eq1 10 64 rfl), rfl⟩) ?_
      refine .o1 (tg rfl rfl rfl (fun _ _ k => k.eq1 11 65 rfl) fun _ w hn k => ⟨_, v_load rfl (k.fx 8 h347) (l_two Tryd.isAgg23 Tryd.sizeOf23 (hb334.new_ hn)), rfl⟩) ?_
      refine .o1 (tg rfl rfl rfl (fun _ _ k => k.eq1 11 65 rfl) fun _ w hn k => ⟨_, v_load rfl (k.fx 6 h345) (l_two Tryd.isAgg23 Tryd.sizeOf23 (hb333.new_ hn)), rfl⟩) ?_
      refine .o1 (cg rfl rfl rfl (fun _ _ k => k.eq1 11 65 rfl) rfl (fun _ w hn k => ⟨#[nv ((mulM a b).1)], args1 (k.eq1 13 67 rfl), fun _ => by kernel_rfl, neg_c ((mulM a b).1) _⟩) fun _ => rfl) ?_
      refine .o1 (cg rfl rfl rfl (fun _ _ k => k.eq1 11 65 rfl) rfl (fun _ w hn k => ⟨#[nv ((mulM (negM a) b).1), nv (negM ((mulM a b).1))], args2 (k.eq1 12 66 rfl) (k.eq1 14 68 rfl), fun _ => by kernel_rfl, same_c ((mulM (negM a) b).1) (negM ((mulM a b).1)) _⟩) fun _ => congrArg Value.bool ht461) ?_
      refine .o1 (tk rfl rfl fun _ w hn k => ⟨_, v_pickT rfl (k.eq1 11 65 rfl) (k.eq1 15 69 rfl), rfl⟩) ?_
      refine .o1 (tk rfl rfl fun _ w hn k => ⟨_, v_move rfl (k.eq1 16 70 rfl), rfl⟩) ?_
      refine .o1 (tg rfl rfl rfl (fun _ _ k => k.eq1 17 71 rfl) fun _ w hn k => ⟨_, v_move rfl (k.fx 11 hv510), rfl⟩) ?_
      refine .o1 (tg rfl rfl rfl (fun _ _ k => k.eq1 17 71 rfl) fun _ w hn k => ⟨_, v_move rfl (k.fx 13 hv512), rfl⟩) ?_
      refine .o1 (tg rfl rfl rfl (fun _ _ k => k.eq1 17 71 rfl) fun _ w hn k => ⟨_, v_bin rfl (k.eq1 18 72 rfl) (k.eq1 19 73 rfl) (fun _ => rfl) (fun w => by kernel_rfl), rfl⟩) ?_
      refine .o1 (tk rfl rfl fun _ w hn k => ⟨_, v_pickT rfl (k.eq1 17 71 rfl) (k.eq1 20 74 rfl), rfl⟩) ?_
      refine .o1 (tk rfl rfl fun _ w hn k => ⟨_, v_move rfl (k.eq1 21 75 rfl), rfl⟩) ?_
      refine .o1 (tg rfl rfl rfl (fun _ _ k => k.eq1 22 76 rfl) fun _ w hn k => ⟨_, v_load rfl (k.fx 12 h351) (l_two Tryd.isAgg23 Tryd.sizeOf23 (hb336.new_ hn)), rfl⟩) ?_
      refine .o1 (tg rfl rfl rfl (fun _ _ k => k.eq1 22 76 rfl) fun _ w hn k => ⟨_, v_load rfl (k.fx 10 h349) (l_two Tryd.isAgg23 Tryd.sizeOf23 (hb335.new_ hn)), rfl⟩) ?_
      refine .o1 (cg rfl rfl rfl (fun _ _ k => k.eq1 22 76 rfl) rfl (fun _ w hn k => ⟨#[nv ((addM a b).1)], args1 (k.eq1 24 78 rfl), fun _ => by kernel_rfl, neg_c ((addM a b).1) _⟩) fun _ => rfl) ?_
      refine .o1 (cg rfl rfl rfl (fun _ _ k => k.eq1 22 76 rfl) rfl (fun _ w hn k => ⟨#[nv ((addM (negM a) (negM b)).1), nv (negM ((addM a b).1))], args2 (k.eq1 23 77 rfl) (k.eq1 25 79 rfl), fun _ => by kernel_rfl, same_c ((addM (negM a) (negM b)).1) (negM ((addM a b).1)) _⟩) fun _ => congrArg Value.bool ht513) ?_
      refine .o1 (tg rfl rfl rfl (fun _ _ k => k.eq1 22 76 rfl) fun _ w hn k => ⟨_, v_move rfl (k.eq1 26 80 rfl), rfl⟩) ?_
      refine .o1 (tg rfl rfl rfl (fun _ _ k => k.eq1 27 81 rfl) fun _ w hn k => ⟨_, v_load rfl (k.fx 10 h349) (l_two Tryd.isAgg23 Tryd.sizeOf23 (hb335.new_ hn)), rfl⟩) ?_
      refine .o1 (cg rfl rfl rfl (fun _ _ k => k.eq1 27 81 rfl) rfl (fun _ w hn k => ⟨#[iv 0], args1 rfl, fun _ => by kernel_rfl, w_c 0 _⟩) fun _ => rfl) ?_
      refine .o1 (cg rfl rfl rfl (fun _ _ k => k.eq1 27 81 rfl) rfl (fun _ w hn k => ⟨#[nv ((addM a b).1), nv (Nm.mk 0 0)], args2 (k.eq1 28 82 rfl) (k.eq1 29 83 rfl), fun _ => by kernel_rfl, equal_c ((addM a b).1) (Nm.mk 0 0) _⟩) fun _ => congrArg Value.bool ht535) ?_
      refine .o1 (tg rfl rfl rfl (fun _ _ k => k.eq1 22 76 rfl) fun _ w hn k => ⟨_, v_pickF rfl (k.eq1 27 81 rfl) (k.eq1 30 84 rfl), rfl⟩) ?_
      refine .o1 (tk rfl rfl fun _ w hn k => ⟨_, v_pickT rfl (k.eq1 22 76 rfl) (k.eq1 31 85 rfl), rfl⟩) ?_
      refine .o1 (tk rfl rfl fun _ w hn k => ⟨_, v_move rfl (k.eq1 32 86 rfl), rfl⟩) ?_
      refine .o1 (tg rfl rfl rfl (fun _ _ k => k.eq1 33 87 rfl) fun _ w hn k => ⟨_, v_move rfl (k.fx 15 hv537), rfl⟩) ?_
      refine .o1 (tk rfl rfl fun _ w hn k => ⟨_, v_pickT rfl (k.eq1 33 87 rfl) (k.eq1 34 88 rfl), rfl⟩) ?_
      refine .o1 (tk rfl rfl fun _ w hn k => ⟨_, v_move rfl (k.eq1 35 89 rfl), rfl⟩) ?_
      refine .o1 (tg rfl rfl rfl (fun _ _ k => k.eq1 36 90 rfl) fun _ w hn k => ⟨_, v_load rfl (k.fx 14 h355) (l_two Tryd.isAgg23 Tryd.sizeOf23 (hb326.new_ hn)), rfl⟩) ?_
      refine .o1 (tg rfl rfl rfl (fun _ _ k => k.eq1 36 90 rfl) fun _ w hn k => ⟨_, v_load rfl (k.fx 2 h342) (l_two Tryd.isAgg23 Tryd.sizeOf23 (hb331.new_ hn)), rfl⟩) ?_
      refine .o1 (cg rfl rfl rfl (fun _ _ k => k.eq1 36 90 rfl) rfl (fun _ w hn k => ⟨#[nv a], args1 (k.eq1 38 92 rfl), fun _ => by kernel_rfl, neg_c a _⟩) fun _ => rfl) ?_
      refine .o1 (cg rfl rfl rfl (fun _ _ k => k.eq1 36 90 rfl) rfl (fun _ w hn k => ⟨#[nv ((addM (Nm.mk 0 0) (negM a)).1), nv (negM a)], args2 (k.eq1 37 91 rfl) (k.eq1 39 93 rfl), fun _ => by kernel_rfl, equal_c ((addM (Nm.mk 0 0) (negM a)).1) (negM a) _⟩) fun _ => congrArg Value.bool ht539) ?_
      refine .o1 (tg rfl rfl rfl (fun _ _ k => k.eq1 36 90 rfl) fun _ w hn k => ⟨_, v_field rfl (k.fx 14 h355) (fun w => rfl), rfl⟩) ?_
      refine .o1 (tg rfl rfl rfl (fun _ _ k => k.eq1 36 90 rfl) fun _ w hn k => ⟨_, v_load rfl (k.eq1 41 95 rfl) (l_one Tryd.isAgg3 ((hb326.new_ hn).cell 0)), rfl⟩) ?_
      refine .o1 (tg rfl rfl rfl (fun _ _ k => k.eq1 36 90 rfl) fun _ w hn k => ⟨_, v_bin rfl (k.eq1 42 96 rfl) rfl (fun _ => rfl) (r_neq ht538), rfl⟩) ?_
      refine .o1 (tg rfl rfl rfl (fun _ _ k => k.eq1 36 90 rfl) fun _ w hn k => ⟨_, v_bin rfl (k.eq1 40 94 rfl) (k.eq1 43 97 rfl) (fun _ => rfl) (fun w => by kernel_rfl), rfl⟩) ?_
      refine .o1 (tk rfl rfl fun _ w hn k => ⟨_, v_pickT rfl (k.eq1 36 90 rfl) (k.eq1 44 98 rfl), rfl⟩) ?_
      refine .o1 (tk rfl rfl fun _ w hn k => ⟨_, v_assign rfl (k.eq1 45 99 rfl), rfl⟩) ?_
      exact .nil
    intro a540 w541 hn542 ha543
    have hs544 := ha543.size.trans hs340
    have hd545 := ha543.defers.trans hd341
    have h546 := ha543.ge 46 4 rfl
    have hN547 := hN337.transNew hn542
    clear hs340 hd341 h342 h343 h344 h345 hv458 h347 hv460 h349 hv510 h351 hv512 h355 hv537 hb331 hq16 hb332 hq50 hb333 hq84 hb334 hq135 hb335 hq193 hb336 hq255 hb326 hq322 hN337 ha543 hn542
    refine st_nil ?_
    refine hK _ _ ?_
    clear hK K
    refine wp_ret (ret_k hd545 (v := .bool true) (res_t rfl h546 _) ?_)
    exact ⟨rfl, hN547⟩
  have ht538d := of_decide_eq_false ht538
  have ht548 : (equalM ((addM (Nm.mk 0 0) (negM a)).1) (negM a)) = true := ((zero_sub a).2.trans (by rw [ht538]; rfl))
  refine wp_g0 [true, true, true, true, true, true, true, true, true, true, true, true, true, true, true, true, true, true, true, true, true, true, true, true, true, true, true, true, true, true, true, true, true, true, true, true, true, true, true, true, true, true, true, true, true, true, true] [] 100
    [ve (.bool true),
     ve (.bool true),
     ve (nv (negM (negM a))),
     ve (nv a),
     ve (.bool true),
     ve (.bool true),
     ve (.bool true),
     ve (.bool false),
     ve (.bool false),
     ve (.bool true),
     ve (.bool true),
     ve (.bool true),
     ve (nv ((mulM (negM a) b).1)),
     ve (nv ((mulM a b).1)),
     ve (nv (negM ((mulM a b).1))),
     ve (.bool true),
     ve (.bool true),
     ve (.bool true),
     ve (.bool false),
     ve (.bool false),
     ve (.bool true),
     ve (.bool true),
     ve (.bool true),
     ve (nv ((addM (negM a) (negM b)).1)),
     ve (nv ((addM a b).1)),
     ve (nv (negM ((addM a b).1))),
     ve (.bool false),
     ve (.bool false),
     ve (nv ((addM a b).1)),
     ve (nv (Nm.mk 0 0)),
     ve (.bool true),
     ve (.bool true),
     ve (.bool true),
     ve (.bool true),
     ve (.bool true),
     ve (.bool true),
     ve (.bool true),
     ve (nv ((addM (Nm.mk 0 0) (negM a)).1)),
     ve (nv a),
     ve (nv (negM a)),
     ve (.bool true),
     ve (pv q307),
     ve (iv ((addM (Nm.mk 0 0) (negM a)).1.k)),
     ve (.bool true),
     ve (.bool true),
     ve (.bool true),
     ve (.bool true)] hs340 (.eq (.eq (.eq (.eq (.eq (.eq (.eq (.eq (.eq (.eq (.eq (.eq (.eq (.eq (.eq (.eq (.eq (.eq (.eq (.eq (.eq (.eq (.eq (.eq (.eq (.eq (.eq (.eq (.eq (.eq (.eq (.eq (.eq (.eq (.eq (.eq (.eq (.eq (.eq (.eq (.eq (.eq (.eq (.eq (.eq (.eq (.eq (.nil)))))))))))))))))))))))))))))))))))))))))))))))) ?_ ?_
  · skip
    refine .o1 (ck rfl rfl rfl (fun _ w hn k => ⟨#[], rfl, fun _ => by kernel_rfl, first_c  _⟩) fun _ => rfl) ?_
    refine .o1 (tk rfl rfl fun _ w hn k => ⟨_, v_move rfl (k.eq1 0 54 rfl), rfl⟩) ?_
    refine .o1 (tg rfl rfl rfl (fun _ _ k => k.eq1 1 55 rfl) fun _ w hn k => ⟨_, v_load rfl (k.fx 5 h344) (l_two Tryd.isAgg23 Tryd.sizeOf23 (hb332.new_ hn)), rfl⟩) ?_
    refine .o1 (tg rfl rfl rfl (fun _ _ k => k.eq1 1 55 rfl) fun _ w hn k => ⟨_, v_load rfl (k.fx 2 h342) (l_two Tryd.isAgg23 Tryd.sizeOf23 (hb331.new_ hn)), rfl⟩) ?_
    refine .o1 (cg rfl rfl rfl (fun _ _ k => k.eq1 1 55 rfl) rfl (fun _ w hn k => ⟨#[nv (negM (negM a)), nv a], args2 (k.eq1 2 56 rfl) (k.eq1 3 57 rfl), fun _ => by kernel_rfl, same_c (negM (negM a)) a _⟩) fun _ => congrArg Value.bool ht357) ?_
    refine .o1 (tk rfl rfl fun _ w hn k => ⟨_, v_pickT rfl (k.eq1 1 55 rfl) (k.eq1 4 58 rfl), rfl⟩) ?_
    refine .o1 (tk rfl rfl fun _ w hn k => ⟨_, v_move rfl (k.eq1 5 59 rfl), rfl⟩) ?_
    refine .o1 (tg rfl rfl rfl (fun _ _ k => k.eq1 6 60 rfl) fun _ w hn k => ⟨_, v_move rfl (k.fx 7 hv458), rfl⟩) ?_
    refine .o1 (tg rfl rfl rfl (fun _ _ k => k.eq1 6 60 rfl) fun _ w hn k => ⟨_, v_move rfl (k.fx 9 hv460), rfl⟩) ?_
    refine .o1 (tg rfl rfl rfl (fun _ _ k => k.eq1 6 60 rfl) fun _ w hn k => ⟨_, v_bin rfl (k.eq1 7 61 rfl) (k.eq1 8 62 rfl) (fun _ => rfl) (fun w => by kernel_rfl), rfl⟩) ?_
    refine .o1 (tk rfl rfl fun _ w hn k => ⟨_, v_pickT rfl (k.eq1 6 60 rfl) (k.eq1 9 63 rfl), rfl⟩) ?_
    refine .o1 (tk rfl rfl fun _ w hn k => ⟨_, v_move rfl (k.eq1 10 64 rfl), rfl⟩) ?_
    refine .o1 (tg rfl rfl rfl (fun _ _ k => k.eq1 11 65 rfl) fun _ w hn k => ⟨_, v_load rfl (k.fx 8 h347) (l_two Tryd.isAgg23 Tryd.sizeOf23 (hb334.new_ hn)), rfl⟩) ?_
    refine .o1 (tg rfl rfl rfl (fun _ _ k => k.eq1 11 65 rfl) fun _ w hn k => ⟨_, v_load rfl (k.fx 6 h345) (l_two Tryd.isAgg23 Tryd.sizeOf23 (hb333.new_ hn)), rfl⟩) ?_
    refine .o1 (cg rfl rfl rfl (fun _ _ k => k.eq1 11 65 rfl) rfl (fun _ w hn k => ⟨#[nv ((mulM a b).1)], args1 (k.eq1 13 67 rfl), fun _ => by kernel_rfl, neg_c ((mulM a b).1) _⟩) fun _ => rfl) ?_
    refine .o1 (cg rfl rfl rfl (fun _ _ k => k.eq1 11 65 rfl) rfl (fun _ w hn k => ⟨#[nv ((mulM (negM a) b).1), nv (negM ((mulM a b).1))], args2 (k.eq1 12 66 rfl) (k.eq1 14 68 rfl), fun _ => by kernel_rfl, same_c ((mulM (negM a) b).1) (negM ((mulM a b).1)) _⟩) fun _ => congrArg Value.bool ht461) ?_
    refine .o1 (tk rfl rfl fun _ w hn k => ⟨_, v_pickT rfl (k.eq1 11 65 rfl) (k.eq1 15 69 rfl), rfl⟩) ?_
    refine .o1 (tk rfl rfl fun _ w hn k => ⟨_, v_move rfl (k.eq1 16 70 rfl), rfl⟩) ?_
    refine .o1 (tg rfl rfl rfl (fun _ _ k => k.eq1 17 71 rfl) fun _ w hn k => ⟨_, v_move rfl (k.fx 11 hv510), rfl⟩) ?_
    refine .o1 (tg rfl rfl rfl (fun _ _ k => k.eq1 17 71 rfl) fun _ w hn k => ⟨_, v_move rfl (k.fx 13 hv512), rfl⟩) ?_
    refine .o1 (tg rfl rfl rfl (fun _ _ k => k.eq1 17 71 rfl) fun _ w hn k => ⟨_, v_bin rfl (k.eq1 18 72 rfl) (k.eq1 19 73 rfl) (fun _ => rfl) (fun w => by kernel_rfl), rfl⟩) ?_
    refine .o1 (tk rfl rfl fun _ w hn k => ⟨_, v_pickT rfl (k.eq1 17 71 rfl) (k.eq1 20 74 rfl), rfl⟩) ?_
    refine .o1 (tk rfl rfl fun _ w hn k => ⟨_, v_move rfl (k.eq1 21 75 rfl), rfl⟩) ?_
    refine .o1 (tg rfl rfl rfl (fun _ _ k => k.eq1 22 76 rfl) fun _ w hn k => ⟨_, v_load rfl (k.fx 12 h351) (l_two Tryd.isAgg23 Tryd.sizeOf23 (hb336.new_ hn)), rfl⟩) ?_
    refine .o1 (tg rfl rfl rfl (fun _ _ k => k.eq1 22 76 rfl) fun _ w hn k => ⟨_, v_load rfl (k.fx 10 h349) (l_two Tryd.isAgg23 Tryd.sizeOf23 (hb335.new_ hn)), rfl⟩) ?_
    refine .o1 (cg rfl rfl rfl (fun _ _ k => k.eq1 22 76 rfl) rfl (fun _ w hn k => ⟨#[nv ((addM a b).1)], args1 (k.eq1 24 78 rfl), fun _ => by kernel_rfl, neg_c ((addM a b).1) _⟩) fun _ => rfl) ?_
    refine .o1 (cg rfl rfl rfl (fun _ _ k => k.eq1 22 76 rfl) rfl (fun _ w hn k => ⟨#[nv ((addM (negM a) (negM b)).1), nv (negM ((addM a b).1))], args2 (k.eq1 23 77 rfl) (k.eq1 25 79 rfl), fun _ => by kernel_rfl, same_c ((addM (negM a) (negM b)).1) (negM ((addM a b).1)) _⟩) fun _ => congrArg Value.bool ht513) ?_
    refine .o1 (tg rfl rfl rfl (fun _ _ k => k.eq1 22 76 rfl) fun _ w hn k => ⟨_, v_move rfl (k.eq1 26 80 rfl), rfl⟩) ?_
    refine .o1 (tg rfl rfl rfl (fun _ _ k => k.eq1 27 81 rfl) fun _ w hn k => ⟨_, v_load rfl (k.fx 10 h349) (l_two Tryd.isAgg23 Tryd.sizeOf23 (hb335.new_ hn)), rfl⟩) ?_
    refine .o1 (cg rfl rfl rfl (fun _ _ k => k.eq1 27 81 rfl) rfl (fun _ w hn k => ⟨#[iv 0], args1 rfl, fun _ => by kernel_rfl, w_c 0 _⟩) fun _ => rfl) ?_
    refine .o1 (cg rfl rfl rfl (fun _ _ k => k.eq1 27 81 rfl) rfl (fun _ w hn k => ⟨#[nv ((addM a b).1), nv (Nm.mk 0 0)], args2 (k.eq1 28 82 rfl) (k.eq1 29 83 rfl), fun _ => by kernel_rfl, equal_c ((addM a b).1) (Nm.mk 0 0) _⟩) fun _ => congrArg Value.bool ht535) ?_
    refine .o1 (tg rfl rfl rfl (fun _ _ k => k.eq1 22 76 rfl) fun _ w hn k => ⟨_, v_pickF rfl (k.eq1 27 81 rfl) (k.eq1 30 84 rfl), rfl⟩) ?_
    refine .o1 (tk rfl rfl fun _ w hn k => ⟨_, v_pickT rfl (k.eq1 22 76 rfl) (k.eq1 31 85 rfl), rfl⟩) ?_
    refine .o1 (tk rfl rfl fun _ w hn k => ⟨_, v_move rfl (k.eq1 32 86 rfl), rfl⟩) ?_
    refine .o1 (tg rfl rfl rfl (fun _ _ k => k.eq1 33 87 rfl) fun _ w hn k => ⟨_, v_move rfl (k.fx 15 hv537), rfl⟩) ?_
    refine .o1 (tk rfl rfl fun _ w hn k => ⟨_, v_pickT rfl (k.eq1 33 87 rfl) (k.eq1 34 88 rfl), rfl⟩) ?_
    refine .o1 (tk rfl rfl fun _ w hn k => ⟨_, v_move rfl (k.eq1 35 89 rfl), rfl⟩) ?_
    refine .o1 (tg rfl rfl rfl (fun _ _ k => k.eq1 36 90 rfl) fun _ w hn k => ⟨_, v_load rfl (k.fx 14 h355) (l_two Tryd.isAgg23 Tryd.sizeOf23 (hb326.new_ hn)), rfl⟩) ?_
    refine .o1 (tg rfl rfl rfl (fun _ _ k => k.eq1 36 90 rfl) fun _ w hn k => ⟨_, v_load rfl (k.fx 2 h342) (l_two Tryd.isAgg23 Tryd.sizeOf23 (hb331.new_ hn)), rfl⟩) ?_
    refine .o1 (cg rfl rfl rfl (fun _ _ k => k.eq1 36 90 rfl) rfl (fun _ w hn k => ⟨#[nv a], args1 (k.eq1 38 92 rfl), fun _ => by kernel_rfl, neg_c a _⟩) fun _ => rfl) ?_
    refine .o1 (cg rfl rfl rfl (fun _ _ k => k.eq1 36 90 rfl) rfl (fun _ w hn k => ⟨#[nv ((addM (Nm.mk 0 0) (negM a)).1), nv (negM a)], args2 (k.eq1 37 91 rfl) (k.eq1 39 93 rfl), fun _ => by kernel_rfl, equal_c ((addM (Nm.mk 0 0) (negM a)).1) (negM a) _⟩) fun _ => congrArg Value.bool ht548) ?_
    refine .o1 (tg rfl rfl rfl (fun _ _ k => k.eq1 36 90 rfl) fun _ w hn k => ⟨_, v_field rfl (k.fx 14 h355) (fun w => rfl), rfl⟩) ?_
    refine .o1 (tg rfl rfl rfl (fun _ _ k => k.eq1 36 90 rfl) fun _ w hn k => ⟨_, v_load rfl (k.eq1 41 95 rfl) (l_one Tryd.isAgg3 ((hb326.new_ hn).cell 0)), rfl⟩) ?_
    refine .o1 (tg rfl rfl rfl (fun _ _ k => k.eq1 36 90 rfl) fun _ w hn k => ⟨_, v_bin rfl (k.eq1 42 96 rfl) rfl (fun _ => rfl) (r_neq ht538), rfl⟩) ?_
    refine .o1 (tg rfl rfl rfl (fun _ _ k => k.eq1 36 90 rfl) fun _ w hn k => ⟨_, v_bin rfl (k.eq1 40 94 rfl) (k.eq1 43 97 rfl) (fun _ => rfl) (fun w => by kernel_rfl), rfl⟩) ?_
    refine .o1 (tk rfl rfl fun _ w hn k => ⟨_, v_pickT rfl (k.eq1 36 90 rfl) (k.eq1 44 98 rfl), rfl⟩) ?_
    refine .o1 (tk rfl rfl fun _ w hn k => ⟨_, v_assign rfl (k.eq1 45 99 rfl), rfl⟩) ?_
    exact .nil
  intro a549 w550 hn551 ha552
  have hs553 := ha552.size.trans hs340
  have hd554 := ha552.defers.trans hd341
  have h555 := ha552.ge 46 4 rfl
  have hN556 := hN337.transNew hn551
  clear hs340 hd341 h342 h343 h344 h345 hv458 h347 hv460 h349 hv510 h351 hv512 h355 hv537 hb331 hq16 hb332 hq50 hb333 hq84 hb334 hq135 hb335 hq193 hb336 hq255 hb326 hq322 hN337 ha552 hn551
  refine st_nil ?_
  refine hK _ _ ?_
  clear hK K
  refine wp_ret (ret_k hd554 (v := .bool true) (res_t rfl h555 _) ?_)
  exact ⟨rfl, hN556⟩
end Go.Proofs.YtldakajmhfdfgaaDoor
