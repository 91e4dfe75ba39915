/- Package renref1. -/
import Derived.Test.YtldakajmhfdfgaaDoorNumRa
namespace Go.Proofs.YtldakajmhfdfgaaDoor
open Go.RowKit
set_option linter.unusedSimpArgs false
set_option linter.unusedVariables false
set_option maxHeartbeats 8000000 in
set_option maxRecDepth 100000 in
theorem rmul0_c (a : Nm) (b : Nm) (w : World) : Calls Tryd.prog 41 #[nv a, nv b] w (IsRet (.tuple #[nv ((rMulM a b).1), .bool ((rMulM a b).2)]) w) := by
  refine enter_abs Tryd.func41 rfl fun a0 hs0 hd0 hp => ?_
  have hs0 : a0.tmps.size = 67 := hs0
  have hN0 : New w w := Upd.refl _ _
  have hp0 : a0.eval (.tmp 0) = nv a := hp 0 _ rfl
  have hp1 : a0.eval (.tmp 1) = nv b := hp 1 _ rfl
  clear hp
  refine wp_seq_k fun K hK => ?_
  refine wp_g [true, true, true, true] [] [] 67
    [IsNew w 23 [iv a.k, iv a.n],
     IsNew w 23 [iv b.k, iv b.n],
     IsNew w 23 [iv 0, iv 0],
     ve (.bool false)]
    [0, 1, 2] (newsCons (fun v w h => IsNew.old h) (newsCons (fun v w h => IsNew.old h) (newsCons (fun v w h => IsNew.old h) newsNil))) hs0 (.nw (.nw (.nw (.eq (.nil))))) ?_ (fun i h => by cases h) ?_
  · skip
    refine .o2 (step_allocN (cs := [iv a.k, iv a.n]) (t := 23) rfl (noG rfl) (fun _ w hn k => v_box rfl (k.fx 0 hp0) (fun w => rfl)) (fun q _ hq hb => ⟨q, rfl, hq, hb⟩)) ?_
    refine .o2 (step_allocN (cs := [iv b.k, iv b.n]) (t := 23) rfl (noG rfl) (fun _ w hn k => v_box rfl (k.fx 1 hp1) (fun w => rfl)) (fun q _ hq hb => ⟨q, rfl, hq, hb⟩)) ?_
    refine .o2 (step_allocN (cs := [iv 0, iv 0]) (t := 23) rfl (noG rfl) (fun _ w hn k => rfl) (fun q _ hq hb => ⟨q, rfl, hq, hb⟩)) ?_
    refine .o1 (tk rfl rfl fun _ w hn k => ⟨_, v_assign rfl rfl, rfl⟩) ?_
    exact .nil
  intro a1 w2 hn3 ha4
  have hs5 := ha4.size.trans hs0
  have hd6 := ha4.defers.trans hd0
  obtain ⟨q8, h7, hq9, hb10⟩ : IsNew _ _ _ _ _ := ha4.got 0 2 rfl (by kernel_rfl)
  obtain ⟨q12, h11, hq13, hb14⟩ : IsNew _ _ _ _ _ := ha4.got 1 3 rfl (by kernel_rfl)
  obtain ⟨q16, h15, hq17, hb18⟩ : IsNew _ _ _ _ _ := ha4.got 2 4 rfl (by kernel_rfl)
  have h19 := ha4.ge 3 5 rfl
  have hne20 : q8 ≠ q16 := ha4.ne 0 2 2 4 h7 h15
  have hne21 : q12 ≠ q16 := ha4.ne 1 2 3 4 h11 h15
  have hq22 := Nat.le_trans hN0.size hq9
  have hq23 := Nat.le_trans hN0.size hq13
  have hq24 := Nat.le_trans hN0.size hq17
  have hN25 := hN0.transNew hn3
  clear hs0 hd0 hp0 hp1 hq9 hq13 hq17 hN0 ha4 hn3
  refine st_nil ?_
  refine hK _ _ ?_
  clear hK K
  refine wp_seq_k fun K hK => ?_
  refine wp_g [true, true, true, true, true, true, false, false] [] [(6, false), (7, false)] 67
    [ve (nv a),
     ve (nv (asM a)),
     ve (nv b),
     ve (nv (asM b)),
     IsNew w2 23 [iv 0, iv 0],
     IsNew w2 23 [iv 0, iv 0],
     vt,
     vt]
    [4, 5] (newsCons (fun v w h => IsNew.old h) (newsCons (fun v w h => IsNew.old h) newsNil)) hs5 (.eq (.eq (.eq (.eq (.nw (.nw (.tt (.tt (.nil))))))))) ?_ (fun i h => by cases h) ?_
  · skip
    refine .o1 (tk rfl rfl fun _ w hn k => ⟨_, v_load rfl (k.fx 2 h7) (l_two Tryd.isAgg23 Tryd.sizeOf23 (hb10.new_ hn)), rfl⟩) ?_
    refine .o1 (ck rfl rfl rfl (fun _ w hn k => ⟨#[nv a], args1 (k.eq1 0 9 rfl), fun _ => by kernel_rfl, good_c a _⟩) fun _ => rfl) ?_
    refine .o1 (tk rfl rfl fun _ w hn k => ⟨_, v_load rfl (k.fx 3 h11) (l_two Tryd.isAgg23 Tryd.sizeOf23 (hb14.new_ hn)), rfl⟩) ?_
    refine .o1 (ck rfl rfl rfl (fun _ w hn k => ⟨#[nv b], args1 (k.eq1 2 11 rfl), fun _ => by kernel_rfl, good_c b _⟩) fun _ => rfl) ?_
    refine .o2 (step_allocN (cs := [iv 0, iv 0]) (t := 23) rfl (noG rfl) (fun _ w hn k => rfl) (fun q _ hq hb => ⟨q, rfl, hq, hb⟩)) ?_
    refine .o2 (step_allocN (cs := [iv 0, iv 0]) (t := 23) rfl (noG rfl) (fun _ w hn k => rfl) (fun q _ hq hb => ⟨q, rfl, hq, hb⟩)) ?_
    refine .off ?_
    refine .off ?_
    exact .nil
  intro a26 w27 hn28 ha29
  have hs30 := ha29.size.trans hs5
  have hd31 := ha29.defers.trans hd6
  have h32 := ha29.fx 4 h15
  have h33 := ha29.fx 5 h19
  have h34 := ha29.ge 1 10 rfl
  have h35 := ha29.ge 3 12 rfl
  obtain ⟨q37, h36, hq38, hb39⟩ : IsNew _ _ _ _ _ := ha29.got 4 6 rfl (by kernel_rfl)
  obtain ⟨q41, h40, hq42, hb43⟩ : IsNew _ _ _ _ _ := ha29.got 5 7 rfl (by kernel_rfl)
  have hb44 := hb18.new_ hn28
  have hne45 : q37 ≠ q41 := ha29.ne 4 5 6 7 h36 h40
  have hne46 : q16 ≠ q37 := by have h1 := hb18.lt; have h2 := hq38; omega
  have hne47 : q16 ≠ q41 := by have h1 := hb18.lt; have h2 := hq42; omega
  have hq48 := Nat.le_trans hN25.size hq38
  have hq49 := Nat.le_trans hN25.size hq42
  have hN50 := hN25.transNew hn28
  clear hs5 hd6 h7 h11 h15 h19 hb10 hq22 hb14 hq23 hb18 hq38 hq42 hN25 ha29 hn28
  have hbd_a := as_bd a
  have hbd_b := as_bd b
  obtain ⟨w51, -, hst52, hb53, hu54, hf55⟩ := s_two (v0 := iv ((asM a).k)) (v1 := iv ((asM a).n)) Tryd.sizeOf23 rfl rfl rfl hb39
  refine st_act rfl rfl fun K56 hL57 => a_store' rfl h36 h34 hst52 (hL57 _ _ trivial ?_)
  have hb58 := hf55 _ _ _ (hne46) hb44
  have hb59 := hf55 _ _ _ (fun h => hne45 h.symm) hb43
  have hN60 := hN50.trans hu54 (fun k hk hkb => by subst hkb; omega)
  clear hb39 hst52 K56 hL57 hN50 hb44 hb43 hu54 hf55
  obtain ⟨w61, -, hst62, hb63, hu64, hf65⟩ := s_two (v0 := iv ((asM b).k)) (v1 := iv ((asM b).n)) Tryd.sizeOf23 rfl rfl rfl hb59
  refine st_act rfl rfl fun K66 hL67 => a_store' rfl h40 h35 hst62 (hL67 _ _ trivial ?_)
  have hb68 := hf65 _ _ _ (hne47) hb58
  have hb69 := hf65 _ _ _ (hne45) hb53
  have hN70 := hN60.trans hu64 (fun k hk hkb => by subst hkb; omega)
  clear hb59 hst62 K66 hL67 hN60 hb58 hb53 hu64 hf65
  clear hne45
  refine st_nil ?_
  clear h34 h35
  refine hK _ _ ?_
  clear hK K
  refine wp_seq_k fun K hK => ?_
  refine wp_g0 [true, true, true, true, true, true] [] 67
    [ve (nv (asM a)),
     ve (.bool (belowB (asM a))),
     ve (nv (asM b)),
     ve (.bool (belowB (asM b))),
     ve (.bool ((belowB (asM a)) != (belowB (asM b)))),
     ve (.bool ((belowB (asM a)) != (belowB (asM b))))] hs30 (.eq (.eq (.eq (.eq (.eq (.eq (.nil))))))) ?_ ?_
  · skip
    refine .o1 (tk rfl rfl fun _ w hn k => ⟨_, v_load rfl (k.fx 6 h36) (l_two Tryd.isAgg23 Tryd.sizeOf23 (hb69.new_ hn)), rfl⟩) ?_
    refine .o1 (ck rfl rfl rfl (fun _ w hn k => ⟨#[nv (asM a)], args1 (k.eq1 0 13 rfl), fun _ => by kernel_rfl, rbelow_c (asM a) _⟩) fun _ => rfl) ?_
    refine .o1 (tk rfl rfl fun _ w hn k => ⟨_, v_load rfl (k.fx 7 h40) (l_two Tryd.isAgg23 Tryd.sizeOf23 (hb63.new_ hn)), rfl⟩) ?_
    refine .o1 (ck rfl rfl rfl (fun _ w hn k => ⟨#[nv (asM b)], args1 (k.eq1 2 15 rfl), fun _ => by kernel_rfl, rbelow_c (asM b) _⟩) fun _ => rfl) ?_
    refine .o1 (tk rfl rfl fun _ w hn k => ⟨_, v_bin rfl (k.eq1 1 14 rfl) (k.eq1 3 16 rfl) (fun _ => rfl) (r_neqB _ _), rfl⟩) ?_
    refine .o1 (tk rfl rfl fun _ w hn k => ⟨_, v_assign rfl (k.eq1 4 17 rfl), rfl⟩) ?_
    exact .nil
  intro a71 w72 hn73 ha74
  have hs75 := ha74.size.trans hs30
  have hd76 := ha74.defers.trans hd31
  have h77 := ha74.fx 4 h32
  have h78 := ha74.fx 5 h33
  have h79 := ha74.fx 6 h36
  have h80 := ha74.fx 7 h40
  have h81 := ha74.ge 5 8 rfl
  have hb82 := hb68.new_ hn73
  have hb83 := hb69.new_ hn73
  have hb84 := hb63.new_ hn73
  have hN85 := hN70.transNew hn73
  clear hs30 hd31 h32 h33 h36 h40 hb68 hb69 hb63 hN70 ha74 hn73
  refine st_nil ?_
  refine hK _ _ ?_
  clear hK K
  refine wp_seq_k fun K hK => ?_
  refine wp_block ?_
  refine wp_seq_k fun K hK => ?_
  rcases Bool.eq_false_or_eq_true (decide (((asM a).k) = 2)) with ht86 | ht86
  · skip
    have ht86d := of_decide_eq_true ht86
    refine wp_g0 [true, true, true, true, true, true, true, true, true, true, true, true, true, true, true, true, true, true, true, true, true, true, true] [] 67
      [ve (nv (asM a)),
       ve (.bool true),
       ve (.bool true),
       ve undef,
       ve undef,
       ve (.bool true),
       ve (.bool true),
       ve undef,
       ve undef,
       ve undef,
       ve undef,
       ve undef,
       ve undef,
       ve (.bool true),
       ve (.bool true),
       ve undef,
       ve undef,
       ve undef,
       ve undef,
       ve undef,
       ve undef,
       ve (.bool true),
       ve (.bool true)] hs75 (.eq (.eq (.eq (.eq (.eq (.eq (.eq (.eq (.eq (.eq (.eq (.eq (.eq (.eq (.eq (.eq (.eq (.eq (.eq (.eq (.eq (.eq (.eq (.nil)))))))))))))))))))))))) ?_ ?_
    · skip
      refine .o1 (tk rfl rfl fun _ w hn k => ⟨_, v_load rfl (k.fx 6 h79) (l_two Tryd.isAgg23 Tryd.sizeOf23 (hb83.new_ hn)), rfl⟩) ?_
      refine .o1 (ck rfl rfl rfl (fun _ w hn k => ⟨#[nv (asM a)], args1 (k.eq1 0 19 rfl), fun _ => by kernel_rfl, rnan_c (asM a) _⟩) fun _ => congrArg Value.bool ht86) ?_
      refine .o1 (tk rfl rfl fun _ w hn k => ⟨_, v_move rfl (k.eq1 1 20 rfl), rfl⟩) ?_
      refine .o1 (sk rfl rfl rfl (fun _ _ _ k => k.eq1 2 21 rfl) (fun _ => rfl)) ?_
      refine .o1 (sk rfl rfl rfl (fun _ _ _ k => k.eq1 2 21 rfl) (fun _ => rfl)) ?_
      refine .o1 (tk rfl rfl fun _ w hn k => ⟨_, v_pickT rfl (k.eq1 2 21 rfl) rfl, rfl⟩) ?_
      refine .o1 (tk rfl rfl fun _ w hn k => ⟨_, v_move rfl (k.eq1 5 24 rfl), rfl⟩) ?_
      refine .o1 (sk rfl rfl rfl (fun _ _ _ k => k.eq1 6 25 rfl) (fun _ => rfl)) ?_
      refine .o1 (sk rfl rfl rfl (fun _ _ _ k => k.eq1 6 25 rfl) (fun _ => rfl)) ?_
      refine .o1 (sk rfl rfl rfl (fun _ _ _ k => k.eq1 6 25 rfl) (fun _ => rfl)) ?_
      refine .o1 (su rfl rfl rfl (fun _ _ _ k => k.eq1 9 28 rfl) (fun _ => rfl)) ?_
      refine .o1 (su rfl rfl rfl (fun _ _ _ k => k.eq1 9 28 rfl) (fun _ => rfl)) ?_
      refine .o1 (sk rfl rfl rfl (fun _ _ _ k => k.eq1 6 25 rfl) (fun _ => rfl)) ?_
      refine .o1 (tk rfl rfl fun _ w hn k => ⟨_, v_pickT rfl (k.eq1 6 25 rfl) rfl, rfl⟩) ?_
      refine .o1 (tk rfl rfl fun _ w hn k => ⟨_, v_move rfl (k.eq1 13 32 rfl), rfl⟩) ?_
      refine .o1 (sk rfl rfl rfl (fun _ _ _ k => k.eq1 14 33 rfl) (fun _ => rfl)) ?_
      refine .o1 (sk rfl rfl rfl (fun _ _ _ k => k.eq1 14 33 rfl) (fun _ => rfl)) ?_
      refine .o1 (sk rfl rfl rfl (fun _ _ _ k => k.eq1 14 33 rfl) (fun _ => rfl)) ?_
      refine .o1 (su rfl rfl rfl (fun _ _ _ k => k.eq1 17 36 rfl) (fun _ => rfl)) ?_
      refine .o1 (su rfl rfl rfl (fun _ _ _ k => k.eq1 17 36 rfl) (fun _ => rfl)) ?_
      refine .o1 (sk rfl rfl rfl (fun _ _ _ k => k.eq1 14 33 rfl) (fun _ => rfl)) ?_
      refine .o1 (tk rfl rfl fun _ w hn k => ⟨_, v_pickT rfl (k.eq1 14 33 rfl) rfl, rfl⟩) ?_
      refine .o1 (tk rfl rfl fun _ w hn k => ⟨_, v_assign rfl (k.eq1 21 40 rfl), rfl⟩) ?_
      exact .nil
    intro a87 w88 hn89 ha90
    have hs91 := ha90.size.trans hs75
    have hd92 := ha90.defers.trans hd76
    have h93 := ha90.fx 4 h77
    have h94 := ha90.fx 5 h78
    have h95 := ha90.fx 6 h79
    have h96 := ha90.fx 7 h80
    have h97 := ha90.fx 8 h81
    have h98 := ha90.ge 22 18 rfl
    have hb99 := hb82.new_ hn89
    have hb100 := hb83.new_ hn89
    have hb101 := hb84.new_ hn89
    have hN102 := hN85.transNew hn89
    clear hs75 hd76 h77 h78 h79 h80 h81 hb82 hb83 hb84 hN85 ha90 hn89
    refine st_nil ?_
    refine hK _ _ ?_
    clear hK K
    refine wp_cond_true h98 ?_
    refine wp_seq_k fun K hK => ?_
    refine wp_g0 [true, false, false] [(1, false), (2, true)] 67
      [ve (nv (Nm.mk 2 0)),
       vt,
       vt] hs91 (.eq (.tt (.tt (.nil)))) ?_ ?_
    · skip
      refine .o1 (ck rfl rfl rfl (fun _ w hn k => ⟨#[], rfl, fun _ => by kernel_rfl, rNaN_c  _⟩) fun _ => rfl) ?_
      refine .off ?_
      refine .off ?_
      exact .nil
    intro a103 w104 hn105 ha106
    have hs107 := ha106.size.trans hs91
    have hd108 := ha106.defers.trans hd92
    have h109 := ha106.fx 4 h93
    have h110 := ha106.fx 5 h94
    have h111 := ha106.fx 6 h95
    have h112 := ha106.fx 7 h96
    have h113 := ha106.ge 0 41 rfl
    have hb114 := hb99.new_ hn105
    have hb115 := hb100.new_ hn105
    have hb116 := hb101.new_ hn105
    have hN117 := hN102.transNew hn105
    clear hs91 hd92 h93 h94 h95 h96 h97 h98 hb99 hb100 hb101 hN102 ha106 hn105
    obtain ⟨w118, -, hst119, hb120, hu121, hf122⟩ := s_two (v0 := iv 2) (v1 := iv 0) Tryd.sizeOf23 rfl rfl rfl hb114
    refine st_act rfl rfl fun K123 hL124 => a_store' rfl h109 h113 hst119 (hL124 _ _ trivial ?_)
    have hb125 := hf122 _ _ _ (fun h => hne46 h.symm) hb115
    have hb126 := hf122 _ _ _ (fun h => hne47 h.symm) hb116
    have hN127 := hN117.trans hu121 (fun k hk hkb => by subst hkb; omega)
    clear hb114 hst119 K123 hL124 hN117 hb115 hb116 hu121 hf122
    refine st_take rfl rfl (y_assign (v := .bool true) rfl rfl) rfl ?_
    obtain ⟨a128, ha129⟩ : ∃ a', a' = a103.put (some 5) (.bool true) := ⟨_, rfl⟩
    have hs130 : a128.tmps.size = 67 := by rw [ha129, put_size]; exact hs107
    have hd131 : a128.defers = [] := by rw [ha129, put_defers]; exact hd108
    have h132 : a128.eval (.tmp 4) = pv q16 := by rw [ha129, put_ne _ _ _ _ (by decide)]; exact h109
    have h133 : a128.eval (.tmp 6) = pv q37 := by rw [ha129, put_ne _ _ _ _ (by decide)]; exact h111
    have h134 : a128.eval (.tmp 7) = pv q41 := by rw [ha129, put_ne _ _ _ _ (by decide)]; exact h112
    have h135 : a128.eval (.tmp 41) = nv (Nm.mk 2 0) := by rw [ha129, put_ne _ _ _ _ (by decide)]; exact h113
    have h136 : a128.eval (.tmp 5) = .bool true := by rw [ha129]; exact put_same _ _ _ (by rw [hs107]; decide)
    show stepsTo _ _ _ _ _ (a103.put (some 5) (.bool true)) _
    rw [← ha129]
    clear ha129 hs107 hd108 h109 h110 h111 h112 h113
    refine st_nil ?_
    clear h135
    refine hK _ _ ?_
    clear hK K
    refine wp_ret (ret_k hd131 (v := .tuple #[nv (Nm.mk 2 0), .bool true]) (res_ct rfl h132 h136 (l_two Tryd.isAgg23 Tryd.sizeOf23 hb120)) ?_)
    refine ⟨?_, hN127⟩
    show Ending.returned (.tuple #[nv (Nm.mk 2 0), .bool true]) = Ending.returned (.tuple #[nv ((rMulM a b).1), .bool ((rMulM a b).2)])
    first | rfl | (simp [rMulM, ht86])
  have ht86d := of_decide_eq_false ht86
  rcases Bool.eq_false_or_eq_true (decide (((asM b).k) = 2)) with ht137 | ht137
  · skip
    have ht137d := of_decide_eq_true ht137
    refine wp_g0 [true, true, true, true, true, true, true, true, true, true, true, true, true, true, true, true, true, true, true, true, true, true, true] [] 67
      [ve (nv (asM a)),
       ve (.bool false),
       ve (.bool false),
       ve (nv (asM b)),
       ve (.bool true),
       ve (.bool true),
       ve (.bool true),
       ve undef,
       ve undef,
       ve undef,
       ve undef,
       ve undef,
       ve undef,
       ve (.bool true),
       ve (.bool true),
       ve undef,
       ve undef,
       ve undef,
       ve undef,
       ve undef,
       ve undef,
       ve (.bool true),
       ve (.bool true)] hs75 (.eq (.eq (.eq (.eq (.eq (.eq (.eq (.eq (.eq (.eq (.eq (.eq (.eq (.eq (.eq (.eq (.eq (.eq (.eq (.eq (.eq (.eq (.eq (.nil)))))))))))))))))))))))) ?_ ?_
    · skip
      refine .o1 (tk rfl rfl fun _ w hn k => ⟨_, v_load rfl (k.fx 6 h79) (l_two Tryd.isAgg23 Tryd.sizeOf23 (hb83.new_ hn)), rfl⟩) ?_
      refine .o1 (ck rfl rfl rfl (fun _ w hn k => ⟨#[nv (asM a)], args1 (k.eq1 0 19 rfl), fun _ => by kernel_rfl, rnan_c (asM a) _⟩) fun _ => congrArg Value.bool ht86) ?_
      refine .o1 (tk rfl rfl fun _ w hn k => ⟨_, v_move rfl (k.eq1 1 20 rfl), rfl⟩) ?_
      refine .o1 (tg rfl rfl rfl (fun _ _ k => k.eq1 2 21 rfl) fun _ w hn k => ⟨_, v_load rfl (k.fx 7 h80) (l_two Tryd.isAgg23 Tryd.sizeOf23 (hb84.new_ hn)), rfl⟩) ?_
      refine .o1 (cg rfl rfl rfl (fun _ _ k => k.eq1 2 21 rfl) rfl (fun _ w hn k => ⟨#[nv (asM b)], args1 (k.eq1 3 22 rfl), fun _ => by kernel_rfl, rnan_c (asM b) _⟩) fun _ => congrArg Value.bool ht137) ?_
      refine .o1 (tk rfl rfl fun _ w hn k => ⟨_, v_pickF rfl (k.eq1 2 21 rfl) (k.eq1 4 23 rfl), rfl⟩) ?_
      refine .o1 (tk rfl rfl fun _ w hn k => ⟨_, v_move rfl (k.eq1 5 24 rfl), rfl⟩) ?_
      refine .o1 (sk rfl rfl rfl (fun _ _ _ k => k.eq1 6 25 rfl) (fun _ => rfl)) ?_
      refine .o1 (sk rfl rfl rfl (fun _ _ _ k => k.eq1 6 25 rfl) (fun _ => rfl)) ?_
      refine .o1 (sk rfl rfl rfl (fun _ _ _ k => k.eq1 6 25 rfl) (fun _ => rfl)) ?_
      refine .o1 (su rfl rfl rfl (fun _ _ _ k => k.eq1 9 28 rfl) (fun _ => rfl)) ?_
      refine .o1 (su rfl rfl rfl (fun _ _ _ k => k.eq1 9 28 rfl) (fun _ => rfl)) ?_
      refine .o1 (sk rfl rfl rfl (fun _ _ _ k => k.eq1 6 25 rfl) (fun _ => rfl)) ?_
      refine .o1 (tk rfl rfl fun _ w hn k => ⟨_, v_pickT rfl (k.eq1 6 25 rfl) rfl, rfl⟩) ?_
      refine .o1 (tk rfl rfl fun _ w hn k => ⟨_, v_move rfl (k.eq1 13 32 rfl), rfl⟩) ?_
      refine .o1 (sk rfl rfl rfl (fun _ _ _ k => k.eq1 14 33 rfl) (fun _ => rfl)) ?_
      refine .o1 (sk rfl rfl rfl (fun _ _ _ k => k.eq1 14 33 rfl) (fun _ => rfl)) ?_
      refine .o1 (sk rfl rfl rfl (fun _ _ _ k => k.eq1 14 33 rfl) (fun _ => rfl)) ?_
      refine .o1 (su rfl rfl rfl (fun _ _ _ k => k.eq1 17 36 rfl) (fun _ => rfl)) ?_
      refine .o1 (su rfl rfl rfl (fun _ _ _ k => k.eq1 17 36 rfl) (fun _ => rfl)) ?_
      refine .o1 (sk rfl rfl rfl (fun _ _ _ k => k.eq1 14 33 rfl) (fun _ => rfl)) ?_
      refine .o1 (tk rfl rfl fun _ w hn k => ⟨_, v_pickT rfl (k.eq1 14 33 rfl) rfl, rfl⟩) ?_
      refine .o1 (tk rfl rfl fun _ w hn k => ⟨_, v_assign rfl (k.eq1 21 40 rfl), rfl⟩) ?_
      exact .nil
    intro a138 w139 hn140 ha141
    have hs142 := ha141.size.trans hs75
    have hd143 := ha141.defers.trans hd76
    have h144 := ha141.fx 4 h77
    have h145 := ha141.fx 5 h78
    have h146 := ha141.fx 6 h79
    have h147 := ha141.fx 7 h80
    have h148 := ha141.fx 8 h81
    have h149 := ha141.ge 22 18 rfl
    have hb150 := hb82.new_ hn140
    have hb151 := hb83.new_ hn140
    have hb152 := hb84.new_ hn140
    have hN153 := hN85.transNew hn140
    clear hs75 hd76 h77 h78 h79 h80 h81 hb82 hb83 hb84 hN85 ha141 hn140
    refine st_nil ?_
    refine hK _ _ ?_
    clear hK K
    refine wp_cond_true h149 ?_
    refine wp_seq_k fun K hK => ?_
    refine wp_g0 [true, false, false] [(1, false), (2, true)] 67
      [ve (nv (Nm.mk 2 0)),
       vt,
       vt] hs142 (.eq (.tt (.tt (.nil)))) ?_ ?_
    · skip
      refine .o1 (ck rfl rfl rfl (fun _ w hn k => ⟨#[], rfl, fun _ => by kernel_rfl, rNaN_c  _⟩) fun _ => rfl) ?_
      refine .off ?_
      refine .off ?_
      exact .nil
    intro a154 w155 hn156 ha157
    have hs158 := ha157.size.trans hs142
    have hd159 := ha157.defers.trans hd143
    have h160 := ha157.fx 4 h144
    have h161 := ha157.fx 5 h145
    have h162 := ha157.fx 6 h146
    have h163 := ha157.fx 7 h147
    have h164 := ha157.ge 0 41 rfl
    have hb165 := hb150.new_ hn156
    have hb166 := hb151.new_ hn156
    have hb167 := hb152.new_ hn156
    have hN168 := hN153.transNew hn156
    clear hs142 hd143 h144 h145 h146 h147 h148 h149 hb150 hb151 hb152 hN153 ha157 hn156
    obtain ⟨w169, -, hst170, hb171, hu172, hf173⟩ := s_two (v0 := iv 2) (v1 := iv 0) Tryd.sizeOf23 rfl rfl rfl hb165
    refine st_act rfl rfl fun K174 hL175 => a_store' rfl h160 h164 hst170 (hL175 _ _ trivial ?_)
    have hb176 := hf173 _ _ _ (fun h => hne46 h.symm) hb166
    have hb177 := hf173 _ _ _ (fun h => hne47 h.symm) hb167
    have hN178 := hN168.trans hu172 (fun k hk hkb => by subst hkb; omega)
    clear hb165 hst170 K174 hL175 hN168 hb166 hb167 hu172 hf173
    refine st_take rfl rfl (y_assign (v := .bool true) rfl rfl) rfl ?_
    obtain ⟨a179, ha180⟩ : ∃ a', a' = a154.put (some 5) (.bool true) := ⟨_, rfl⟩
    have hs181 : a179.tmps.size = 67 := by rw [ha180, put_size]; exact hs158
    have hd182 : a179.defers = [] := by rw [ha180, put_defers]; exact hd159
    have h183 : a179.eval (.tmp 4) = pv q16 := by rw [ha180, put_ne _ _ _ _ (by decide)]; exact h160
    have h184 : a179.eval (.tmp 6) = pv q37 := by rw [ha180, put_ne _ _ _ _ (by decide)]; exact h162
    have h185 : a179.eval (.tmp 7) = pv q41 := by rw [ha180, put_ne _ _ _ _ (by decide)]; exact h163
    have h186 : a179.eval (.tmp 41) = nv (Nm.mk 2 0) := by rw [ha180, put_ne _ _ _ _ (by decide)]; exact h164
    have h187 : a179.eval (.tmp 5) = .bool true := by rw [ha180]; exact put_same _ _ _ (by rw [hs158]; decide)
    show stepsTo _ _ _ _ _ (a154.put (some 5) (.bool true)) _
    rw [← ha180]
    clear ha180 hs158 hd159 h160 h161 h162 h163 h164
    refine st_nil ?_
    clear h186
    refine hK _ _ ?_
    clear hK K
    refine wp_ret (ret_k hd182 (v := .tuple #[nv (Nm.mk 2 0), .bool true]) (res_ct rfl h183 h187 (l_two Tryd.isAgg23 Tryd.sizeOf23 hb171)) ?_)
    refine ⟨?_, hN178⟩
    show Ending.returned (.tuple #[nv (Nm.mk 2 0), .bool true]) = Ending.returned (.tuple #[nv ((rMulM a b).1), .bool ((rMulM a b).2)])
    first | rfl | (simp [rMulM, ht86, ht137])
  have ht137d := of_decide_eq_false ht137
  rcases Bool.eq_false_or_eq_true (infB ((asM a).k)) with ht188 | ht188
  · skip
    rcases Bool.eq_false_or_eq_true (noughtB (asM b)) with ht189 | ht189
    · skip
      refine wp_g0 [true, true, true, true, true, true, true, true, true, true, true, true, true, true, true, true, true, true, true, true, true, true, true] [] 67
        [ve (nv (asM a)),
         ve (.bool false),
         ve (.bool false),
         ve (nv (asM b)),
         ve (.bool false),
         ve (.bool false),
         ve (.bool false),
         ve (nv (asM a)),
         ve (.bool true),
         ve (.bool true),
         ve (nv (asM b)),
         ve (.bool true),
         ve (.bool true),
         ve (.bool true),
         ve (.bool true),
         ve undef,
         ve undef,
         ve undef,
         ve undef,
         ve undef,
         ve undef,
         ve (.bool true),
         ve (.bool true)] hs75 (.eq (.eq (.eq (.eq (.eq (.eq (.eq (.eq (.eq (.eq (.eq (.eq (.eq (.eq (.eq (.eq (.eq (.eq (.eq (.eq (.eq (.eq (.eq (.nil)))))))))))))))))))))))) ?_ ?_
      · skip
        refine .o1 (tk rfl rfl fun _ w hn k => ⟨_, v_load rfl (k.fx 6 h79) (l_two Tryd.isAgg23 Tryd.sizeOf23 (hb83.new_ hn)), rfl⟩) ?_
        refine .o1 (ck rfl rfl rfl (fun _ w hn k => ⟨#[nv (asM a)], args1 (k.eq1 0 19 rfl), fun _ => by kernel_rfl, rnan_c (asM a) _⟩) fun _ => congrArg Value.bool ht86) ?_
        refine .o1 (tk rfl rfl fun _ w hn k => ⟨_, v_move rfl (k.eq1 1 20 rfl), rfl⟩) ?_
        refine .o1 (tg rfl rfl rfl (fun _ _ k => k.eq1 2 21 rfl) fun _ w hn k => ⟨_, v_load rfl (k.fx 7 h80) (l_two Tryd.isAgg23 Tryd.sizeOf23 (hb84.new_ hn)), rfl⟩) ?_
        refine .o1 (cg rfl rfl rfl (fun _ _ k => k.eq1 2 21 rfl) rfl (fun _ w hn k => ⟨#[nv (asM b)], args1 (k.eq1 3 22 rfl), fun _ => by kernel_rfl, rnan_c (asM b) _⟩) fun _ => congrArg Value.bool ht137) ?_
        refine .o1 (tk rfl rfl fun _ w hn k => ⟨_, v_pickF rfl (k.eq1 2 21 rfl) (k.eq1 4 23 rfl), rfl⟩) ?_
        refine .o1 (tk rfl rfl fun _ w hn k => ⟨_, v_move rfl (k.eq1 5 24 rfl), rfl⟩) ?_
        refine .o1 (tg rfl rfl rfl (fun _ _ k => k.eq1 6 25 rfl) fun _ w hn k => ⟨_, v_load rfl (k.fx 6 h79) (l_two Tryd.isAgg23 Tryd.sizeOf23 (hb83.new_ hn)), rfl⟩) ?_
        refine .o1 (cg rfl rfl rfl (fun _ _ k => k.eq1 6 25 rfl) rfl (fun _ w hn k => ⟨#[nv (asM a)], args1 (k.eq1 7 26 rfl), fun _ => by kernel_rfl, rinf_c (asM a) _⟩) fun _ => congrArg Value.bool ht188) ?_
        refine .o1 (tg rfl rfl rfl (fun _ _ k => k.eq1 6 25 rfl) fun _ w hn k => ⟨_, v_move rfl (k.eq1 8 27 rfl), rfl⟩) ?_
        refine .o1 (tg rfl rfl rfl (fun _ _ k => k.eq1 9 28 rfl) fun _ w hn k => ⟨_, v_load rfl (k.fx 7 h80) (l_two Tryd.isAgg23 Tryd.sizeOf23 (hb84.new_ hn)), rfl⟩) ?_
        refine .o1 (cg rfl rfl rfl (fun _ _ k => k.eq1 9 28 rfl) rfl (fun _ w hn k => ⟨#[nv (asM b)], args1 (k.eq1 10 29 rfl), fun _ => by kernel_rfl, rnought_c (asM b) _⟩) fun _ => congrArg Value.bool ht189) ?_
        refine .o1 (tg rfl rfl rfl (fun _ _ k => k.eq1 6 25 rfl) fun _ w hn k => ⟨_, v_pickT rfl (k.eq1 9 28 rfl) (k.eq1 11 30 rfl), rfl⟩) ?_
        refine .o1 (tk rfl rfl fun _ w hn k => ⟨_, v_pickF rfl (k.eq1 6 25 rfl) (k.eq1 12 31 rfl), rfl⟩) ?_
        refine .o1 (tk rfl rfl fun _ w hn k => ⟨_, v_move rfl (k.eq1 13 32 rfl), rfl⟩) ?_
        refine .o1 (sk rfl rfl rfl (fun _ _ _ k => k.eq1 14 33 rfl) (fun _ => rfl)) ?_
        refine .o1 (sk rfl rfl rfl (fun _ _ _ k => k.eq1 14 33 rfl) (fun _ => rfl)) ?_
        refine .o1 (sk rfl rfl rfl (fun _ _ _ k => k.eq1 14 33 rfl) (fun _ => rfl)) ?_
        refine .o1 (su rfl rfl rfl (fun _ _ _ k => k.eq1 17 36 rfl) (fun _ => rfl)) ?_
        refine .o1 (su rfl rfl rfl (fun _ _ _ k => k.eq1 17 36 rfl) (fun _ => rfl)) ?_
        refine .o1 (sk rfl rfl rfl (fun _ _ _ k => k.eq1 14 33 rfl) (fun _ => rfl)) ?_
        refine .o1 (tk rfl rfl fun _ w hn k => ⟨_, v_pickT rfl (k.eq1 14 33 rfl) rfl, rfl⟩) ?_
        refine .o1 (tk rfl rfl fun _ w hn k => ⟨_, v_assign rfl (k.eq1 21 40 rfl), rfl⟩) ?_
        exact .nil
      intro a190 w191 hn192 ha193
      have hs194 := ha193.size.trans hs75
      have hd195 := ha193.defers.trans hd76
      have h196 := ha193.fx 4 h77
      have h197 := ha193.fx 5 h78
      have h198 := ha193.fx 6 h79
      have h199 := ha193.fx 7 h80
      have h200 := ha193.fx 8 h81
      have h201 := ha193.ge 22 18 rfl
      have hb202 := hb82.new_ hn192
      have hb203 := hb83.new_ hn192
      have hb204 := hb84.new_ hn192
      have hN205 := hN85.transNew hn192
      clear hs75 hd76 h77 h78 h79 h80 h81 hb82 hb83 hb84 hN85 ha193 hn192
      refine st_nil ?_
      refine hK _ _ ?_
      clear hK K
      refine wp_cond_true h201 ?_
      refine wp_seq_k fun K hK => ?_
      refine wp_g0 [true, false, false] [(1, false), (2, true)] 67
        [ve (nv (Nm.mk 2 0)),
         vt,
         vt] hs194 (.eq (.tt (.tt (.nil)))) ?_ ?_
      · skip
        refine .o1 (ck rfl rfl rfl (fun _ w hn k => ⟨#[], rfl, fun _ => by kernel_rfl, rNaN_c  _⟩) fun _ => rfl) ?_
        refine .off ?_
        refine .off ?_
        exact .nil
      intro a206 w207 hn208 ha209
      have hs210 := ha209.size.trans hs194
      have hd211 := ha209.defers.trans hd195
      have h212 := ha209.fx 4 h196
      have h213 := ha209.fx 5 h197
      have h214 := ha209.fx 6 h198
      have h215 := ha209.fx 7 h199
      have h216 := ha209.ge 0 41 rfl
      have hb217 := hb202.new_ hn208
      have hb218 := hb203.new_ hn208
      have hb219 := hb204.new_ hn208
      have hN220 := hN205.transNew hn208
      clear hs194 hd195 h196 h197 h198 h199 h200 h201 hb202 hb203 hb204 hN205 ha209 hn208
      obtain ⟨w221, -, hst222, hb223, hu224, hf225⟩ := s_two (v0 := iv 2) (v1 := iv 0) Tryd.sizeOf23 rfl rfl rfl hb217
      refine st_act rfl rfl fun K226 hL227 => a_store' rfl h212 h216 hst222 (hL227 _ _ trivial ?_)
      have hb228 := hf225 _ _ _ (fun h => hne46 h.symm) hb218
      have hb229 := hf225 _ _ _ (fun h => hne47 h.symm) hb219
      have hN230 := hN220.trans hu224 (fun k hk hkb => by subst hkb; omega)
      clear hb217 hst222 K226 hL227 hN220 hb218 hb219 hu224 hf225
      refine st_take rfl rfl (y_assign (v := .bool true) rfl rfl) rfl ?_
      obtain ⟨a231, ha232⟩ : ∃ a', a' = a206.put (some 5) (.bool true) := ⟨_, rfl⟩
      have hs233 : a231.tmps.size = 67 := by rw [ha232, put_size]; exact hs210
      have hd234 : a231.defers = [] := by rw [ha232, put_defers]; exact hd211
      have h235 : a231.eval (.tmp 4) = pv q16 := by rw [ha232, put_ne _ _ _ _ (by decide)]; exact h212
      have h236 : a231.eval (.tmp 6) = pv q37 := by rw [ha232, put_ne _ _ _ _ (by decide)]; exact h214
      have h237 : a231.eval (.tmp 7) = pv q41 := by rw [ha232, put_ne _ _ _ _ (by decide)]; exact h215
      have h238 : a231.eval (.tmp 41) = nv (Nm.mk 2 0) := by rw [ha232, put_ne _ _ _ _ (by decide)]; exact h216
      have h239 : a231.eval (.tmp 5) = .bool true := by rw [ha232]; exact put_same _ _ _ (by rw [hs210]; decide)
      show stepsTo _ _ _ _ _ (a206.put (some 5) (.bool true)) _
      rw [← ha232]
      clear ha232 hs210 hd211 h212 h213 h214 h215 h216
      refine st_nil ?_
      clear h238
      refine hK _ _ ?_
      clear hK K
      refine wp_ret (ret_k hd234 (v := .tuple #[nv (Nm.mk 2 0), .bool true]) (res_ct rfl h235 h239 (l_two Tryd.isAgg23 Tryd.sizeOf23 hb223)) ?_)
      refine ⟨?_, hN230⟩
      show Ending.returned (.tuple #[nv (Nm.mk 2 0), .bool true]) = Ending.returned (.tuple #[nv ((rMulM a b).1), .bool ((rMulM a b).2)])
      first | rfl | (simp [rMulM, ht86, ht137, ht188, ht189])
    rcases Bool.eq_false_or_eq_true (noughtB (asM a)) with ht240 | ht240
    · skip
      refine wp_g0 [true, true, true, true, true, true, true, true, true, true, true, true, true, true, true, true, true, true, true, true, true, true, true] [] 67
        [ve (nv (asM a)),
         ve (.bool false),
         ve (.bool false),
         ve (nv (asM b)),
         ve (.bool false),
         ve (.bool false),
         ve (.bool false),
         ve (nv (asM a)),
         ve (.bool true),
         ve (.bool true),
         ve (nv (asM b)),
         ve (.bool false),
         ve (.bool false),
         ve (.bool false),
         ve (.bool false),
         ve (nv (asM a)),
         ve (.bool true),
         ve (.bool true),
         ve (nv (asM b)),
         ve (.bool (infB ((asM b).k))),
         ve (.bool (infB ((asM b).k))),
         ve (.bool (infB ((asM b).k))),
         ve (.bool (infB ((asM b).k)))] hs75 (.eq (.eq (.eq (.eq (.eq (.eq (.eq (.eq (.eq (.eq (.eq (.eq (.eq (.eq (.eq (.eq (.eq (.eq (.eq (.eq (.eq (.eq (.eq (.nil)))))))))))))))))))))))) ?_ ?_
      · skip
        refine .o1 (tk rfl rfl fun _ w hn k => ⟨_, v_load rfl (k.fx 6 h79) (l_two Tryd.isAgg23 Tryd.sizeOf23 (hb83.new_ hn)), rfl⟩) ?_
        refine .o1 (ck rfl rfl rfl (fun _ w hn k => ⟨#[nv (asM a)], args1 (k.eq1 0 19 rfl), fun _ => by kernel_rfl, rnan_c (asM a) _⟩) fun _ => congrArg Value.bool ht86) ?_
        refine .o1 (tk rfl rfl fun _ w hn k => ⟨_, v_move rfl (k.eq1 1 20 rfl), rfl⟩) ?_
        refine .o1 (tg rfl rfl rfl (fun _ _ k => k.eq1 2 21 rfl) fun _ w hn k => ⟨_, v_load rfl (k.fx 7 h80) (l_two Tryd.isAgg23 Tryd.sizeOf23 (hb84.new_ hn)), rfl⟩) ?_
        refine .o1 (cg rfl rfl rfl (fun _ _ k => k.eq1 2 21 rfl) rfl (fun _ w hn k => ⟨#[nv (asM b)], args1 (k.eq1 3 22 rfl), fun _ => by kernel_rfl, rnan_c (asM b) _⟩) fun _ => congrArg Value.bool ht137) ?_
        refine .o1 (tk rfl rfl fun _ w hn k => ⟨_, v_pickF rfl (k.eq1 2 21 rfl) (k.eq1 4 23 rfl), rfl⟩) ?_
        refine .o1 (tk rfl rfl fun _ w hn k => ⟨_, v_move rfl (k.eq1 5 24 rfl), rfl⟩) ?_
        refine .o1 (tg rfl rfl rfl (fun _ _ k => k.eq1 6 25 rfl) fun _ w hn k => ⟨_, v_load rfl (k.fx 6 h79) (l_two Tryd.isAgg23 Tryd.sizeOf23 (hb83.new_ hn)), rfl⟩) ?_
        refine .o1 (cg rfl rfl rfl (fun _ _ k => k.eq1 6 25 rfl) rfl (fun _ w hn k => ⟨#[nv (asM a)], args1 (k.eq1 7 26 rfl), fun _ => by kernel_rfl, rinf_c (asM a) _⟩) fun _ => congrArg Value.bool ht188) ?_
        refine .o1 (tg rfl rfl rfl (fun _ _ k => k.eq1 6 25 rfl) fun _ w hn k => ⟨_, v_move rfl (k.eq1 8 27 rfl), rfl⟩) ?_
        refine .o1 (tg rfl rfl rfl (fun _ _ k => k.eq1 9 28 rfl) fun _ w hn k => ⟨_, v_load rfl (k.fx 7 h80) (l_two Tryd.isAgg23 Tryd.sizeOf23 (hb84.new_ hn)), rfl⟩) ?_
        refine .o1 (cg rfl rfl rfl (fun _ _ k => k.eq1 9 28 rfl) rfl (fun _ w hn k => ⟨#[nv (asM b)], args1 (k.eq1 10 29 rfl), fun _ => by kernel_rfl, rnought_c (asM b) _⟩) fun _ => congrArg Value.bool ht189) ?_
        refine .o1 (tg rfl rfl rfl (fun _ _ k => k.eq1 6 25 rfl) fun _ w hn k => ⟨_, v_pickT rfl (k.eq1 9 28 rfl) (k.eq1 11 30 rfl), rfl⟩) ?_
        refine .o1 (tk rfl rfl fun _ w hn k => ⟨_, v_pickF rfl (k.eq1 6 25 rfl) (k.eq1 12 31 rfl), rfl⟩) ?_
        refine .o1 (tk rfl rfl fun _ w hn k => ⟨_, v_move rfl (k.eq1 13 32 rfl), rfl⟩) ?_
        refine .o1 (tg rfl rfl rfl (fun _ _ k => k.eq1 14 33 rfl) fun _ w hn k => ⟨_, v_load rfl (k.fx 6 h79) (l_two Tryd.isAgg23 Tryd.sizeOf23 (hb83.new_ hn)), rfl⟩) ?_
        refine .o1 (cg rfl rfl rfl (fun _ _ k => k.eq1 14 33 rfl) rfl (fun _ w hn k => ⟨#[nv (asM a)], args1 (k.eq1 15 34 rfl), fun _ => by kernel_rfl, rnought_c (asM a) _⟩) fun _ => congrArg Value.bool ht240) ?_
        refine .o1 (tg rfl rfl rfl (fun _ _ k => k.eq1 14 33 rfl) fun _ w hn k => ⟨_, v_move rfl (k.eq1 16 35 rfl), rfl⟩) ?_
        refine .o1 (tg rfl rfl rfl (fun _ _ k => k.eq1 17 36 rfl) fun _ w hn k => ⟨_, v_load rfl (k.fx 7 h80) (l_two Tryd.isAgg23 Tryd.sizeOf23 (hb84.new_ hn)), rfl⟩) ?_
        refine .o1 (cg rfl rfl rfl (fun _ _ k => k.eq1 17 36 rfl) rfl (fun _ w hn k => ⟨#[nv (asM b)], args1 (k.eq1 18 37 rfl), fun _ => by kernel_rfl, rinf_c (asM b) _⟩) fun _ => rfl) ?_
        refine .o1 (tg rfl rfl rfl (fun _ _ k => k.eq1 14 33 rfl) fun _ w hn k => ⟨_, v_pickT rfl (k.eq1 17 36 rfl) (k.eq1 19 38 rfl), rfl⟩) ?_
        refine .o1 (tk rfl rfl fun _ w hn k => ⟨_, v_pickF rfl (k.eq1 14 33 rfl) (k.eq1 20 39 rfl), rfl⟩) ?_
        refine .o1 (tk rfl rfl fun _ w hn k => ⟨_, v_assign rfl (k.eq1 21 40 rfl), rfl⟩) ?_
        exact .nil
      intro a241 w242 hn243 ha244
      have hs245 := ha244.size.trans hs75
      have hd246 := ha244.defers.trans hd76
      have h247 := ha244.fx 4 h77
      have h248 := ha244.fx 5 h78
      have h249 := ha244.fx 6 h79
      have h250 := ha244.fx 7 h80
      have h251 := ha244.fx 8 h81
      have h252 := ha244.ge 22 18 rfl
      have hb253 := hb82.new_ hn243
      have hb254 := hb83.new_ hn243
      have hb255 := hb84.new_ hn243
      have hN256 := hN85.transNew hn243
      clear hs75 hd76 h77 h78 h79 h80 h81 hb82 hb83 hb84 hN85 ha244 hn243
      refine st_nil ?_
      refine hK _ _ ?_
      clear hK K
      rcases Bool.eq_false_or_eq_true (infB ((asM b).k)) with ht257 | ht257
      · skip
        have hv258 : a241.eval (.tmp 18) = .bool true := h252.trans (congrArg Value.bool ht257)
        clear h252
        refine wp_cond_true hv258 ?_
        refine wp_seq_k fun K hK => ?_
        refine wp_g0 [true, false, false] [(1, false), (2, true)] 67
          [ve (nv (Nm.mk 2 0)),
           vt,
           vt] hs245 (.eq (.tt (.tt (.nil)))) ?_ ?_
        · skip
          refine .o1 (ck rfl rfl rfl (fun _ w hn k => ⟨#[], rfl, fun _ => by kernel_rfl, rNaN_c  _⟩) fun _ => rfl) ?_
          refine .off ?_
          refine .off ?_
          exact .nil
        intro a259 w260 hn261 ha262
        have hs263 := ha262.size.trans hs245
        have hd264 := ha262.defers.trans hd246
        have h265 := ha262.fx 4 h247
        have h266 := ha262.fx 5 h248
        have h267 := ha262.fx 6 h249
        have h268 := ha262.fx 7 h250
        have h269 := ha262.ge 0 41 rfl
        have hb270 := hb253.new_ hn261
        have hb271 := hb254.new_ hn261
        have hb272 := hb255.new_ hn261
        have hN273 := hN256.transNew hn261
        clear hs245 hd246 h247 h248 h249 h250 h251 hv258 hb253 hb254 hb255 hN256 ha262 hn261
        obtain ⟨w274, -, hst275, hb276, hu277, hf278⟩ := s_two (v0 := iv 2) (v1 := iv 0) Tryd.sizeOf23 rfl rfl rfl hb270
        refine st_act rfl rfl fun K279 hL280 => a_store' rfl h265 h269 hst275 (hL280 _ _ trivial ?_)
        have hb281 := hf278 _ _ _ (fun h => hne46 h.symm) hb271
        have hb282 := hf278 _ _ _ (fun h => hne47 h.symm) hb272
        have hN283 := hN273.trans hu277 (fun k hk hkb => by subst hkb; omega)
        clear hb270 hst275 K279 hL280 hN273 hb271 hb272 hu277 hf278
        refine st_take rfl rfl (y_assign (v := .bool true) rfl rfl) rfl ?_
        obtain ⟨a284, ha285⟩ : ∃ a', a' = a259.put (some 5) (.bool true) := ⟨_, rfl⟩
        have hs286 : a284.tmps.size = 67 := by rw [ha285, put_size]; exact hs263
        have hd287 : a284.defers = [] := by rw [ha285, put_defers]; exact hd264
        have h288 : a284.eval (.tmp 4) = pv q16 := by rw [ha285, put_ne _ _ _ _ (by decide)]; exact h265
        have h289 : a284.eval (.tmp 6) = pv q37 := by rw [ha285, put_ne _ _ _ _ (by decide)]; exact h267
        have h290 : a284.eval (.tmp 7) = pv q41 := by rw [ha285, put_ne _ _ _ _ (by decide)]; exact h268
        have h291 : a284.eval (.tmp 41) = nv (Nm.mk 2 0) := by rw [ha285, put_ne _ _ _ _ (by decide)]; exact h269
        have h292 : a284.eval (.tmp 5) = .bool true := by rw [ha285]; exact put_same _ _ _ (by rw [hs263]; decide)
        show stepsTo _ _ _ _ _ (a259.put (some 5) (.bool true)) _
        rw [← ha285]
        clear ha285 hs263 hd264 h265 h266 h267 h268 h269
        refine st_nil ?_
        clear h291
        refine hK _ _ ?_
        clear hK K
        refine wp_ret (ret_k hd287 (v := .tuple #[nv (Nm.mk 2 0), .bool true]) (res_ct rfl h288 h292 (l_two Tryd.isAgg23 Tryd.sizeOf23 hb276)) ?_)
        refine ⟨?_, hN283⟩
        show Ending.returned (.tuple #[nv (Nm.mk 2 0), .bool true]) = Ending.returned (.tuple #[nv ((rMulM a b).1), .bool ((rMulM a b).2)])
        first | rfl | (simp [rMulM, ht86, ht137, ht188, ht189, ht240, ht257])
      have hv293 : a241.eval (.tmp 18) = .bool false := h252.trans (congrArg Value.bool ht257)
      clear h252
      refine wp_cond_false hv293 ?_
      refine wp_seq_k fun K hK => ?_
      refine wp_g0 [true, true, true, true, true, true, true] [] 67
        [ve (nv (asM a)),
         ve (.bool true),
         ve (.bool true),
         ve undef,
         ve undef,
         ve (.bool true),
         ve (.bool true)] hs245 (.eq (.eq (.eq (.eq (.eq (.eq (.eq (.nil)))))))) ?_ ?_
      · skip
        refine .o1 (tk rfl rfl fun _ w hn k => ⟨_, v_load rfl (k.fx 6 h249) (l_two Tryd.isAgg23 Tryd.sizeOf23 (hb254.new_ hn)), rfl⟩) ?_
        refine .o1 (ck rfl rfl rfl (fun _ w hn k => ⟨#[nv (asM a)], args1 (k.eq1 0 43 rfl), fun _ => by kernel_rfl, rinf_c (asM a) _⟩) fun _ => congrArg Value.bool ht188) ?_
        refine .o1 (tk rfl rfl fun _ w hn k => ⟨_, v_move rfl (k.eq1 1 44 rfl), rfl⟩) ?_
        refine .o1 (sk rfl rfl rfl (fun _ _ _ k => k.eq1 2 45 rfl) (fun _ => rfl)) ?_
        refine .o1 (sk rfl rfl rfl (fun _ _ _ k => k.eq1 2 45 rfl) (fun _ => rfl)) ?_
        refine .o1 (tk rfl rfl fun _ w hn k => ⟨_, v_pickT rfl (k.eq1 2 45 rfl) rfl, rfl⟩) ?_
        refine .o1 (tk rfl rfl fun _ w hn k => ⟨_, v_assign rfl (k.eq1 5 48 rfl), rfl⟩) ?_
        exact .nil
      intro a294 w295 hn296 ha297
      have hs298 := ha297.size.trans hs245
      have hd299 := ha297.defers.trans hd246
      have h300 := ha297.fx 4 h247
      have h301 := ha297.fx 5 h248
      have h302 := ha297.fx 6 h249
      have h303 := ha297.fx 7 h250
      have h304 := ha297.fx 8 h251
      have h305 := ha297.ge 6 42 rfl
      have hb306 := hb253.new_ hn296
      have hb307 := hb254.new_ hn296
      have hb308 := hb255.new_ hn296
      have hN309 := hN256.transNew hn296
      clear hs245 hd246 h247 h248 h249 h250 h251 hv293 hb253 hb254 hb255 hN256 ha297 hn296
      refine st_nil ?_
      refine hK _ _ ?_
      clear hK K
      refine wp_cond_true h305 ?_
      refine wp_seq_k fun K hK => ?_
      refine wp_g0 [true, true, false, false] [(2, false), (3, true)] 67
        [ve (.bool ((belowB (asM a)) != (belowB (asM b)))),
         ve (nv (signedR true ((belowB (asM a)) != (belowB (asM b))))),
         vt,
         vt] hs298 (.eq (.eq (.tt (.tt (.nil))))) ?_ ?_
      · skip
        refine .o1 (tk rfl rfl fun _ w hn k => ⟨_, v_move rfl (k.fx 8 h304), rfl⟩) ?_
        refine .o1 (ck rfl rfl rfl (fun _ w hn k => ⟨#[.bool true, .bool ((belowB (asM a)) != (belowB (asM b)))], args2 rfl (k.eq1 0 49 rfl), fun _ => by kernel_rfl, rsigned_c true ((belowB (asM a)) != (belowB (asM b))) _⟩) fun _ => rfl) ?_
        refine .off ?_
        refine .off ?_
        exact .nil
      intro a310 w311 hn312 ha313
      have hs314 := ha313.size.trans hs298
      have hd315 := ha313.defers.trans hd299
      have h316 := ha313.fx 4 h300
      have h317 := ha313.fx 5 h301
      have h318 := ha313.fx 6 h302
      have h319 := ha313.fx 7 h303
      have h320 := ha313.ge 1 50 rfl
      have hb321 := hb306.new_ hn312
      have hb322 := hb307.new_ hn312
      have hb323 := hb308.new_ hn312
      have hN324 := hN309.transNew hn312
      clear hs298 hd299 h300 h301 h302 h303 h304 h305 hb306 hb307 hb308 hN309 ha313 hn312
      obtain ⟨w325, -, hst326, hb327, hu328, hf329⟩ := s_two (v0 := iv ((signedR true ((belowB (asM a)) != (belowB (asM b)))).k)) (v1 := iv ((signedR true ((belowB (asM a)) != (belowB (asM b)))).n)) Tryd.sizeOf23 rfl rfl rfl hb321
      refine st_act rfl rfl fun K330 hL331 => a_store' rfl h316 h320 hst326 (hL331 _ _ trivial ?_)
      have hb332 := hf329 _ _ _ (fun h => hne46 h.symm) hb322
      have hb333 := hf329 _ _ _ (fun h => hne47 h.symm) hb323
      have hN334 := hN324.trans hu328 (fun k hk hkb => by subst hkb; omega)
      clear hb321 hst326 K330 hL331 hN324 hb322 hb323 hu328 hf329
      refine st_take rfl rfl (y_assign (v := .bool true) rfl rfl) rfl ?_
      obtain ⟨a335, ha336⟩ : ∃ a', a' = a310.put (some 5) (.bool true) := ⟨_, rfl⟩
      have hs337 : a335.tmps.size = 67 := by rw [ha336, put_size]; exact hs314
      have hd338 : a335.defers = [] := by rw [ha336, put_defers]; exact hd315
      have h339 : a335.eval (.tmp 4) = pv q16 := by rw [ha336, put_ne _ _ _ _ (by decide)]; exact h316
      have h340 : a335.eval (.tmp 6) = pv q37 := by rw [ha336, put_ne _ _ _ _ (by decide)]; exact h318
      have h341 : a335.eval (.tmp 7) = pv q41 := by rw [ha336, put_ne _ _ _ _ (by decide)]; exact h319
      have h342 : a335.eval (.tmp 50) = nv (signedR true ((belowB (asM a)) != (belowB (asM b)))) := by rw [ha336, put_ne _ _ _ _ (by decide)]; exact h320
      have h343 : a335.eval (.tmp 5) = .bool true := by rw [ha336]; exact put_same _ _ _ (by rw [hs314]; decide)
      show stepsTo _ _ _ _ _ (a310.put (some 5) (.bool true)) _
      rw [← ha336]
      clear ha336 hs314 hd315 h316 h317 h318 h319 h320
      refine st_nil ?_
      clear h342
      refine hK _ _ ?_
      clear hK K
      refine wp_ret (ret_k hd338 (v := .tuple #[nv (signedR true ((belowB (asM a)) != (belowB (asM b)))), .bool true]) (res_ct rfl h339 h343 (l_two Tryd.isAgg23 Tryd.sizeOf23 hb327)) ?_)
      refine ⟨?_, hN334⟩
      show Ending.returned (.tuple #[nv (signedR true ((belowB (asM a)) != (belowB (asM b)))), .bool true]) = Ending.returned (.tuple #[nv ((rMulM a b).1), .bool ((rMulM a b).2)])
      first | rfl | (simp [rMulM, ht86, ht137, ht188, ht189, ht240, ht257])
    refine wp_g0 [true, true, true, true, true, true, true, true, true, true, true, true, true, true, true, true, true, true, true, true, true, true, true] [] 67
      [ve (nv (asM a)),
       ve (.bool false),
       ve (.bool false),
       ve (nv (asM b)),
       ve (.bool false),
       ve (.bool false),
       ve (.bool false),
       ve (nv (asM a)),
       ve (.bool true),
       ve (.bool true),
       ve (nv (asM b)),
       ve (.bool false),
       ve (.bool false),
       ve (.bool false),
       ve (.bool false),
       ve (nv (asM a)),
       ve (.bool false),
       ve (.bool false),
       ve undef,
       ve undef,
       ve (.bool false),
       ve (.bool false),
       ve (.bool false)] hs75 (.eq (.eq (.eq (.eq (.eq (.eq (.eq (.eq (.eq (.eq (.eq (.eq (.eq (.eq (.eq (.eq (.eq (.eq (.eq (.eq (.eq (.eq (.eq (.nil)))))))))))))))))))))))) ?_ ?_
    · skip
      refine .o1 (tk rfl rfl fun _ w hn k => ⟨_, v_load rfl (k.fx 6 h79) (l_two Tryd.isAgg23 Tryd.sizeOf23 (hb83.new_ hn)), rfl⟩) ?_
      refine .o1 (ck rfl rfl rfl (fun _ w hn k => ⟨#[nv (asM a)], args1 (k.eq1 0 19 rfl), fun _ => by kernel_rfl, rnan_c (asM a) _⟩) fun _ => congrArg Value.bool ht86) ?_
      refine .o1 (tk rfl rfl fun _ w hn k => ⟨_, v_move rfl (k.eq1 1 20 rfl), rfl⟩) ?_
      refine .o1 (tg rfl rfl rfl (fun _ _ k => k.eq1 2 21 rfl) fun _ w hn k => ⟨_, v_load rfl (k.fx 7 h80) (l_two Tryd.isAgg23 Tryd.sizeOf23 (hb84.new_ hn)), rfl⟩) ?_
      refine .o1 (cg rfl rfl rfl (fun _ _ k => k.eq1 2 21 rfl) rfl (fun _ w hn k => ⟨#[nv (asM b)], args1 (k.eq1 3 22 rfl), fun _ => by kernel_rfl, rnan_c (asM b) _⟩) fun _ => congrArg Value.bool ht137) ?_
      refine .o1 (tk rfl rfl fun _ w hn k => ⟨_, v_pickF rfl (k.eq1 2 21 rfl) (k.eq1 4 23 rfl), rfl⟩) ?_
      refine .o1 (tk rfl rfl fun _ w hn k => ⟨_, v_move rfl (k.eq1 5 24 rfl), rfl⟩) ?_
      refine .o1 (tg rfl rfl rfl (fun _ _ k => k.eq1 6 25 rfl) fun _ w hn k => ⟨_, v_load rfl (k.fx 6 h79) (l_two Tryd.isAgg23 Tryd.sizeOf23 (hb83.new_ hn)), rfl⟩) ?_
      refine .o1 (cg rfl rfl rfl (fun _ _ k => k.eq1 6 25 rfl) rfl (fun _ w hn k => ⟨#[nv (asM a)], args1 (k.eq1 7 26 rfl), fun _ => by kernel_rfl, rinf_c (asM a) _⟩) fun _ => congrArg Value.bool ht188) ?_
      refine .o1 (tg rfl rfl rfl (fun _ _ k => k.eq1 6 25 rfl) fun _ w hn k => ⟨_, v_move rfl (k.eq1 8 27 rfl), rfl⟩) ?_
      refine .o1 (tg rfl rfl rfl (fun _ _ k => k.eq1 9 28 rfl) fun _ w hn k => ⟨_, v_load rfl (k.fx 7 h80) (l_two Tryd.isAgg23 Tryd.sizeOf23 (hb84.new_ hn)), rfl⟩) ?_
      refine .o1 (cg rfl rfl rfl (fun _ _ k => k.eq1 9 28 rfl) rfl (fun _ w hn k => ⟨#[nv (asM b)], args1 (k.eq1 10 29 rfl), fun _ => by kernel_rfl, rnought_c (asM b) _⟩) fun _ => congrArg Value.bool ht189) ?_
      refine .o1 (tg rfl rfl rfl (fun _ _ k => k.eq1 6 25 rfl) fun _ w hn k => ⟨_, v_pickT rfl (k.eq1 9 28 rfl) (k.eq1 11 30 rfl), rfl⟩) ?_
      refine .o1 (tk rfl rfl fun _ w hn k => ⟨_, v_pickF rfl (k.eq1 6 25 rfl) (k.eq1 12 31 rfl), rfl⟩) ?_
      refine .o1 (tk rfl rfl fun _ w hn k => ⟨_, v_move rfl (k.eq1 13 32 rfl), rfl⟩) ?_
      refine .o1 (tg rfl rfl rfl (fun _ _ k => k.eq1 14 33 rfl) fun _ w hn k => ⟨_, v_load rfl (k.fx 6 h79) (l_two Tryd.isAgg23 Tryd.sizeOf23 (hb83.new_ hn)), rfl⟩) ?_
      refine .o1 (cg rfl rfl rfl (fun _ _ k => k.eq1 14 33 rfl) rfl (fun _ w hn k => ⟨#[nv (asM a)], args1 (k.eq1 15 34 rfl), fun _ => by kernel_rfl, rnought_c (asM a) _⟩) fun _ => congrArg Value.bool ht240) ?_
      refine .o1 (tg rfl rfl rfl (fun _ _ k => k.eq1 14 33 rfl) fun _ w hn k => ⟨_, v_move rfl (k.eq1 16 35 rfl), rfl⟩) ?_
      refine .o1 (sk rfl rfl rfl (fun _ _ _ k => k.eq1 17 36 rfl) (fun _ => rfl)) ?_
      refine .o1 (sk rfl rfl rfl (fun _ _ _ k => k.eq1 17 36 rfl) (fun _ => rfl)) ?_
      refine .o1 (tg rfl rfl rfl (fun _ _ k => k.eq1 14 33 rfl) fun _ w hn k => ⟨_, v_pickF rfl (k.eq1 17 36 rfl) rfl, rfl⟩) ?_
      refine .o1 (tk rfl rfl fun _ w hn k => ⟨_, v_pickF rfl (k.eq1 14 33 rfl) (k.eq1 20 39 rfl), rfl⟩) ?_
      refine .o1 (tk rfl rfl fun _ w hn k => ⟨_, v_assign rfl (k.eq1 21 40 rfl), rfl⟩) ?_
      exact .nil
    intro a344 w345 hn346 ha347
    have hs348 := ha347.size.trans hs75
    have hd349 := ha347.defers.trans hd76
    have h350 := ha347.fx 4 h77
    have h351 := ha347.fx 5 h78
    have h352 := ha347.fx 6 h79
    have h353 := ha347.fx 7 h80
    have h354 := ha347.fx 8 h81
    have h355 := ha347.ge 22 18 rfl
    have hb356 := hb82.new_ hn346
    have hb357 := hb83.new_ hn346
    have hb358 := hb84.new_ hn346
    have hN359 := hN85.transNew hn346
    clear hs75 hd76 h77 h78 h79 h80 h81 hb82 hb83 hb84 hN85 ha347 hn346
    refine st_nil ?_
    refine hK _ _ ?_
    clear hK K
    refine wp_cond_false h355 ?_
    refine wp_seq_k fun K hK => ?_
    refine wp_g0 [true, true, true, true, true, true, true] [] 67
      [ve (nv (asM a)),
       ve (.bool true),
       ve (.bool true),
       ve undef,
       ve undef,
       ve (.bool true),
       ve (.bool true)] hs348 (.eq (.eq (.eq (.eq (.eq (.eq (.eq (.nil)))))))) ?_ ?_
    · skip
      refine .o1 (tk rfl rfl fun _ w hn k => ⟨_, v_load rfl (k.fx 6 h352) (l_two Tryd.isAgg23 Tryd.sizeOf23 (hb357.new_ hn)), rfl⟩) ?_
      refine .o1 (ck rfl rfl rfl (fun _ w hn k => ⟨#[nv (asM a)], args1 (k.eq1 0 43 rfl), fun _ => by kernel_rfl, rinf_c (asM a) _⟩) fun _ => congrArg Value.bool ht188) ?_
      refine .o1 (tk rfl rfl fun _ w hn k => ⟨_, v_move rfl (k.eq1 1 44 rfl), rfl⟩) ?_
      refine .o1 (sk rfl rfl rfl (fun _ _ _ k => k.eq1 2 45 rfl) (fun _ => rfl)) ?_
      refine .o1 (sk rfl rfl rfl (fun _ _ _ k => k.eq1 2 45 rfl) (fun _ => rfl)) ?_
      refine .o1 (tk rfl rfl fun _ w hn k => ⟨_, v_pickT rfl (k.eq1 2 45 rfl) rfl, rfl⟩) ?_
      refine .o1 (tk rfl rfl fun _ w hn k => ⟨_, v_assign rfl (k.eq1 5 48 rfl), rfl⟩) ?_
      exact .nil
    intro a360 w361 hn362 ha363
    have hs364 := ha363.size.trans hs348
    have hd365 := ha363.defers.trans hd349
    have h366 := ha363.fx 4 h350
    have h367 := ha363.fx 5 h351
    have h368 := ha363.fx 6 h352
    have h369 := ha363.fx 7 h353
    have h370 := ha363.fx 8 h354
    have h371 := ha363.ge 6 42 rfl
    have hb372 := hb356.new_ hn362
    have hb373 := hb357.new_ hn362
    have hb374 := hb358.new_ hn362
    have hN375 := hN359.transNew hn362
    clear hs348 hd349 h350 h351 h352 h353 h354 h355 hb356 hb357 hb358 hN359 ha363 hn362
    refine st_nil ?_
    refine hK _ _ ?_
    clear hK K
    refine wp_cond_true h371 ?_
    refine wp_seq_k fun K hK => ?_
    refine wp_g0 [true, true, false, false] [(2, false), (3, true)] 67
      [ve (.bool ((belowB (asM a)) != (belowB (asM b)))),
       ve (nv (signedR true ((belowB (asM a)) != (belowB (asM b))))),
       vt,
       vt] hs364 (.eq (.eq (.tt (.tt (.nil))))) ?_ ?_
    · skip
      refine .o1 (tk rfl rfl fun _ w hn k => ⟨_, v_move rfl (k.fx 8 h370), rfl⟩) ?_
      refine .o1 (ck rfl rfl rfl (fun _ w hn k => ⟨#[.bool true, .bool ((belowB (asM a)) != (belowB (asM b)))], args2 rfl (k.eq1 0 49 rfl), fun _ => by kernel_rfl, rsigned_c true ((belowB (asM a)) != (belowB (asM b))) _⟩) fun _ => rfl) ?_
      refine .off ?_
      refine .off ?_
      exact .nil
    intro a376 w377 hn378 ha379
    have hs380 := ha379.size.trans hs364
    have hd381 := ha379.defers.trans hd365
    have h382 := ha379.fx 4 h366
    have h383 := ha379.fx 5 h367
    have h384 := ha379.fx 6 h368
    have h385 := ha379.fx 7 h369
    have h386 := ha379.ge 1 50 rfl
    have hb387 := hb372.new_ hn378
    have hb388 := hb373.new_ hn378
    have hb389 := hb374.new_ hn378
    have hN390 := hN375.transNew hn378
    clear hs364 hd365 h366 h367 h368 h369 h370 h371 hb372 hb373 hb374 hN375 ha379 hn378
    obtain ⟨w391, -, hst392, hb393, hu394, hf395⟩ := s_two (v0 := iv ((signedR true ((belowB (asM a)) != (belowB (asM b)))).k)) (v1 := iv ((signedR true ((belowB (asM a)) != (belowB (asM b)))).n)) Tryd.sizeOf23 rfl rfl rfl hb387
    refine st_act rfl rfl fun K396 hL397 => a_store' rfl h382 h386 hst392 (hL397 _ _ trivial ?_)
    have hb398 := hf395 _ _ _ (fun h => hne46 h.symm) hb388
    have hb399 := hf395 _ _ _ (fun h => hne47 h.symm) hb389
    have hN400 := hN390.trans hu394 (fun k hk hkb => by subst hkb; omega)
    clear hb387 hst392 K396 hL397 hN390 hb388 hb389 hu394 hf395
    refine st_take rfl rfl (y_assign (v := .bool true) rfl rfl) rfl ?_
    obtain ⟨a401, ha402⟩ : ∃ a', a' = a376.put (some 5) (.bool true) := ⟨_, rfl⟩
    have hs403 : a401.tmps.size = 67 := by rw [ha402, put_size]; exact hs380
    have hd404 : a401.defers = [] := by rw [ha402, put_defers]; exact hd381
    have h405 : a401.eval (.tmp 4) = pv q16 := by rw [ha402, put_ne _ _ _ _ (by decide)]; exact h382
    have h406 : a401.eval (.tmp 6) = pv q37 := by rw [ha402, put_ne _ _ _ _ (by decide)]; exact h384
    have h407 : a401.eval (.tmp 7) = pv q41 := by rw [ha402, put_ne _ _ _ _ (by decide)]; exact h385
    have h408 : a401.eval (.tmp 50) = nv (signedR true ((belowB (asM a)) != (belowB (asM b)))) := by rw [ha402, put_ne _ _ _ _ (by decide)]; exact h386
    have h409 : a401.eval (.tmp 5) = .bool true := by rw [ha402]; exact put_same _ _ _ (by rw [hs380]; decide)
    show stepsTo _ _ _ _ _ (a376.put (some 5) (.bool true)) _
    rw [← ha402]
    clear ha402 hs380 hd381 h382 h383 h384 h385 h386
    refine st_nil ?_
    clear h408
    refine hK _ _ ?_
    clear hK K
    refine wp_ret (ret_k hd404 (v := .tuple #[nv (signedR true ((belowB (asM a)) != (belowB (asM b)))), .bool true]) (res_ct rfl h405 h409 (l_two Tryd.isAgg23 Tryd.sizeOf23 hb393)) ?_)
    refine ⟨?_, hN400⟩
    show Ending.returned (.tuple #[nv (signedR true ((belowB (asM a)) != (belowB (asM b)))), .bool true]) = Ending.returned (.tuple #[nv ((rMulM a b).1), .bool ((rMulM a b).2)])
    first | rfl | (simp [rMulM, ht86, ht137, ht188, ht189, ht240])
  rcases Bool.eq_false_or_eq_true (noughtB (asM a)) with ht410 | ht410
  · skip
    refine wp_g0 [true, true, true, true, true, true, true, true, true, true, true, true, true, true, true, true, true, true, true, true, true, true, true] [] 67
      [ve (nv (asM a)),
       ve (.bool false),
       ve (.bool false),
       ve (nv (asM b)),
       ve (.bool false),
       ve (.bool false),
       ve (.bool false),
       ve (nv (asM a)),
       ve (.bool false),
       ve (.bool false),
       ve undef,
       ve undef,
       ve (.bool false),
       ve (.bool false),
       ve (.bool false),
       ve (nv (asM a)),
       ve (.bool true),
       ve (.bool true),
       ve (nv (asM b)),
       ve (.bool (infB ((asM b).k))),
       ve (.bool (infB ((asM b).k))),
       ve (.bool (infB ((asM b).k))),
       ve (.bool (infB ((asM b).k)))] hs75 (.eq (.eq (.eq (.eq (.eq (.eq (.eq (.eq (.eq (.eq (.eq (.eq (.eq (.eq (.eq (.eq (.eq (.eq (.eq (.eq (.eq (.eq (.eq (.nil)))))))))))))))))))))))) ?_ ?_
    · skip
      refine .o1 (tk rfl rfl fun _ w hn k => ⟨_, v_load rfl (k.fx 6 h79) (l_two Tryd.isAgg23 Tryd.sizeOf23 (hb83.new_ hn)), rfl⟩) ?_
      refine .o1 (ck rfl rfl rfl (fun _ w hn k => ⟨#[nv (asM a)], args1 (k.eq1 0 19 rfl), fun _ => by kernel_rfl, rnan_c (asM a) _⟩) fun _ => congrArg Value.bool ht86) ?_
      refine .o1 (tk rfl rfl fun _ w hn k => ⟨_, v_move rfl (k.eq1 1 20 rfl), rfl⟩) ?_
      refine .o1 (tg rfl rfl rfl (fun _ _ k => k.eq1 2 21 rfl) fun _ w hn k => ⟨_, v_load rfl (k.fx 7 h80) (l_two Tryd.isAgg23 Tryd.sizeOf23 (hb84.new_ hn)), rfl⟩) ?_
      refine .o1 (cg rfl rfl rfl (fun _ _ k => k.eq1 2 21 rfl) rfl (fun _ w hn k => ⟨#[nv (asM b)], args1 (k.eq1 3 22 rfl), fun _ => by kernel_rfl, rnan_c (asM b) _⟩) fun _ => congrArg Value.bool ht137) ?_
      refine .o1 (tk rfl rfl fun _ w hn k => ⟨_, v_pickF rfl (k.eq1 2 21 rfl) (k.eq1 4 23 rfl), rfl⟩) ?_
      refine .o1 (tk rfl rfl fun _ w hn k => ⟨_, v_move rfl (k.eq1 5 24 rfl), rfl⟩) ?_
      refine .o1 (tg rfl rfl rfl (fun _ _ k => k.eq1 6 25 rfl) fun _ w hn k => ⟨_, v_load rfl (k.fx 6 h79) (l_two Tryd.isAgg23 Tryd.sizeOf23 (hb83.new_ hn)), rfl⟩) ?_
      refine .o1 (cg rfl rfl rfl (fun _ _ k => k.eq1 6 25 rfl) rfl (fun _ w hn k => ⟨#[nv (asM a)], args1 (k.eq1 7 26 rfl), fun _ => by kernel_rfl, rinf_c (asM a) _⟩) fun _ => congrArg Value.bool ht188) ?_
      refine .o1 (tg rfl rfl rfl (fun _ _ k => k.eq1 6 25 rfl) fun _ w hn k => ⟨_, v_move rfl (k.eq1 8 27 rfl), rfl⟩) ?_
      refine .o1 (sk rfl rfl rfl (fun _ _ _ k => k.eq1 9 28 rfl) (fun _ => rfl)) ?_
      refine .o1 (sk rfl rfl rfl (fun _ _ _ k => k.eq1 9 28 rfl) (fun _ => rfl)) ?_
      refine .o1 (tg rfl rfl rfl (fun _ _ k => k.eq1 6 25 rfl) fun _ w hn k => ⟨_, v_pickF rfl (k.eq1 9 28 rfl) rfl, rfl⟩) ?_
      refine .o1 (tk rfl rfl fun _ w hn k => ⟨_, v_pickF rfl (k.eq1 6 25 rfl) (k.eq1 12 31 rfl), rfl⟩) ?_
      refine .o1 (tk rfl rfl fun _ w hn k => ⟨_, v_move rfl (k.eq1 13 32 rfl), rfl⟩) ?_
      refine .o1 (tg rfl rfl rfl (fun _ _ k => k.eq1 14 33 rfl) fun _ w hn k => ⟨_, v_load rfl (k.fx 6 h79) (l_two Tryd.isAgg23 Tryd.sizeOf23 (hb83.new_ hn)), rfl⟩) ?_
      refine .o1 (cg rfl rfl rfl (fun _ _ k => k.eq1 14 33 rfl) rfl (fun _ w hn k => ⟨#[nv (asM a)], args1 (k.eq1 15 34 rfl), fun _ => by kernel_rfl, rnought_c (asM a) _⟩) fun _ => congrArg Value.bool ht410) ?_
      refine .o1 (tg rfl rfl rfl (fun _ _ k => k.eq1 14 33 rfl) fun _ w hn k => ⟨_, v_move rfl (k.eq1 16 35 rfl), rfl⟩) ?_
      refine .o1 (tg rfl rfl rfl (fun _ _ k => k.eq1 17 36 rfl) fun _ w hn k => ⟨_, v_load rfl (k.fx 7 h80) (l_two Tryd.isAgg23 Tryd.sizeOf23 (hb84.new_ hn)), rfl⟩) ?_
      refine .o1 (cg rfl rfl rfl (fun _ _ k => k.eq1 17 36 rfl) rfl (fun _ w hn k => ⟨#[nv (asM b)], args1 (k.eq1 18 37 rfl), fun _ => by kernel_rfl, rinf_c (asM b) _⟩) fun _ => rfl) ?_
      refine .o1 (tg rfl rfl rfl (fun _ _ k => k.eq1 14 33 rfl) fun _ w hn k => ⟨_, v_pickT rfl (k.eq1 17 36 rfl) (k.eq1 19 38 rfl), rfl⟩) ?_
      refine .o1 (tk rfl rfl fun _ w hn k => ⟨_, v_pickF rfl (k.eq1 14 33 rfl) (k.eq1 20 39 rfl), rfl⟩) ?_
      refine .o1 (tk rfl rfl fun _ w hn k => ⟨_, v_assign rfl (k.eq1 21 40 rfl), rfl⟩) ?_
      exact .nil
    intro a411 w412 hn413 ha414
    have hs415 := ha414.size.trans hs75
    have hd416 := ha414.defers.trans hd76
    have h417 := ha414.fx 4 h77
    have h418 := ha414.fx 5 h78
    have h419 := ha414.fx 6 h79
    have h420 := ha414.fx 7 h80
    have h421 := ha414.fx 8 h81
    have h422 := ha414.ge 22 18 rfl
    have hb423 := hb82.new_ hn413
    have hb424 := hb83.new_ hn413
    have hb425 := hb84.new_ hn413
    have hN426 := hN85.transNew hn413
    clear hs75 hd76 h77 h78 h79 h80 h81 hb82 hb83 hb84 hN85 ha414 hn413
    refine st_nil ?_
    refine hK _ _ ?_
    clear hK K
    rcases Bool.eq_false_or_eq_true (infB ((asM b).k)) with ht427 | ht427
    · skip
      have hv428 : a411.eval (.tmp 18) = .bool true := h422.trans (congrArg Value.bool ht427)
      clear h422
      refine wp_cond_true hv428 ?_
      refine wp_seq_k fun K hK => ?_
      refine wp_g0 [true, false, false] [(1, false), (2, true)] 67
        [ve (nv (Nm.mk 2 0)),
         vt,
         vt] hs415 (.eq (.tt (.tt (.nil)))) ?_ ?_
      · skip
        refine .o1 (ck rfl rfl rfl (fun _ w hn k => ⟨#[], rfl, fun _ => by kernel_rfl, rNaN_c  _⟩) fun _ => rfl) ?_
        refine .off ?_
        refine .off ?_
        exact .nil
      intro a429 w430 hn431 ha432
      have hs433 := ha432.size.trans hs415
      have hd434 := ha432.defers.trans hd416
      have h435 := ha432.fx 4 h417
      have h436 := ha432.fx 5 h418
      have h437 := ha432.fx 6 h419
      have h438 := ha432.fx 7 h420
      have h439 := ha432.ge 0 41 rfl
      have hb440 := hb423.new_ hn431
      have hb441 := hb424.new_ hn431
      have hb442 := hb425.new_ hn431
      have hN443 := hN426.transNew hn431
      clear hs415 hd416 h417 h418 h419 h420 h421 hv428 hb423 hb424 hb425 hN426 ha432 hn431
      obtain ⟨w444, -, hst445, hb446, hu447, hf448⟩ := s_two (v0 := iv 2) (v1 := iv 0) Tryd.sizeOf23 rfl rfl rfl hb440
      refine st_act rfl rfl fun K449 hL450 => a_store' rfl h435 h439 hst445 (hL450 _ _ trivial ?_)
      have hb451 := hf448 _ _ _ (fun h => hne46 h.symm) hb441
      have hb452 := hf448 _ _ _ (fun h => hne47 h.symm) hb442
      have hN453 := hN443.trans hu447 (fun k hk hkb => by subst hkb; omega)
      clear hb440 hst445 K449 hL450 hN443 hb441 hb442 hu447 hf448
      refine st_take rfl rfl (y_assign (v := .bool true) rfl rfl) rfl ?_
      obtain ⟨a454, ha455⟩ : ∃ a', a' = a429.put (some 5) (.bool true) := ⟨_, rfl⟩
      have hs456 : a454.tmps.size = 67 := by rw [ha455, put_size]; exact hs433
      have hd457 : a454.defers = [] := by rw [ha455, put_defers]; exact hd434
      have h458 : a454.eval (.tmp 4) = pv q16 := by rw [ha455, put_ne _ _ _ _ (by decide)]; exact h435
      have h459 : a454.eval (.tmp 6) = pv q37 := by rw [ha455, put_ne _ _ _ _ (by decide)]; exact h437
      have h460 : a454.eval (.tmp 7) = pv q41 := by rw [ha455, put_ne _ _ _ _ (by decide)]; exact h438
      have h461 : a454.eval (.tmp 41) = nv (Nm.mk 2 0) := by rw [ha455, put_ne _ _ _ _ (by decide)]; exact h439
      have h462 : a454.eval (.tmp 5) = .bool true := by rw [ha455]; exact put_same _ _ _ (by rw [hs433]; decide)
      show stepsTo _ _ _ _ _ (a429.put (some 5) (.bool true)) _
      rw [← ha455]
      clear ha455 hs433 hd434 h435 h436 h437 h438 h439
      refine st_nil ?_
      clear h461
      refine hK _ _ ?_
      clear hK K
      refine wp_ret (ret_k hd457 (v := .tuple #[nv (Nm.mk 2 0), .bool true]) (res_ct rfl h458 h462 (l_two Tryd.isAgg23 Tryd.sizeOf23 hb446)) ?_)
      refine ⟨?_, hN453⟩
      show Ending.returned (.tuple #[nv (Nm.mk 2 0), .bool true]) = Ending.returned (.tuple #[nv ((rMulM a b).1), .bool ((rMulM a b).2)])
      first | rfl | (simp [rMulM, ht86, ht137, ht188, ht410, ht427])
    have hv463 : a411.eval (.tmp 18) = .bool false := h422.trans (congrArg Value.bool ht427)
    clear h422
    refine wp_cond_false hv463 ?_
    refine wp_seq_k fun K hK => ?_
    refine wp_g0 [true, true, true, true, true, true, true] [] 67
      [ve (nv (asM a)),
       ve (.bool false),
       ve (.bool false),
       ve (nv (asM b)),
       ve (.bool false),
       ve (.bool false),
       ve (.bool false)] hs415 (.eq (.eq (.eq (.eq (.eq (.eq (.eq (.nil)))))))) ?_ ?_
    · skip
      refine .o1 (tk rfl rfl fun _ w hn k => ⟨_, v_load rfl (k.fx 6 h419) (l_two Tryd.isAgg23 Tryd.sizeOf23 (hb424.new_ hn)), rfl⟩) ?_
      refine .o1 (ck rfl rfl rfl (fun _ w hn k => ⟨#[nv (asM a)], args1 (k.eq1 0 43 rfl), fun _ => by kernel_rfl, rinf_c (asM a) _⟩) fun _ => congrArg Value.bool ht188) ?_
      refine .o1 (tk rfl rfl fun _ w hn k => ⟨_, v_move rfl (k.eq1 1 44 rfl), rfl⟩) ?_
      refine .o1 (tg rfl rfl rfl (fun _ _ k => k.eq1 2 45 rfl) fun _ w hn k => ⟨_, v_load rfl (k.fx 7 h420) (l_two Tryd.isAgg23 Tryd.sizeOf23 (hb425.new_ hn)), rfl⟩) ?_
      refine .o1 (cg rfl rfl rfl (fun _ _ k => k.eq1 2 45 rfl) rfl (fun _ w hn k => ⟨#[nv (asM b)], args1 (k.eq1 3 46 rfl), fun _ => by kernel_rfl, rinf_c (asM b) _⟩) fun _ => congrArg Value.bool ht427) ?_
      refine .o1 (tk rfl rfl fun _ w hn k => ⟨_, v_pickF rfl (k.eq1 2 45 rfl) (k.eq1 4 47 rfl), rfl⟩) ?_
      refine .o1 (tk rfl rfl fun _ w hn k => ⟨_, v_assign rfl (k.eq1 5 48 rfl), rfl⟩) ?_
      exact .nil
    intro a464 w465 hn466 ha467
    have hs468 := ha467.size.trans hs415
    have hd469 := ha467.defers.trans hd416
    have h470 := ha467.fx 4 h417
    have h471 := ha467.fx 5 h418
    have h472 := ha467.fx 6 h419
    have h473 := ha467.fx 7 h420
    have h474 := ha467.fx 8 h421
    have h475 := ha467.ge 6 42 rfl
    have hb476 := hb423.new_ hn466
    have hb477 := hb424.new_ hn466
    have hb478 := hb425.new_ hn466
    have hN479 := hN426.transNew hn466
    clear hs415 hd416 h417 h418 h419 h420 h421 hv463 hb423 hb424 hb425 hN426 ha467 hn466
    refine st_nil ?_
    refine hK _ _ ?_
    clear hK K
    refine wp_cond_false h475 ?_
    refine wp_seq_k fun K hK => ?_
    refine wp_g0 [true, true, true, true, true, true, true] [] 67
      [ve (nv (asM a)),
       ve (.bool true),
       ve (.bool true),
       ve undef,
       ve undef,
       ve (.bool true),
       ve (.bool true)] hs468 (.eq (.eq (.eq (.eq (.eq (.eq (.eq (.nil)))))))) ?_ ?_
    · skip
      refine .o1 (tk rfl rfl fun _ w hn k => ⟨_, v_load rfl (k.fx 6 h472) (l_two Tryd.isAgg23 Tryd.sizeOf23 (hb477.new_ hn)), rfl⟩) ?_
      refine .o1 (ck rfl rfl rfl (fun _ w hn k => ⟨#[nv (asM a)], args1 (k.eq1 0 52 rfl), fun _ => by kernel_rfl, rnought_c (asM a) _⟩) fun _ => congrArg Value.bool ht410) ?_
      refine .o1 (tk rfl rfl fun _ w hn k => ⟨_, v_move rfl (k.eq1 1 53 rfl), rfl⟩) ?_
      refine .o1 (sk rfl rfl rfl (fun _ _ _ k => k.eq1 2 54 rfl) (fun _ => rfl)) ?_
      refine .o1 (sk rfl rfl rfl (fun _ _ _ k => k.eq1 2 54 rfl) (fun _ => rfl)) ?_
      refine .o1 (tk rfl rfl fun _ w hn k => ⟨_, v_pickT rfl (k.eq1 2 54 rfl) rfl, rfl⟩) ?_
      refine .o1 (tk rfl rfl fun _ w hn k => ⟨_, v_assign rfl (k.eq1 5 57 rfl), rfl⟩) ?_
      exact .nil
    intro a480 w481 hn482 ha483
    have hs484 := ha483.size.trans hs468
    have hd485 := ha483.defers.trans hd469
    have h486 := ha483.fx 4 h470
    have h487 := ha483.fx 5 h471
    have h488 := ha483.fx 6 h472
    have h489 := ha483.fx 7 h473
    have h490 := ha483.fx 8 h474
    have h491 := ha483.ge 6 51 rfl
    have hb492 := hb476.new_ hn482
    have hb493 := hb477.new_ hn482
    have hb494 := hb478.new_ hn482
    have hN495 := hN479.transNew hn482
    clear hs468 hd469 h470 h471 h472 h473 h474 h475 hb476 hb477 hb478 hN479 ha483 hn482
    refine st_nil ?_
    refine hK _ _ ?_
    clear hK K
    refine wp_cond_true h491 ?_
    refine wp_seq_k fun K hK => ?_
    refine wp_g0 [true, true, false, false] [(2, false), (3, true)] 67
      [ve (.bool ((belowB (asM a)) != (belowB (asM b)))),
       ve (nv (signedR false ((belowB (asM a)) != (belowB (asM b))))),
       vt,
       vt] hs484 (.eq (.eq (.tt (.tt (.nil))))) ?_ ?_
    · skip
      refine .o1 (tk rfl rfl fun _ w hn k => ⟨_, v_move rfl (k.fx 8 h490), rfl⟩) ?_
      refine .o1 (ck rfl rfl rfl (fun _ w hn k => ⟨#[.bool false, .bool ((belowB (asM a)) != (belowB (asM b)))], args2 rfl (k.eq1 0 58 rfl), fun _ => by kernel_rfl, rsigned_c false ((belowB (asM a)) != (belowB (asM b))) _⟩) fun _ => rfl) ?_
      refine .off ?_
      refine .off ?_
      exact .nil
    intro a496 w497 hn498 ha499
    have hs500 := ha499.size.trans hs484
    have hd501 := ha499.defers.trans hd485
    have h502 := ha499.fx 4 h486
    have h503 := ha499.fx 5 h487
    have h504 := ha499.fx 6 h488
    have h505 := ha499.fx 7 h489
    have h506 := ha499.ge 1 59 rfl
    have hb507 := hb492.new_ hn498
    have hb508 := hb493.new_ hn498
    have hb509 := hb494.new_ hn498
    have hN510 := hN495.transNew hn498
    clear hs484 hd485 h486 h487 h488 h489 h490 h491 hb492 hb493 hb494 hN495 ha499 hn498
    obtain ⟨w511, -, hst512, hb513, hu514, hf515⟩ := s_two (v0 := iv ((signedR false ((belowB (asM a)) != (belowB (asM b)))).k)) (v1 := iv ((signedR false ((belowB (asM a)) != (belowB (asM b)))).n)) Tryd.sizeOf23 rfl rfl rfl hb507
    refine st_act rfl rfl fun K516 hL517 => a_store' rfl h502 h506 hst512 (hL517 _ _ trivial ?_)
    have hb518 := hf515 _ _ _ (fun h => hne46 h.symm) hb508
    have hb519 := hf515 _ _ _ (fun h => hne47 h.symm) hb509
    have hN520 := hN510.trans hu514 (fun k hk hkb => by subst hkb; omega)
    clear hb507 hst512 K516 hL517 hN510 hb508 hb509 hu514 hf515
    refine st_take rfl rfl (y_assign (v := .bool true) rfl rfl) rfl ?_
    obtain ⟨a521, ha522⟩ : ∃ a', a' = a496.put (some 5) (.bool true) := ⟨_, rfl⟩
    have hs523 : a521.tmps.size = 67 := by rw [ha522, put_size]; exact hs500
    have hd524 : a521.defers = [] := by rw [ha522, put_defers]; exact hd501
    have h525 : a521.eval (.tmp 4) = pv q16 := by rw [ha522, put_ne _ _ _ _ (by decide)]; exact h502
    have h526 : a521.eval (.tmp 6) = pv q37 := by rw [ha522, put_ne _ _ _ _ (by decide)]; exact h504
    have h527 : a521.eval (.tmp 7) = pv q41 := by rw [ha522, put_ne _ _ _ _ (by decide)]; exact h505
    have h528 : a521.eval (.tmp 59) = nv (signedR false ((belowB (asM a)) != (belowB (asM b)))) := by rw [ha522, put_ne _ _ _ _ (by decide)]; exact h506
    have h529 : a521.eval (.tmp 5) = .bool true := by rw [ha522]; exact put_same _ _ _ (by rw [hs500]; decide)
    show stepsTo _ _ _ _ _ (a496.put (some 5) (.bool true)) _
    rw [← ha522]
    clear ha522 hs500 hd501 h502 h503 h504 h505 h506
    refine st_nil ?_
    clear h528
    refine hK _ _ ?_
    clear hK K
    refine wp_ret (ret_k hd524 (v := .tuple #[nv (signedR false ((belowB (asM a)) != (belowB (asM b)))), .bool true]) (res_ct rfl h525 h529 (l_two Tryd.isAgg23 Tryd.sizeOf23 hb513)) ?_)
    refine ⟨?_, hN520⟩
    show Ending.returned (.tuple #[nv (signedR false ((belowB (asM a)) != (belowB (asM b)))), .bool true]) = Ending.returned (.tuple #[nv ((rMulM a b).1), .bool ((rMulM a b).2)])
    first | rfl | (simp [rMulM, ht86, ht137, ht188, ht410, ht427])
  refine wp_g0 [true, true, true, true, true, true, true, true, true, true, true, true, true, true, true, true, true, true, true, true, true, true, true] [] 67
    [ve (nv (asM a)),
     ve (.bool false),
     ve (.bool false),
     ve (nv (asM b)),
     ve (.bool false),
     ve (.bool false),
     ve (.bool false),
     ve (nv (asM a)),
     ve (.bool false),
     ve (.bool false),
     ve undef,
     ve undef,
     ve (.bool false),
     ve (.bool false),
     ve (.bool false),
     ve (nv (asM a)),
     ve (.bool false),
     ve (.bool false),
     ve undef,
     ve undef,
     ve (.bool false),
     ve (.bool false),
     ve (.bool false)] hs75 (.eq (.eq (.eq (.eq (.eq (.eq (.eq (.eq (.eq (.eq (.eq (.eq (.eq (.eq (.eq (.eq (.eq (.eq (.eq (.eq (.eq (.eq (.eq (.nil)))))))))))))))))))))))) ?_ ?_
  · skip
    refine .o1 (tk rfl rfl fun _ w hn k => ⟨_, v_load rfl (k.fx 6 h79) (l_two Tryd.isAgg23 Tryd.sizeOf23 (hb83.new_ hn)), rfl⟩) ?_
    refine .o1 (ck rfl rfl rfl (fun _ w hn k => ⟨#[nv (asM a)], args1 (k.eq1 0 19 rfl), fun _ => by kernel_rfl, rnan_c (asM a) _⟩) fun _ => congrArg Value.bool ht86) ?_
    refine .o1 (tk rfl rfl fun _ w hn k => ⟨_, v_move rfl (k.eq1 1 20 rfl), rfl⟩) ?_
    refine .o1 (tg rfl rfl rfl (fun _ _ k => k.eq1 2 21 rfl) fun _ w hn k => ⟨_, v_load rfl (k.fx 7 h80) (l_two Tryd.isAgg23 Tryd.sizeOf23 (hb84.new_ hn)), rfl⟩) ?_
    refine .o1 (cg rfl rfl rfl (fun _ _ k => k.eq1 2 21 rfl) rfl (fun _ w hn k => ⟨#[nv (asM b)], args1 (k.eq1 3 22 rfl), fun _ => by kernel_rfl, rnan_c (asM b) _⟩) fun _ => congrArg Value.bool ht137) ?_
    refine .o1 (tk rfl rfl fun _ w hn k => ⟨_, v_pickF rfl (k.eq1 2 21 rfl) (k.eq1 4 23 rfl), rfl⟩) ?_
    refine .o1 (tk rfl rfl fun _ w hn k => ⟨_, v_move rfl (k.eq1 5 24 rfl), rfl⟩) ?_
    refine .o1 (tg rfl rfl rfl (fun _ _ k => k.eq1 6 25 rfl) fun _ w hn k => ⟨_, v_load rfl (k.fx 6 h79) (l_two Tryd.isAgg23 Tryd.sizeOf23 (hb83.new_ hn)), rfl⟩) ?_
    refine .o1 (cg rfl rfl rfl (fun _ _ k => k.eq1 6 25 rfl) rfl (fun _ w hn k => ⟨#[nv (asM a)], args1 (k.eq1 7 26 rfl), fun _ => by kernel_rfl, rinf_c (asM a) _⟩) fun _ => congrArg Value.bool ht188) ?_
    refine .o1 (tg rfl rfl rfl (fun _ _ k => k.eq1 6 25 rfl) fun _ w hn k => ⟨_, v_move rfl (k.eq1 8 27 rfl), rfl⟩) ?_
    refine .o1 (sk rfl rfl rfl (fun _ _ _ k => k.eq1 9 28 rfl) (fun _ => rfl)) ?_
    refine .o1 (sk rfl rfl rfl (fun _ _ _ k => k.eq1 9 28 rfl) (fun _ => rfl)) ?_
    refine .o1 (tg rfl rfl rfl (fun _ _ k => k.eq1 6 25 rfl) fun _ w hn k => ⟨_, v_pickF rfl (k.eq1 9 28 rfl) rfl, rfl⟩) ?_
    refine .o1 (tk rfl rfl fun _ w hn k => ⟨_, v_pickF rfl (k.eq1 6 25 rfl) (k.eq1 12 31 rfl), rfl⟩) ?_
    refine .o1 (tk rfl rfl fun _ w hn k => ⟨_, v_move rfl (k.eq1 13 32 rfl), rfl⟩) ?_
    refine .o1 (tg rfl rfl rfl (fun _ _ k => k.eq1 14 33 rfl) fun _ w hn k => ⟨_, v_load rfl (k.fx 6 h79) (l_two Tryd.isAgg23 Tryd.sizeOf23 (hb83.new_ hn)), rfl⟩) ?_
    refine .o1 (cg rfl rfl rfl (fun _ _ k => k.eq1 14 33 rfl) rfl (fun _ w hn k => ⟨#[nv (asM a)], args1 (k.eq1 15 34 rfl), fun _ => by kernel_rfl, rnought_c (asM a) _⟩) fun _ => congrArg Value.bool ht410) ?_
    refine .o1 (tg rfl rfl rfl (fun _ _ k => k.eq1 14 33 rfl) fun _ w hn k => ⟨_, v_move rfl (k.eq1 16 35 rfl), rfl⟩) ?_
    refine .o1 (sk rfl rfl rfl (fun _ _ _ k => k.eq1 17 36 rfl) (fun _ => rfl)) ?_
    refine .o1 (sk rfl rfl rfl (fun _ _ _ k => k.eq1 17 36 rfl) (fun _ => rfl)) ?_
    refine .o1 (tg rfl rfl rfl (fun _ _ k => k.eq1 14 33 rfl) fun _ w hn k => ⟨_, v_pickF rfl (k.eq1 17 36 rfl) rfl, rfl⟩) ?_
    refine .o1 (tk rfl rfl fun _ w hn k => ⟨_, v_pickF rfl (k.eq1 14 33 rfl) (k.eq1 20 39 rfl), rfl⟩) ?_
    refine .o1 (tk rfl rfl fun _ w hn k => ⟨_, v_assign rfl (k.eq1 21 40 rfl), rfl⟩) ?_
    exact .nil
  intro a530 w531 hn532 ha533
  have hs534 := ha533.size.trans hs75
  have hd535 := ha533.defers.trans hd76
  have h536 := ha533.fx 4 h77
  have h537 := ha533.fx 5 h78
  have h538 := ha533.fx 6 h79
  have h539 := ha533.fx 7 h80
  have h540 := ha533.fx 8 h81
  have h541 := ha533.ge 22 18 rfl
  have hb542 := hb82.new_ hn532
  have hb543 := hb83.new_ hn532
  have hb544 := hb84.new_ hn532
  have hN545 := hN85.transNew hn532
  clear hs75 hd76 h77 h78 h79 h80 h81 hb82 hb83 hb84 hN85 ha533 hn532
  refine st_nil ?_
  refine hK _ _ ?_
  clear hK K
  refine wp_cond_false h541 ?_
  refine wp_seq_k fun K hK => ?_
  refine wp_g0 [true, true, true, true, true, true, true] [] 67
    [ve (nv (asM a)),
     ve (.bool false),
     ve (.bool false),
     ve (nv (asM b)),
     ve (.bool (infB ((asM b).k))),
     ve (.bool (infB ((asM b).k))),
     ve (.bool (infB ((asM b).k)))] hs534 (.eq (.eq (.eq (.eq (.eq (.eq (.eq (.nil)))))))) ?_ ?_
  · skip
    refine .o1 (tk rfl rfl fun _ w hn k => ⟨_, v_load rfl (k.fx 6 h538) (l_two Tryd.isAgg23 Tryd.sizeOf23 (hb543.new_ hn)), rfl⟩) ?_
    refine .o1 (ck rfl rfl rfl (fun _ w hn k => ⟨#[nv (asM a)], args1 (k.eq1 0 43 rfl), fun _ => by kernel_rfl, rinf_c (asM a) _⟩) fun _ => congrArg Value.bool ht188) ?_
    refine .o1 (tk rfl rfl fun _ w hn k => ⟨_, v_move rfl (k.eq1 1 44 rfl), rfl⟩) ?_
    refine .o1 (tg rfl rfl rfl (fun _ _ k => k.eq1 2 45 rfl) fun _ w hn k => ⟨_, v_load rfl (k.fx 7 h539) (l_two Tryd.isAgg23 Tryd.sizeOf23 (hb544.new_ hn)), rfl⟩) ?_
    refine .o1 (cg rfl rfl rfl (fun _ _ k => k.eq1 2 45 rfl) rfl (fun _ w hn k => ⟨#[nv (asM b)], args1 (k.eq1 3 46 rfl), fun _ => by kernel_rfl, rinf_c (asM b) _⟩) fun _ => rfl) ?_
    refine .o1 (tk rfl rfl fun _ w hn k => ⟨_, v_pickF rfl (k.eq1 2 45 rfl) (k.eq1 4 47 rfl), rfl⟩) ?_
    refine .o1 (tk rfl rfl fun _ w hn k => ⟨_, v_assign rfl (k.eq1 5 48 rfl), rfl⟩) ?_
    exact .nil
  intro a546 w547 hn548 ha549
  have hs550 := ha549.size.trans hs534
  have hd551 := ha549.defers.trans hd535
  have h552 := ha549.fx 4 h536
  have h553 := ha549.fx 5 h537
  have h554 := ha549.fx 6 h538
  have h555 := ha549.fx 7 h539
  have h556 := ha549.fx 8 h540
  have h557 := ha549.ge 6 42 rfl
  have hb558 := hb542.new_ hn548
  have hb559 := hb543.new_ hn548
  have hb560 := hb544.new_ hn548
  have hN561 := hN545.transNew hn548
  clear hs534 hd535 h536 h537 h538 h539 h540 h541 hb542 hb543 hb544 hN545 ha549 hn548
  refine st_nil ?_
  refine hK _ _ ?_
  clear hK K
  rcases Bool.eq_false_or_eq_true (infB ((asM b).k)) with ht562 | ht562
  · skip
    have hv563 : a546.eval (.tmp 42) = .bool true := h557.trans (congrArg Value.bool ht562)
    clear h557
    refine wp_cond_true hv563 ?_
    refine wp_seq_k fun K hK => ?_
    refine wp_g0 [true, true, false, false] [(2, false), (3, true)] 67
      [ve (.bool ((belowB (asM a)) != (belowB (asM b)))),
       ve (nv (signedR true ((belowB (asM a)) != (belowB (asM b))))),
       vt,
       vt] hs550 (.eq (.eq (.tt (.tt (.nil))))) ?_ ?_
    · skip
      refine .o1 (tk rfl rfl fun _ w hn k => ⟨_, v_move rfl (k.fx 8 h556), rfl⟩) ?_
      refine .o1 (ck rfl rfl rfl (fun _ w hn k => ⟨#[.bool true, .bool ((belowB (asM a)) != (belowB (asM b)))], args2 rfl (k.eq1 0 49 rfl), fun _ => by kernel_rfl, rsigned_c true ((belowB (asM a)) != (belowB (asM b))) _⟩) fun _ => rfl) ?_
      refine .off ?_
      refine .off ?_
      exact .nil
    intro a564 w565 hn566 ha567
    have hs568 := ha567.size.trans hs550
    have hd569 := ha567.defers.trans hd551
    have h570 := ha567.fx 4 h552
    have h571 := ha567.fx 5 h553
    have h572 := ha567.fx 6 h554
    have h573 := ha567.fx 7 h555
    have h574 := ha567.ge 1 50 rfl
    have hb575 := hb558.new_ hn566
    have hb576 := hb559.new_ hn566
    have hb577 := hb560.new_ hn566
    have hN578 := hN561.transNew hn566
    clear hs550 hd551 h552 h553 h554 h555 h556 hv563 hb558 hb559 hb560 hN561 ha567 hn566
    obtain ⟨w579, -, hst580, hb581, hu582, hf583⟩ := s_two (v0 := iv ((signedR true ((belowB (asM a)) != (belowB (asM b)))).k)) (v1 := iv ((signedR true ((belowB (asM a)) != (belowB (asM b)))).n)) Tryd.sizeOf23 rfl rfl rfl hb575
    refine st_act rfl rfl fun K584 hL585 => a_store' rfl h570 h574 hst580 (hL585 _ _ trivial ?_)
    have hb586 := hf583 _ _ _ (fun h => hne46 h.symm) hb576
    have hb587 := hf583 _ _ _ (fun h => hne47 h.symm) hb577
    have hN588 := hN578.trans hu582 (fun k hk hkb => by subst hkb; omega)
    clear hb575 hst580 K584 hL585 hN578 hb576 hb577 hu582 hf583
    refine st_take rfl rfl (y_assign (v := .bool true) rfl rfl) rfl ?_
    obtain ⟨a589, ha590⟩ : ∃ a', a' = a564.put (some 5) (.bool true) := ⟨_, rfl⟩
    have hs591 : a589.tmps.size = 67 := by rw [ha590, put_size]; exact hs568
    have hd592 : a589.defers = [] := by rw [ha590, put_defers]; exact hd569
    have h593 : a589.eval (.tmp 4) = pv q16 := by rw [ha590, put_ne _ _ _ _ (by decide)]; exact h570
    have h594 : a589.eval (.tmp 6) = pv q37 := by rw [ha590, put_ne _ _ _ _ (by decide)]; exact h572
    have h595 : a589.eval (.tmp 7) = pv q41 := by rw [ha590, put_ne _ _ _ _ (by decide)]; exact h573
    have h596 : a589.eval (.tmp 50) = nv (signedR true ((belowB (asM a)) != (belowB (asM b)))) := by rw [ha590, put_ne _ _ _ _ (by decide)]; exact h574
    have h597 : a589.eval (.tmp 5) = .bool true := by rw [ha590]; exact put_same _ _ _ (by rw [hs568]; decide)
    show stepsTo _ _ _ _ _ (a564.put (some 5) (.bool true)) _
    rw [← ha590]
    clear ha590 hs568 hd569 h570 h571 h572 h573 h574
    refine st_nil ?_
    clear h596
    refine hK _ _ ?_
    clear hK K
    refine wp_ret (ret_k hd592 (v := .tuple #[nv (signedR true ((belowB (asM a)) != (belowB (asM b)))), .bool true]) (res_ct rfl h593 h597 (l_two Tryd.isAgg23 Tryd.sizeOf23 hb581)) ?_)
    refine ⟨?_, hN588⟩
    show Ending.returned (.tuple #[nv (signedR true ((belowB (asM a)) != (belowB (asM b)))), .bool true]) = Ending.returned (.tuple #[nv ((rMulM a b).1), .bool ((rMulM a b).2)])
    first | rfl | (simp [rMulM, ht86, ht137, ht188, ht410, ht562])
  have hv598 : a546.eval (.tmp 42) = .bool false := h557.trans (congrArg Value.bool ht562)
  clear h557
  refine wp_cond_false hv598 ?_
  refine wp_seq_k fun K hK => ?_
  refine wp_g0 [true, true, true, true, true, true, true] [] 67
    [ve (nv (asM a)),
     ve (.bool false),
     ve (.bool false),
     ve (nv (asM b)),
     ve (.bool (noughtB (asM b))),
     ve (.bool (noughtB (asM b))),
     ve (.bool (noughtB (asM b)))] hs550 (.eq (.eq (.eq (.eq (.eq (.eq (.eq (.nil)))))))) ?_ ?_
  · skip
    refine .o1 (tk rfl rfl fun _ w hn k => ⟨_, v_load rfl (k.fx 6 h554) (l_two Tryd.isAgg23 Tryd.sizeOf23 (hb559.new_ hn)), rfl⟩) ?_
    refine .o1 (ck rfl rfl rfl (fun _ w hn k => ⟨#[nv (asM a)], args1 (k.eq1 0 52 rfl), fun _ => by kernel_rfl, rnought_c (asM a) _⟩) fun _ => congrArg Value.bool ht410) ?_
    refine .o1 (tk rfl rfl fun _ w hn k => ⟨_, v_move rfl (k.eq1 1 53 rfl), rfl⟩) ?_
    refine .o1 (tg rfl rfl rfl (fun _ _ k => k.eq1 2 54 rfl) fun _ w hn k => ⟨_, v_load rfl (k.fx 7 h555) (l_two Tryd.isAgg23 Tryd.sizeOf23 (hb560.new_ hn)), rfl⟩) ?_
    refine .o1 (cg rfl rfl rfl (fun _ _ k => k.eq1 2 54 rfl) rfl (fun _ w hn k => ⟨#[nv (asM b)], args1 (k.eq1 3 55 rfl), fun _ => by kernel_rfl, rnought_c (asM b) _⟩) fun _ => rfl) ?_
    refine .o1 (tk rfl rfl fun _ w hn k => ⟨_, v_pickF rfl (k.eq1 2 54 rfl) (k.eq1 4 56 rfl), rfl⟩) ?_
    refine .o1 (tk rfl rfl fun _ w hn k => ⟨_, v_assign rfl (k.eq1 5 57 rfl), rfl⟩) ?_
    exact .nil
  intro a599 w600 hn601 ha602
  have hs603 := ha602.size.trans hs550
  have hd604 := ha602.defers.trans hd551
  have h605 := ha602.fx 4 h552
  have h606 := ha602.fx 5 h553
  have h607 := ha602.fx 6 h554
  have h608 := ha602.fx 7 h555
  have h609 := ha602.fx 8 h556
  have h610 := ha602.ge 6 51 rfl
  have hb611 := hb558.new_ hn601
  have hb612 := hb559.new_ hn601
  have hb613 := hb560.new_ hn601
  have hN614 := hN561.transNew hn601
  clear hs550 hd551 h552 h553 h554 h555 h556 hv598 hb558 hb559 hb560 hN561 ha602 hn601
  refine st_nil ?_
  refine hK _ _ ?_
  clear hK K
  rcases Bool.eq_false_or_eq_true (noughtB (asM b)) with ht615 | ht615
  · skip
    have hv616 : a599.eval (.tmp 51) = .bool true := h610.trans (congrArg Value.bool ht615)
    clear h610
    refine wp_cond_true hv616 ?_
    refine wp_seq_k fun K hK => ?_
    refine wp_g0 [true, true, false, false] [(2, false), (3, true)] 67
      [ve (.bool ((belowB (asM a)) != (belowB (asM b)))),
       ve (nv (signedR false ((belowB (asM a)) != (belowB (asM b))))),
       vt,
       vt] hs603 (.eq (.eq (.tt (.tt (.nil))))) ?_ ?_
    · skip
      refine .o1 (tk rfl rfl fun _ w hn k => ⟨_, v_move rfl (k.fx 8 h609), rfl⟩) ?_
      refine .o1 (ck rfl rfl rfl (fun _ w hn k => ⟨#[.bool false, .bool ((belowB (asM a)) != (belowB (asM b)))], args2 rfl (k.eq1 0 58 rfl), fun _ => by kernel_rfl, rsigned_c false ((belowB (asM a)) != (belowB (asM b))) _⟩) fun _ => rfl) ?_
      refine .off ?_
      refine .off ?_
      exact .nil
    intro a617 w618 hn619 ha620
    have hs621 := ha620.size.trans hs603
    have hd622 := ha620.defers.trans hd604
    have h623 := ha620.fx 4 h605
    have h624 := ha620.fx 5 h606
    have h625 := ha620.fx 6 h607
    have h626 := ha620.fx 7 h608
    have h627 := ha620.ge 1 59 rfl
    have hb628 := hb611.new_ hn619
    have hb629 := hb612.new_ hn619
    have hb630 := hb613.new_ hn619
    have hN631 := hN614.transNew hn619
    clear hs603 hd604 h605 h606 h607 h608 h609 hv616 hb611 hb612 hb613 hN614 ha620 hn619
    obtain ⟨w632, -, hst633, hb634, hu635, hf636⟩ := s_two (v0 := iv ((signedR false ((belowB (asM a)) != (belowB (asM b)))).k)) (v1 := iv ((signedR false ((belowB (asM a)) != (belowB (asM b)))).n)) Tryd.sizeOf23 rfl rfl rfl hb628
    refine st_act rfl rfl fun K637 hL638 => a_store' rfl h623 h627 hst633 (hL638 _ _ trivial ?_)
    have hb639 := hf636 _ _ _ (fun h => hne46 h.symm) hb629
    have hb640 := hf636 _ _ _ (fun h => hne47 h.symm) hb630
    have hN641 := hN631.trans hu635 (fun k hk hkb => by subst hkb; omega)
    clear hb628 hst633 K637 hL638 hN631 hb629 hb630 hu635 hf636
    refine st_take rfl rfl (y_assign (v := .bool true) rfl rfl) rfl ?_
    obtain ⟨a642, ha643⟩ : ∃ a', a' = a617.put (some 5) (.bool true) := ⟨_, rfl⟩
    have hs644 : a642.tmps.size = 67 := by rw [ha643, put_size]; exact hs621
    have hd645 : a642.defers = [] := by rw [ha643, put_defers]; exact hd622
    have h646 : a642.eval (.tmp 4) = pv q16 := by rw [ha643, put_ne _ _ _ _ (by decide)]; exact h623
    have h647 : a642.eval (.tmp 6) = pv q37 := by rw [ha643, put_ne _ _ _ _ (by decide)]; exact h625
    have h648 : a642.eval (.tmp 7) = pv q41 := by rw [ha643, put_ne _ _ _ _ (by decide)]; exact h626
    have h649 : a642.eval (.tmp 59) = nv (signedR false ((belowB (asM a)) != (belowB (asM b)))) := by rw [ha643, put_ne _ _ _ _ (by decide)]; exact h627
    have h650 : a642.eval (.tmp 5) = .bool true := by rw [ha643]; exact put_same _ _ _ (by rw [hs621]; decide)
    show stepsTo _ _ _ _ _ (a617.put (some 5) (.bool true)) _
    rw [← ha643]
    clear ha643 hs621 hd622 h623 h624 h625 h626 h627
    refine st_nil ?_
    clear h649
    refine hK _ _ ?_
    clear hK K
    refine wp_ret (ret_k hd645 (v := .tuple #[nv (signedR false ((belowB (asM a)) != (belowB (asM b)))), .bool true]) (res_ct rfl h646 h650 (l_two Tryd.isAgg23 Tryd.sizeOf23 hb634)) ?_)
    refine ⟨?_, hN641⟩
    show Ending.returned (.tuple #[nv (signedR false ((belowB (asM a)) != (belowB (asM b)))), .bool true]) = Ending.returned (.tuple #[nv ((rMulM a b).1), .bool ((rMulM a b).2)])
    first | rfl | (simp [rMulM, ht86, ht137, ht188, ht410, ht562, ht615])
  have hv651 : a599.eval (.tmp 51) = .bool false := h610.trans (congrArg Value.bool ht615)
  clear h610
  refine wp_cond_false hv651 ?_
  refine wp_skip ?_
  refine hK _ _ ?_
  clear hK K
  refine wp_seq_k fun K hK => ?_
  have hw_a := whole_of (a := a) ht86 ht188 ht410
  have hnz_a := hw_a.2
  have hw_b := whole_of (a := b) ht137 ht562 ht615
  have hnz_b := hw_b.2
  refine wp_g0 [true, true, true, true, true, true, true, false, false] [(7, false), (8, true)] 67
    [ve (.pointer (some ⟨q37, 1, none⟩)),
     ve (iv ((asM a).n)),
     ve (.pointer (some ⟨q41, 1, none⟩)),
     ve (iv ((asM b).n)),
     ve (.tuple #[nv ((productR ((asM a).n) ((asM b).n)).1), .bool ((productR ((asM a).n) ((asM b).n)).2)]),
     ve (nv ((productR ((asM a).n) ((asM b).n)).1)),
     ve (.bool ((productR ((asM a).n) ((asM b).n)).2)),
     vt,
     vt] hs603 (.eq (.eq (.eq (.eq (.eq (.eq (.eq (.tt (.tt (.nil)))))))))) ?_ ?_
  · skip
    refine .o1 (tk rfl rfl fun _ w hn k => ⟨_, v_field rfl (k.fx 6 h607) (fun w => rfl), rfl⟩) ?_
    refine .o1 (tk rfl rfl fun _ w hn k => ⟨_, v_load rfl (k.eq1 0 60 rfl) (l_one Tryd.isAgg3 ((hb612.new_ hn).cell 1)), rfl⟩) ?_
    refine .o1 (tk rfl rfl fun _ w hn k => ⟨_, v_field rfl (k.fx 7 h608) (fun w => rfl), rfl⟩) ?_
    refine .o1 (tk rfl rfl fun _ w hn k => ⟨_, v_load rfl (k.eq1 2 62 rfl) (l_one Tryd.isAgg3 ((hb613.new_ hn).cell 1)), rfl⟩) ?_
    refine .o1 (ck rfl rfl rfl (fun _ w hn k => ⟨#[iv ((asM a).n), iv ((asM b).n)], args2 (k.eq1 1 61 rfl) (k.eq1 3 63 rfl), fun _ => by kernel_rfl, product_c ((asM a).n) ((asM b).n) _ (by omega)⟩) fun _ => rfl) ?_
    refine .o1 (tk rfl rfl fun _ w hn k => ⟨_, v_extract rfl (k.eq1 4 64 rfl) rfl, rfl⟩) ?_
    refine .o1 (tk rfl rfl fun _ w hn k => ⟨_, v_extract rfl (k.eq1 4 64 rfl) rfl, rfl⟩) ?_
    refine .off ?_
    refine .off ?_
    exact .nil
  intro a652 w653 hn654 ha655
  have hs656 := ha655.size.trans hs603
  have hd657 := ha655.defers.trans hd604
  have h658 := ha655.fx 4 h605
  have h659 := ha655.fx 5 h606
  have h660 := ha655.ge 5 65 rfl
  have h661 := ha655.ge 6 66 rfl
  have hb662 := hb611.new_ hn654
  have hN663 := hN614.transNew hn654
  clear hs603 hd604 h605 h606 h607 h608 h609 hv651 hb611 hb612 hq48 hb613 hq49 hN614 ha655 hn654
  obtain ⟨w664, -, hst665, hb666, hu667, hf668⟩ := s_two (v0 := iv ((productR ((asM a).n) ((asM b).n)).1.k)) (v1 := iv ((productR ((asM a).n) ((asM b).n)).1.n)) Tryd.sizeOf23 rfl rfl rfl hb662
  refine st_act rfl rfl fun K669 hL670 => a_store' rfl h658 h660 hst665 (hL670 _ _ trivial ?_)
  have hN671 := hN663.trans hu667 (fun k hk hkb => by subst hkb; omega)
  clear hb662 hst665 K669 hL670 hN663 hu667 hf668
  refine st_take rfl rfl (y_assign (v := .bool ((productR ((asM a).n) ((asM b).n)).2)) rfl h661) rfl ?_
  obtain ⟨a672, ha673⟩ : ∃ a', a' = a652.put (some 5) (.bool ((productR ((asM a).n) ((asM b).n)).2)) := ⟨_, rfl⟩
  have hs674 : a672.tmps.size = 67 := by rw [ha673, put_size]; exact hs656
  have hd675 : a672.defers = [] := by rw [ha673, put_defers]; exact hd657
  have h676 : a672.eval (.tmp 4) = pv q16 := by rw [ha673, put_ne _ _ _ _ (by decide)]; exact h658
  have h677 : a672.eval (.tmp 65) = nv ((productR ((asM a).n) ((asM b).n)).1) := by rw [ha673, put_ne _ _ _ _ (by decide)]; exact h660
  have h678 : a672.eval (.tmp 66) = .bool ((productR ((asM a).n) ((asM b).n)).2) := by rw [ha673, put_ne _ _ _ _ (by decide)]; exact h661
  have h679 : a672.eval (.tmp 5) = .bool ((productR ((asM a).n) ((asM b).n)).2) := by rw [ha673]; exact put_same _ _ _ (by rw [hs656]; decide)
  show stepsTo _ _ _ _ _ (a652.put (some 5) (.bool ((productR ((asM a).n) ((asM b).n)).2))) _
  rw [← ha673]
  clear ha673 hs656 hd657 h658 h659 h660 h661
  refine st_nil ?_
  clear h677 h678
  refine hK _ _ ?_
  clear hK K
  refine wp_ret (ret_k hd675 (v := .tuple #[nv ((productR ((asM a).n) ((asM b).n)).1), .bool ((productR ((asM a).n) ((asM b).n)).2)]) (res_ct rfl h676 h679 (l_two Tryd.isAgg23 Tryd.sizeOf23 hb666)) ?_)
  refine ⟨?_, hN671⟩
  show Ending.returned (.tuple #[nv ((productR ((asM a).n) ((asM b).n)).1), .bool ((productR ((asM a).n) ((asM b).n)).2)]) = Ending.returned (.tuple #[nv ((rMulM a b).1), .bool ((rMulM a b).2)])
  first | rfl | (simp [rMulM, ht86, ht137, ht188, ht410, ht562, ht615])
set_option maxHeartbeats 8000000 in
set_option maxRecDepth 100000 in
theorem rdiv0_c (a : Nm) (b : Nm) (w : World) : Calls Tryd.prog 43 #[nv a, nv b] w (IsRet (.tuple #[nv ((rDivM a b).1), .bool ((rDivM a b).2)]) w) := by
  refine enter_abs Tryd.func43 rfl fun a0 hs0 hd0 hp => ?_
  have hs0 : a0.tmps.size = 76 := hs0
  have hN0 : New w w := Upd.refl _ _
  have hp0 : a0.eval (.tmp 0) = nv a := hp 0 _ rfl
  have hp1 : a0.eval (.tmp 1) = nv b := hp 1 _ rfl
  clear hp
  refine wp_seq_k fun K hK => ?_
  refine wp_g [true, true, true, true] [] [] 76
    [IsNew w 23 [iv a.k, iv a.n],
     IsNew w 23 [iv b.k, iv b.n],
     IsNew w 23 [iv 0, iv 0],
     ve (.bool false)]
    [0, 1, 2] (newsCons (fun v w h => IsNew.old h) (newsCons (fun v w h => IsNew.old h) (newsCons (fun v w h => IsNew.old h) newsNil))) hs0 (.nw (.nw (.nw (.eq (.nil))))) ?_ (fun i h => by cases h) ?_
  · skip
    refine .o2 (step_allocN (cs := [iv a.k, iv a.n]) (t := 23) rfl (noG rfl) (fun _ w hn k => v_box rfl (k.fx 0 hp0) (fun w => rfl)) (fun q _ hq hb => ⟨q, rfl, hq, hb⟩)) ?_
    refine .o2 (step_allocN (cs := [iv b.k, iv b.n]) (t := 23) rfl (noG rfl) (fun _ w hn k => v_box rfl (k.fx 1 hp1) (fun w => rfl)) (fun q _ hq hb => ⟨q, rfl, hq, hb⟩)) ?_
    refine .o2 (step_allocN (cs := [iv 0, iv 0]) (t := 23) rfl (noG rfl) (fun _ w hn k => rfl) (fun q _ hq hb => ⟨q, rfl, hq, hb⟩)) ?_
    refine .o1 (tk rfl rfl fun _ w hn k => ⟨_, v_assign rfl rfl, rfl⟩) ?_
    exact .nil
  intro a1 w2 hn3 ha4
  have hs5 := ha4.size.trans hs0
  have hd6 := ha4.defers.trans hd0
  obtain ⟨q8, h7, hq9, hb10⟩ : IsNew _ _ _ _ _ := ha4.got 0 2 rfl (by kernel_rfl)
  obtain ⟨q12, h11, hq13, hb14⟩ : IsNew _ _ _ _ _ := ha4.got 1 3 rfl (by kernel_rfl)
  obtain ⟨q16, h15, hq17, hb18⟩ : IsNew _ _ _ _ _ := ha4.got 2 4 rfl (by kernel_rfl)
  have h19 := ha4.ge 3 5 rfl
  have hne20 : q8 ≠ q16 := ha4.ne 0 2 2 4 h7 h15
  have hne21 : q12 ≠ q16 := ha4.ne 1 2 3 4 h11 h15
  have hq22 := Nat.le_trans hN0.size hq9
  have hq23 := Nat.le_trans hN0.size hq13
  have hq24 := Nat.le_trans hN0.size hq17
  have hN25 := hN0.transNew hn3
  clear hs0 hd0 hp0 hp1 hq9 hq13 hq17 hN0 ha4 hn3
  refine st_nil ?_
  refine hK _ _ ?_
  clear hK K
  refine wp_seq_k fun K hK => ?_
  refine wp_g [true, true, true, true, true, true, false, false] [] [(6, false), (7, false)] 76
    [ve (nv a),
     ve (nv (asM a)),
     ve (nv b),
     ve (nv (asM b)),
     IsNew w2 23 [iv 0, iv 0],
     IsNew w2 23 [iv 0, iv 0],
     vt,
     vt]
    [4, 5] (newsCons (fun v w h => IsNew.old h) (newsCons (fun v w h => IsNew.old h) newsNil)) hs5 (.eq (.eq (.eq (.eq (.nw (.nw (.tt (.tt (.nil))))))))) ?_ (fun i h => by cases h) ?_
  · skip
    refine .o1 (tk rfl rfl fun _ w hn k => ⟨_, v_load rfl (k.fx 2 h7) (l_two Tryd.isAgg23 Tryd.sizeOf23 (hb10.new_ hn)), rfl⟩) ?_
    refine .o1 (ck rfl rfl rfl (fun _ w hn k => ⟨#[nv a], args1 (k.eq1 0 9 rfl), fun _ => by kernel_rfl, good_c a _⟩) fun _ => rfl) ?_
    refine .o1 (tk rfl rfl fun _ w hn k => ⟨_, v_load rfl (k.fx 3 h11) (l_two Tryd.isAgg23 Tryd.sizeOf23 (hb14.new_ hn)), rfl⟩) ?_
    refine .o1 (ck rfl rfl rfl (fun _ w hn k => ⟨#[nv b], args1 (k.eq1 2 11 rfl), fun _ => by kernel_rfl, good_c b _⟩) fun _ => rfl) ?_
    refine .o2 (step_allocN (cs := [iv 0, iv 0]) (t := 23) rfl (noG rfl) (fun _ w hn k => rfl) (fun q _ hq hb => ⟨q, rfl, hq, hb⟩)) ?_
    refine .o2 (step_allocN (cs := [iv 0, iv 0]) (t := 23) rfl (noG rfl) (fun _ w hn k => rfl) (fun q _ hq hb => ⟨q, rfl, hq, hb⟩)) ?_
    refine .off ?_
    refine .off ?_
    exact .nil
  intro a26 w27 hn28 ha29
  have hs30 := ha29.size.trans hs5
  have hd31 := ha29.defers.trans hd6
  have h32 := ha29.fx 4 h15
  have h33 := ha29.fx 5 h19
  have h34 := ha29.ge 1 10 rfl
  have h35 := ha29.ge 3 12 rfl
  obtain ⟨q37, h36, hq38, hb39⟩ : IsNew _ _ _ _ _ := ha29.got 4 6 rfl (by kernel_rfl)
  obtain ⟨q41, h40, hq42, hb43⟩ : IsNew _ _ _ _ _ := ha29.got 5 7 rfl (by kernel_rfl)
  have hb44 := hb18.new_ hn28
  have hne45 : q37 ≠ q41 := ha29.ne 4 5 6 7 h36 h40
  have hne46 : q16 ≠ q37 := by have h1 := hb18.lt; have h2 := hq38; omega
  have hne47 : q16 ≠ q41 := by have h1 := hb18.lt; have h2 := hq42; omega
  have hq48 := Nat.le_trans hN25.size hq38
  have hq49 := Nat.le_trans hN25.size hq42
  have hN50 := hN25.transNew hn28
  clear hs5 hd6 h7 h11 h15 h19 hb10 hq22 hb14 hq23 hb18 hq38 hq42 hN25 ha29 hn28
  have hbd_a := as_bd a
  have hbd_b := as_bd b
  obtain ⟨w51, -, hst52, hb53, hu54, hf55⟩ := s_two (v0 := iv ((asM a).k)) (v1 := iv ((asM a).n)) Tryd.sizeOf23 rfl rfl rfl hb39
  refine st_act rfl rfl fun K56 hL57 => a_store' rfl h36 h34 hst52 (hL57 _ _ trivial ?_)
  have hb58 := hf55 _ _ _ (hne46) hb44
  have hb59 := hf55 _ _ _ (fun h => hne45 h.symm) hb43
  have hN60 := hN50.trans hu54 (fun k hk hkb => by subst hkb; omega)
  clear hb39 hst52 K56 hL57 hN50 hb44 hb43 hu54 hf55
  obtain ⟨w61, -, hst62, hb63, hu64, hf65⟩ := s_two (v0 := iv ((asM b).k)) (v1 := iv ((asM b).n)) Tryd.sizeOf23 rfl rfl rfl hb59
  refine st_act rfl rfl fun K66 hL67 => a_store' rfl h40 h35 hst62 (hL67 _ _ trivial ?_)
  have hb68 := hf65 _ _ _ (hne47) hb58
  have hb69 := hf65 _ _ _ (hne45) hb53
  have hN70 := hN60.trans hu64 (fun k hk hkb => by subst hkb; omega)
  clear hb59 hst62 K66 hL67 hN60 hb58 hb53 hu64 hf65
  clear hne45
  refine st_nil ?_
  clear h34 h35
  refine hK _ _ ?_
  clear hK K
  refine wp_seq_k fun K hK => ?_
  refine wp_g0 [true, true, true, true, true, true] [] 76
    [ve (nv (asM a)),
     ve (.bool (belowB (asM a))),
     ve (nv (asM b)),
     ve (.bool (belowB (asM b))),
     ve (.bool ((belowB (asM a)) != (belowB (asM b)))),
     ve (.bool ((belowB (asM a)) != (belowB (asM b))))] hs30 (.eq (.eq (.eq (.eq (.eq (.eq (.nil))))))) ?_ ?_
  · skip
    refine .o1 (tk rfl rfl fun _ w hn k => ⟨_, v_load rfl (k.fx 6 h36) (l_two Tryd.isAgg23 Tryd.sizeOf23 (hb69.new_ hn)), rfl⟩) ?_
    refine .o1 (ck rfl rfl rfl (fun _ w hn k => ⟨#[nv (asM a)], args1 (k.eq1 0 13 rfl), fun _ => by kernel_rfl, rbelow_c (asM a) _⟩) fun _ => rfl) ?_
    refine .o1 (tk rfl rfl fun _ w hn k => ⟨_, v_load rfl (k.fx 7 h40) (l_two Tryd.isAgg23 Tryd.sizeOf23 (hb63.new_ hn)), rfl⟩) ?_
    refine .o1 (ck rfl rfl rfl (fun _ w hn k => ⟨#[nv (asM b)], args1 (k.eq1 2 15 rfl), fun _ => by kernel_rfl, rbelow_c (asM b) _⟩) fun _ => rfl) ?_
    refine .o1 (tk rfl rfl fun _ w hn k => ⟨_, v_bin rfl (k.eq1 1 14 rfl) (k.eq1 3 16 rfl) (fun _ => rfl) (r_neqB _ _), rfl⟩) ?_
    refine .o1 (tk rfl rfl fun _ w hn k => ⟨_, v_assign rfl (k.eq1 4 17 rfl), rfl⟩) ?_
    exact .nil
  intro a71 w72 hn73 ha74
  have hs75 := ha74.size.trans hs30
  have hd76 := ha74.defers.trans hd31
  have h77 := ha74.fx 4 h32
  have h78 := ha74.fx 5 h33
  have h79 := ha74.fx 6 h36
  have h80 := ha74.fx 7 h40
  have h81 := ha74.ge 5 8 rfl
  have hb82 := hb68.new_ hn73
  have hb83 := hb69.new_ hn73
  have hb84 := hb63.new_ hn73
  have hN85 := hN70.transNew hn73
  clear hs30 hd31 h32 h33 h36 h40 hb68 hb69 hb63 hN70 ha74 hn73
  refine st_nil ?_
  refine hK _ _ ?_
  clear hK K
  refine wp_seq_k fun K hK => ?_
  refine wp_block ?_
  refine wp_seq_k fun K hK => ?_
  rcases Bool.eq_false_or_eq_true (decide (((asM a).k) = 2)) with ht86 | ht86
  · skip
    have ht86d := of_decide_eq_true ht86
    refine wp_g0 [true, true, true, true, true, true, true, true, true, true, true, true, true, true, true, true, true, true, true, true, true, true, true] [] 76
      [ve (nv (asM a)),
       ve (.bool true),
       ve (.bool true),
       ve undef,
       ve undef,
       ve (.bool true),
       ve (.bool true),
       ve undef,
       ve undef,
       ve undef,
       ve undef,
       ve undef,
       ve undef,
       ve (.bool true),
       ve (.bool true),
       ve undef,
       ve undef,
       ve undef,
       ve undef,
       ve undef,
       ve undef,
       ve (.bool true),
       ve (.bool true)] hs75 (.eq (.eq (.eq (.eq (.eq (.eq (.eq (.eq (.eq (.eq (.eq (.eq (.eq (.eq (.eq (.eq (.eq (.eq (.eq (.eq (.eq (.eq (.eq (.nil)))))))))))))))))))))))) ?_ ?_
    · skip
      refine .o1 (tk rfl rfl fun _ w hn k => ⟨_, v_load rfl (k.fx 6 h79) (l_two Tryd.isAgg23 Tryd.sizeOf23 (hb83.new_ hn)), rfl⟩) ?_
      refine .o1 (ck rfl rfl rfl (fun _ w hn k => ⟨#[nv (asM a)], args1 (k.eq1 0 19 rfl), fun _ => by kernel_rfl, rnan_c (asM a) _⟩) fun _ => congrArg Value.bool ht86) ?_
      refine .o1 (tk rfl rfl fun _ w hn k => ⟨_, v_move rfl (k.eq1 1 20 rfl), rfl⟩) ?_
      refine .o1 (sk rfl rfl rfl (fun _ _ _ k => k.eq1 2 21 rfl) (fun _ => rfl)) ?_
      refine .o1 (sk rfl rfl rfl (fun _ _ _ k => k.eq1 2 21 rfl) (fun _ => rfl)) ?_
      refine .o1 (tk rfl rfl fun _ w hn k => ⟨_, v_pickT rfl (k.eq1 2 21 rfl) rfl, rfl⟩) ?_
      refine .o1 (tk rfl rfl fun _ w hn k => ⟨_, v_move rfl (k.eq1 5 24 rfl), rfl⟩) ?_
      refine .o1 (sk rfl rfl rfl (fun _ _ _ k => k.eq1 6 25 rfl) (fun _ => rfl)) ?_
      refine .o1 (sk rfl rfl rfl (fun _ _ _ k => k.eq1 6 25 rfl) (fun _ => rfl)) ?_
      refine .o1 (sk rfl rfl rfl (fun _ _ _ k => k.eq1 6 25 rfl) (fun _ => rfl)) ?_
      refine .o1 (su rfl rfl rfl (fun _ _ _ k => k.eq1 9 28 rfl) (fun _ => rfl)) ?_
      refine .o1 (su rfl rfl rfl (fun _ _ _ k => k.eq1 9 28 rfl) (fun _ => rfl)) ?_
      refine .o1 (sk rfl rfl rfl (fun _ _ _ k => k.eq1 6 25 rfl) (fun _ => rfl)) ?_
      refine .o1 (tk rfl rfl fun _ w hn k => ⟨_, v_pickT rfl (k.eq1 6 25 rfl) rfl, rfl⟩) ?_
      refine .o1 (tk rfl rfl fun _ w hn k => ⟨_, v_move rfl (k.eq1 13 32 rfl), rfl⟩) ?_
      refine .o1 (sk rfl rfl rfl (fun _ _ _ k => k.eq1 14 33 rfl) (fun _ => rfl)) ?_
      refine .o1 (sk rfl rfl rfl (fun _ _ _ k => k.eq1 14 33 rfl) (fun _ => rfl)) ?_
      refine .o1 (sk rfl rfl rfl (fun _ _ _ k => k.eq1 14 33 rfl) (fun _ => rfl)) ?_
      refine .o1 (su rfl rfl rfl (fun _ _ _ k => k.eq1 17 36 rfl) (fun _ => rfl)) ?_
      refine .o1 (su rfl rfl rfl (fun _ _ _ k => k.eq1 17 36 rfl) (fun _ => rfl)) ?_
      refine .o1 (sk rfl rfl rfl (fun _ _ _ k => k.eq1 14 33 rfl) (fun _ => rfl)) ?_
      refine .o1 (tk rfl rfl fun _ w hn k => ⟨_, v_pickT rfl (k.eq1 14 33 rfl) rfl, rfl⟩) ?_
      refine .o1 (tk rfl rfl fun _ w hn k => ⟨_, v_assign rfl (k.eq1 21 40 rfl), rfl⟩) ?_
      exact .nil
    intro a87 w88 hn89 ha90
    have hs91 := ha90.size.trans hs75
    have hd92 := ha90.defers.trans hd76
    have h93 := ha90.fx 4 h77
    have h94 := ha90.fx 5 h78
    have h95 := ha90.fx 6 h79
    have h96 := ha90.fx 7 h80
    have h97 := ha90.fx 8 h81
    have h98 := ha90.ge 22 18 rfl
    have hb99 := hb82.new_ hn89
    have hb100 := hb83.new_ hn89
    have hb101 := hb84.new_ hn89
    have hN102 := hN85.transNew hn89
    clear hs75 hd76 h77 h78 h79 h80 h81 hb82 hb83 hb84 hN85 ha90 hn89
    refine st_nil ?_
    refine hK _ _ ?_
    clear hK K
    refine wp_cond_true h98 ?_
    refine wp_seq_k fun K hK => ?_
    refine wp_g0 [true, false, false] [(1, false), (2, true)] 76
      [ve (nv (Nm.mk 2 0)),
       vt,
       vt] hs91 (.eq (.tt (.tt (.nil)))) ?_ ?_
    · skip
      refine .o1 (ck rfl rfl rfl (fun _ w hn k => ⟨#[], rfl, fun _ => by kernel_rfl, rNaN_c  _⟩) fun _ => rfl) ?_
      refine .off ?_
      refine .off ?_
      exact .nil
    intro a103 w104 hn105 ha106
    have hs107 := ha106.size.trans hs91
    have hd108 := ha106.defers.trans hd92
    have h109 := ha106.fx 4 h93
    have h110 := ha106.fx 5 h94
    have h111 := ha106.fx 6 h95
    have h112 := ha106.fx 7 h96
    have h113 := ha106.ge 0 41 rfl
    have hb114 := hb99.new_ hn105
    have hb115 := hb100.new_ hn105
    have hb116 := hb101.new_ hn105
    have hN117 := hN102.transNew hn105
    clear hs91 hd92 h93 h94 h95 h96 h97 h98 hb99 hb100 hb101 hN102 ha106 hn105
    obtain ⟨w118, -, hst119, hb120, hu121, hf122⟩ := s_two (v0 := iv 2) (v1 := iv 0) Tryd.sizeOf23 rfl rfl rfl hb114
    refine st_act rfl rfl fun K123 hL124 => a_store' rfl h109 h113 hst119 (hL124 _ _ trivial ?_)
    have hb125 := hf122 _ _ _ (fun h => hne46 h.symm) hb115
    have hb126 := hf122 _ _ _ (fun h => hne47 h.symm) hb116
    have hN127 := hN117.trans hu121 (fun k hk hkb => by subst hkb; omega)
    clear hb114 hst119 K123 hL124 hN117 hb115 hb116 hu121 hf122
    refine st_take rfl rfl (y_assign (v := .bool true) rfl rfl) rfl ?_
    obtain ⟨a128, ha129⟩ : ∃ a', a' = a103.put (some 5) (.bool true) := ⟨_, rfl⟩
    have hs130 : a128.tmps.size = 76 := by rw [ha129, put_size]; exact hs107
    have hd131 : a128.defers = [] := by rw [ha129, put_defers]; exact hd108
    have h132 : a128.eval (.tmp 4) = pv q16 := by rw [ha129, put_ne _ _ _ _ (by decide)]; exact h109
    have h133 : a128.eval (.tmp 6) = pv q37 := by rw [ha129, put_ne _ _ _ _ (by decide)]; exact h111
    have h134 : a128.eval (.tmp 7) = pv q41 := by rw [ha129, put_ne _ _ _ _ (by decide)]; exact h112
    have h135 : a128.eval (.tmp 41) = nv (Nm.mk 2 0) := by rw [ha129, put_ne _ _ _ _ (by decide)]; exact h113
    have h136 : a128.eval (.tmp 5) = .bool true := by rw [ha129]; exact put_same _ _ _ (by rw [hs107]; decide)
    show stepsTo _ _ _ _ _ (a103.put (some 5) (.bool true)) _
    rw [← ha129]
    clear ha129 hs107 hd108 h109 h110 h111 h112 h113
    refine st_nil ?_
    clear h135
    refine hK _ _ ?_
    clear hK K
    refine wp_ret (ret_k hd131 (v := .tuple #[nv (Nm.mk 2 0), .bool true]) (res_ct rfl h132 h136 (l_two Tryd.isAgg23 Tryd.sizeOf23 hb120)) ?_)
    refine ⟨?_, hN127⟩
    show Ending.returned (.tuple #[nv (Nm.mk 2 0), .bool true]) = Ending.returned (.tuple #[nv ((rDivM a b).1), .bool ((rDivM a b).2)])
    first | rfl | (simp [rDivM, ht86])
  have ht86d := of_decide_eq_false ht86
  rcases Bool.eq_false_or_eq_true (decide (((asM b).k) = 2)) with ht137 | ht137
  · skip
    have ht137d := of_decide_eq_true ht137
    refine wp_g0 [true, true, true, true, true, true, true, true, true, true, true, true, true, true, true, true, true, true, true, true, true, true, true] [] 76
      [ve (nv (asM a)),
       ve (.bool false),
       ve (.bool false),
       ve (nv (asM b)),
       ve (.bool true),
       ve (.bool true),
       ve (.bool true),
       ve undef,
       ve undef,
       ve undef,
       ve undef,
       ve undef,
       ve undef,
       ve (.bool true),
       ve (.bool true),
       ve undef,
       ve undef,
       ve undef,
       ve undef,
       ve undef,
       ve undef,
       ve (.bool true),
       ve (.bool true)] hs75 (.eq (.eq (.eq (.eq (.eq (.eq (.eq (.eq (.eq (.eq (.eq (.eq (.eq (.eq (.eq (.eq (.eq (.eq (.eq (.eq (.eq (.eq (.eq (.nil)))))))))))))))))))))))) ?_ ?_
    · skip
      refine .o1 (tk rfl rfl fun _ w hn k => ⟨_, v_load rfl (k.fx 6 h79) (l_two Tryd.isAgg23 Tryd.sizeOf23 (hb83.new_ hn)), rfl⟩) ?_
      refine .o1 (ck rfl rfl rfl (fun _ w hn k => ⟨#[nv (asM a)], args1 (k.eq1 0 19 rfl), fun _ => by kernel_rfl, rnan_c (asM a) _⟩) fun _ => congrArg Value.bool ht86) ?_
      refine .o1 (tk rfl rfl fun _ w hn k => ⟨_, v_move rfl (k.eq1 1 20 rfl), rfl⟩) ?_
      refine .o1 (tg rfl rfl rfl (fun _ _ k => k.eq1 2 21 rfl) fun _ w hn k => ⟨_, v_load rfl (k.fx 7 h80) (l_two Tryd.isAgg23 Tryd.sizeOf23 (hb84.new_ hn)), rfl⟩) ?_
      refine .o1 (cg rfl rfl rfl (fun _ _ k => k.eq1 2 21 rfl) rfl (fun _ w hn k => ⟨#[nv (asM b)], args1 (k.eq1 3 22 rfl), fun _ => by kernel_rfl, rnan_c (asM b) _⟩) fun _ => congrArg Value.bool ht137) ?_
      refine .o1 (tk rfl rfl fun _ w hn k => ⟨_, v_pickF rfl (k.eq1 2 21 rfl) (k.eq1 4 23 rfl), rfl⟩) ?_
      refine .o1 (tk rfl rfl fun _ w hn k => ⟨_, v_move rfl (k.eq1 5 24 rfl), rfl⟩) ?_
      refine .o1 (sk rfl rfl rfl (fun _ _ _ k => k.eq1 6 25 rfl) (fun _ => rfl)) ?_
      refine .o1 (sk rfl rfl rfl (fun _ _ _ k => k.eq1 6 25 rfl) (fun _ => rfl)) ?_
      refine .o1 (sk rfl rfl rfl (fun _ _ _ k => k.eq1 6 25 rfl) (fun _ => rfl)) ?_
      refine .o1 (su rfl rfl rfl (fun _ _ _ k => k.eq1 9 28 rfl) (fun _ => rfl)) ?_
      refine .o1 (su rfl rfl rfl (fun _ _ _ k => k.eq1 9 28 rfl) (fun _ => rfl)) ?_
      refine .o1 (sk rfl rfl rfl (fun _ _ _ k => k.eq1 6 25 rfl) (fun _ => rfl)) ?_
      refine .o1 (tk rfl rfl fun _ w hn k => ⟨_, v_pickT rfl (k.eq1 6 25 rfl) rfl, rfl⟩) ?_
      refine .o1 (tk rfl rfl fun _ w hn k => ⟨_, v_move rfl (k.eq1 13 32 rfl), rfl⟩) ?_
      refine .o1 (sk rfl rfl rfl (fun _ _ _ k => k.eq1 14 33 rfl) (fun _ => rfl)) ?_
      refine .o1 (sk rfl rfl rfl (fun _ _ _ k => k.eq1 14 33 rfl) (fun _ => rfl)) ?_
      refine .o1 (sk rfl rfl rfl (fun _ _ _ k => k.eq1 14 33 rfl) (fun _ => rfl)) ?_
      refine .o1 (su rfl rfl rfl (fun _ _ _ k => k.eq1 17 36 rfl) (fun _ => rfl)) ?_
      refine .o1 (su rfl rfl rfl (fun _ _ _ k => k.eq1 17 36 rfl) (fun _ => rfl)) ?_
      refine .o1 (sk rfl rfl rfl (fun _ _ _ k => k.eq1 14 33 rfl) (fun _ => rfl)) ?_
      refine .o1 (tk rfl rfl fun _ w hn k => ⟨_, v_pickT rfl (k.eq1 14 33 rfl) rfl, rfl⟩) ?_
      refine .o1 (tk rfl rfl fun _ w hn k => ⟨_, v_assign rfl (k.eq1 21 40 rfl), rfl⟩) ?_
      exact .nil
    intro a138 w139 hn140 ha141
    have hs142 := ha141.size.trans hs75
    have hd143 := ha141.defers.trans hd76
    have h144 := ha141.fx 4 h77
    have h145 := ha141.fx 5 h78
    have h146 := ha141.fx 6 h79
    have h147 := ha141.fx 7 h80
    have h148 := ha141.fx 8 h81
    have h149 := ha141.ge 22 18 rfl
    have hb150 := hb82.new_ hn140
    have hb151 := hb83.new_ hn140
    have hb152 := hb84.new_ hn140
    have hN153 := hN85.transNew hn140
    clear hs75 hd76 h77 h78 h79 h80 h81 hb82 hb83 hb84 hN85 ha141 hn140
    refine st_nil ?_
    refine hK _ _ ?_
    clear hK K
    refine wp_cond_true h149 ?_
    refine wp_seq_k fun K hK => ?_
    refine wp_g0 [true, false, false] [(1, false), (2, true)] 76
      [ve (nv (Nm.mk 2 0)),
       vt,
       vt] hs142 (.eq (.tt (.tt (.nil)))) ?_ ?_
    · skip
      refine .o1 (ck rfl rfl rfl (fun _ w hn k => ⟨#[], rfl, fun _ => by kernel_rfl, rNaN_c  _⟩) fun _ => rfl) ?_
      refine .off ?_
      refine .off ?_
      exact .nil
    intro a154 w155 hn156 ha157
    have hs158 := ha157.size.trans hs142
    have hd159 := ha157.defers.trans hd143
    have h160 := ha157.fx 4 h144
    have h161 := ha157.fx 5 h145
    have h162 := ha157.fx 6 h146
    have h163 := ha157.fx 7 h147
    have h164 := ha157.ge 0 41 rfl
    have hb165 := hb150.new_ hn156
    have hb166 := hb151.new_ hn156
    have hb167 := hb152.new_ hn156
    have hN168 := hN153.transNew hn156
    clear hs142 hd143 h144 h145 h146 h147 h148 h149 hb150 hb151 hb152 hN153 ha157 hn156
    obtain ⟨w169, -, hst170, hb171, hu172, hf173⟩ := s_two (v0 := iv 2) (v1 := iv 0) Tryd.sizeOf23 rfl rfl rfl hb165
    refine st_act rfl rfl fun K174 hL175 => a_store' rfl h160 h164 hst170 (hL175 _ _ trivial ?_)
    have hb176 := hf173 _ _ _ (fun h => hne46 h.symm) hb166
    have hb177 := hf173 _ _ _ (fun h => hne47 h.symm) hb167
    have hN178 := hN168.trans hu172 (fun k hk hkb => by subst hkb; omega)
    clear hb165 hst170 K174 hL175 hN168 hb166 hb167 hu172 hf173
    refine st_take rfl rfl (y_assign (v := .bool true) rfl rfl) rfl ?_
    obtain ⟨a179, ha180⟩ : ∃ a', a' = a154.put (some 5) (.bool true) := ⟨_, rfl⟩
    have hs181 : a179.tmps.size = 76 := by rw [ha180, put_size]; exact hs158
    have hd182 : a179.defers = [] := by rw [ha180, put_defers]; exact hd159
    have h183 : a179.eval (.tmp 4) = pv q16 := by rw [ha180, put_ne _ _ _ _ (by decide)]; exact h160
    have h184 : a179.eval (.tmp 6) = pv q37 := by rw [ha180, put_ne _ _ _ _ (by decide)]; exact h162
    have h185 : a179.eval (.tmp 7) = pv q41 := by rw [ha180, put_ne _ _ _ _ (by decide)]; exact h163
    have h186 : a179.eval (.tmp 41) = nv (Nm.mk 2 0) := by rw [ha180, put_ne _ _ _ _ (by decide)]; exact h164
    have h187 : a179.eval (.tmp 5) = .bool true := by rw [ha180]; exact put_same _ _ _ (by rw [hs158]; decide)
    show stepsTo _ _ _ _ _ (a154.put (some 5) (.bool true)) _
    rw [← ha180]
    clear ha180 hs158 hd159 h160 h161 h162 h163 h164
    refine st_nil ?_
    clear h186
    refine hK _ _ ?_
    clear hK K
    refine wp_ret (ret_k hd182 (v := .tuple #[nv (Nm.mk 2 0), .bool true]) (res_ct rfl h183 h187 (l_two Tryd.isAgg23 Tryd.sizeOf23 hb171)) ?_)
    refine ⟨?_, hN178⟩
    show Ending.returned (.tuple #[nv (Nm.mk 2 0), .bool true]) = Ending.returned (.tuple #[nv ((rDivM a b).1), .bool ((rDivM a b).2)])
    first | rfl | (simp [rDivM, ht86, ht137])
  have ht137d := of_decide_eq_false ht137
  rcases Bool.eq_false_or_eq_true (infB ((asM a).k)) with ht188 | ht188
  · skip
    rcases Bool.eq_false_or_eq_true (infB ((asM b).k)) with ht189 | ht189
    · skip
      refine wp_g0 [true, true, true, true, true, true, true, true, true, true, true, true, true, true, true, true, true, true, true, true, true, true, true] [] 76
        [ve (nv (asM a)),
         ve (.bool false),
         ve (.bool false),
         ve (nv (asM b)),
         ve (.bool false),
         ve (.bool false),
         ve (.bool false),
         ve (nv (asM a)),
         ve (.bool true),
         ve (.bool true),
         ve (nv (asM b)),
         ve (.bool true),
         ve (.bool true),
         ve (.bool true),
         ve (.bool true),
         ve undef,
         ve undef,
         ve undef,
         ve undef,
         ve undef,
         ve undef,
         ve (.bool true),
         ve (.bool true)] hs75 (.eq (.eq (.eq (.eq (.eq (.eq (.eq (.eq (.eq (.eq (.eq (.eq (.eq (.eq (.eq (.eq (.eq (.eq (.eq (.eq (.eq (.eq (.eq (.nil)))))))))))))))))))))))) ?_ ?_
      · skip
        refine .o1 (tk rfl rfl fun _ w hn k => ⟨_, v_load rfl (k.fx 6 h79) (l_two Tryd.isAgg23 Tryd.sizeOf23 (hb83.new_ hn)), rfl⟩) ?_
        refine .o1 (ck rfl rfl rfl (fun _ w hn k => ⟨#[nv (asM a)], args1 (k.eq1 0 19 rfl), fun _ => by kernel_rfl, rnan_c (asM a) _⟩) fun _ => congrArg Value.bool ht86) ?_
        refine .o1 (tk rfl rfl fun _ w hn k => ⟨_, v_move rfl (k.eq1 1 20 rfl), rfl⟩) ?_
        refine .o1 (tg rfl rfl rfl (fun _ _ k => k.eq1 2 21 rfl) fun _ w hn k => ⟨_, v_load rfl (k.fx 7 h80) (l_two Tryd.isAgg23 Tryd.sizeOf23 (hb84.new_ hn)), rfl⟩) ?_
        refine .o1 (cg rfl rfl rfl (fun _ _ k => k.eq1 2 21 rfl) rfl (fun _ w hn k => ⟨#[nv (asM b)], args1 (k.eq1 3 22 rfl), fun _ => by kernel_rfl, rnan_c (asM b) _⟩) fun _ => congrArg Value.bool ht137) ?_
        refine .o1 (tk rfl rfl fun _ w hn k => ⟨_, v_pickF rfl (k.eq1 2 21 rfl) (k.eq1 4 23 rfl), rfl⟩) ?_
        refine .o1 (tk rfl rfl fun _ w hn k => ⟨_, v_move rfl (k.eq1 5 24 rfl), rfl⟩) ?_
        refine .o1 (tg rfl rfl rfl (fun _ _ k => k.eq1 6 25 rfl) fun _ w hn k => ⟨_, v_load rfl (k.fx 6 h79) (l_two Tryd.isAgg23 Tryd.sizeOf23 (hb83.new_ hn)), rfl⟩) ?_
        refine .o1 (cg rfl rfl rfl (fun _ _ k => k.eq1 6 25 rfl) rfl (fun _ w hn k => ⟨#[nv (asM a)], args1 (k.eq1 7 26 rfl), fun _ => by kernel_rfl, rinf_c (asM a) _⟩) fun _ => congrArg Value.bool ht188) ?_
        refine .o1 (tg rfl rfl rfl (fun _ _ k => k.eq1 6 25 rfl) fun _ w hn k => ⟨_, v_move rfl (k.eq1 8 27 rfl), rfl⟩) ?_
        refine .o1 (tg rfl rfl rfl (fun _ _ k => k.eq1 9 28 rfl) fun _ w hn k => ⟨_, v_load rfl (k.fx 7 h80) (l_two Tryd.isAgg23 Tryd.sizeOf23 (hb84.new_ hn)), rfl⟩) ?_
        refine .o1 (cg rfl rfl rfl (fun _ _ k => k.eq1 9 28 rfl) rfl (fun _ w hn k => ⟨#[nv (asM b)], args1 (k.eq1 10 29 rfl), fun _ => by kernel_rfl, rinf_c (asM b) _⟩) fun _ => congrArg Value.bool ht189) ?_
        refine .o1 (tg rfl rfl rfl (fun _ _ k => k.eq1 6 25 rfl) fun _ w hn k => ⟨_, v_pickT rfl (k.eq1 9 28 rfl) (k.eq1 11 30 rfl), rfl⟩) ?_
        refine .o1 (tk rfl rfl fun _ w hn k => ⟨_, v_pickF rfl (k.eq1 6 25 rfl) (k.eq1 12 31 rfl), rfl⟩) ?_
        refine .o1 (tk rfl rfl fun _ w hn k => ⟨_, v_move rfl (k.eq1 13 32 rfl), rfl⟩) ?_
        refine .o1 (sk rfl rfl rfl (fun _ _ _ k => k.eq1 14 33 rfl) (fun _ => rfl)) ?_
        refine .o1 (sk rfl rfl rfl (fun _ _ _ k => k.eq1 14 33 rfl) (fun _ => rfl)) ?_
        refine .o1 (sk rfl rfl rfl (fun _ _ _ k => k.eq1 14 33 rfl) (fun _ => rfl)) ?_
        refine .o1 (su rfl rfl rfl (fun _ _ _ k => k.eq1 17 36 rfl) (fun _ => rfl)) ?_
        refine .o1 (su rfl rfl rfl (fun _ _ _ k => k.eq1 17 36 rfl) (fun _ => rfl)) ?_
        refine .o1 (sk rfl rfl rfl (fun _ _ _ k => k.eq1 14 33 rfl) (fun _ => rfl)) ?_
        refine .o1 (tk rfl rfl fun _ w hn k => ⟨_, v_pickT rfl (k.eq1 14 33 rfl) rfl, rfl⟩) ?_
        refine .o1 (tk rfl rfl fun _ w hn k => ⟨_, v_assign rfl (k.eq1 21 40 rfl), rfl⟩) ?_
        exact .nil
      intro a190 w191 hn192 ha193
      have hs194 := ha193.size.trans hs75
      have hd195 := ha193.defers.trans hd76
      have h196 := ha193.fx 4 h77
      have h197 := ha193.fx 5 h78
      have h198 := ha193.fx 6 h79
      have h199 := ha193.fx 7 h80
      have h200 := ha193.fx 8 h81
      have h201 := ha193.ge 22 18 rfl
      have hb202 := hb82.new_ hn192
      have hb203 := hb83.new_ hn192
      have hb204 := hb84.new_ hn192
      have hN205 := hN85.transNew hn192
      clear hs75 hd76 h77 h78 h79 h80 h81 hb82 hb83 hb84 hN85 ha193 hn192
      refine st_nil ?_
      refine hK _ _ ?_
      clear hK K
      refine wp_cond_true h201 ?_
      refine wp_seq_k fun K hK => ?_
      refine wp_g0 [true, false, false] [(1, false), (2, true)] 76
        [ve (nv (Nm.mk 2 0)),
         vt,
         vt] hs194 (.eq (.tt (.tt (.nil)))) ?_ ?_
      · skip
        refine .o1 (ck rfl rfl rfl (fun _ w hn k => ⟨#[], rfl, fun _ => by kernel_rfl, rNaN_c  _⟩) fun _ => rfl) ?_
        refine .off ?_
        refine .off ?_
        exact .nil
      intro a206 w207 hn208 ha209
      have hs210 := ha209.size.trans hs194
      have hd211 := ha209.defers.trans hd195
      have h212 := ha209.fx 4 h196
      have h213 := ha209.fx 5 h197
      have h214 := ha209.fx 6 h198
      have h215 := ha209.fx 7 h199
      have h216 := ha209.ge 0 41 rfl
      have hb217 := hb202.new_ hn208
      have hb218 := hb203.new_ hn208
      have hb219 := hb204.new_ hn208
      have hN220 := hN205.transNew hn208
      clear hs194 hd195 h196 h197 h198 h199 h200 h201 hb202 hb203 hb204 hN205 ha209 hn208
      obtain ⟨w221, -, hst222, hb223, hu224, hf225⟩ := s_two (v0 := iv 2) (v1 := iv 0) Tryd.sizeOf23 rfl rfl rfl hb217
      refine st_act rfl rfl fun K226 hL227 => a_store' rfl h212 h216 hst222 (hL227 _ _ trivial ?_)
      have hb228 := hf225 _ _ _ (fun h => hne46 h.symm) hb218
      have hb229 := hf225 _ _ _ (fun h => hne47 h.symm) hb219
      have hN230 := hN220.trans hu224 (fun k hk hkb => by subst hkb; omega)
      clear hb217 hst222 K226 hL227 hN220 hb218 hb219 hu224 hf225
      refine st_take rfl rfl (y_assign (v := .bool true) rfl rfl) rfl ?_
      obtain ⟨a231, ha232⟩ : ∃ a', a' = a206.put (some 5) (.bool true) := ⟨_, rfl⟩
      have hs233 : a231.tmps.size = 76 := by rw [ha232, put_size]; exact hs210
      have hd234 : a231.defers = [] := by rw [ha232, put_defers]; exact hd211
      have h235 : a231.eval (.tmp 4) = pv q16 := by rw [ha232, put_ne _ _ _ _ (by decide)]; exact h212
      have h236 : a231.eval (.tmp 6) = pv q37 := by rw [ha232, put_ne _ _ _ _ (by decide)]; exact h214
      have h237 : a231.eval (.tmp 7) = pv q41 := by rw [ha232, put_ne _ _ _ _ (by decide)]; exact h215
      have h238 : a231.eval (.tmp 41) = nv (Nm.mk 2 0) := by rw [ha232, put_ne _ _ _ _ (by decide)]; exact h216
      have h239 : a231.eval (.tmp 5) = .bool true := by rw [ha232]; exact put_same _ _ _ (by rw [hs210]; decide)
      show stepsTo _ _ _ _ _ (a206.put (some 5) (.bool true)) _
      rw [← ha232]
      clear ha232 hs210 hd211 h212 h213 h214 h215 h216
      refine st_nil ?_
      clear h238
      refine hK _ _ ?_
      clear hK K
      refine wp_ret (ret_k hd234 (v := .tuple #[nv (Nm.mk 2 0), .bool true]) (res_ct rfl h235 h239 (l_two Tryd.isAgg23 Tryd.sizeOf23 hb223)) ?_)
      refine ⟨?_, hN230⟩
      show Ending.returned (.tuple #[nv (Nm.mk 2 0), .bool true]) = Ending.returned (.tuple #[nv ((rDivM a b).1), .bool ((rDivM a b).2)])
      first | rfl | (simp [rDivM, ht86, ht137, ht188, ht189])
    rcases Bool.eq_false_or_eq_true (noughtB (asM a)) with ht240 | ht240
    · skip
      refine wp_g0 [true, true, true, true, true, true, true, true, true, true, true, true, true, true, true, true, true, true, true, true, true, true, true] [] 76
        [ve (nv (asM a)),
         ve (.bool false),
         ve (.bool false),
         ve (nv (asM b)),
         ve (.bool false),
         ve (.bool false),
         ve (.bool false),
         ve (nv (asM a)),
         ve (.bool true),
         ve (.bool true),
         ve (nv (asM b)),
         ve (.bool false),
         ve (.bool false),
         ve (.bool false),
         ve (.bool false),
         ve (nv (asM a)),
         ve (.bool true),
         ve (.bool true),
         ve (nv (asM b)),
         ve (.bool (noughtB (asM b))),
         ve (.bool (noughtB (asM b))),
         ve (.bool (noughtB (asM b))),
         ve (.bool (noughtB (asM b)))] hs75 (.eq (.eq (.eq (.eq (.eq (.eq (.eq (.eq (.eq (.eq (.eq (.eq (.eq (.eq (.eq (.eq (.eq (.eq (.eq (.eq (.eq (.eq (.eq (.nil)))))))))))))))))))))))) ?_ ?_
      · skip
        refine .o1 (tk rfl rfl fun _ w hn k => ⟨_, v_load rfl (k.fx 6 h79) (l_two Tryd.isAgg23 Tryd.sizeOf23 (hb83.new_ hn)), rfl⟩) ?_
        refine .o1 (ck rfl rfl rfl (fun _ w hn k => ⟨#[nv (asM a)], args1 (k.eq1 0 19 rfl), fun _ => by kernel_rfl, rnan_c (asM a) _⟩) fun _ => congrArg Value.bool ht86) ?_
        refine .o1 (tk rfl rfl fun _ w hn k => ⟨_, v_move rfl (k.eq1 1 20 rfl), rfl⟩) ?_
        refine .o1 (tg rfl rfl rfl (fun _ _ k => k.eq1 2 21 rfl) fun _ w hn k => ⟨_, v_load rfl (k.fx 7 h80) (l_two Tryd.isAgg23 Tryd.sizeOf23 (hb84.new_ hn)), rfl⟩) ?_
        refine .o1 (cg rfl rfl rfl (fun _ _ k => k.eq1 2 21 rfl) rfl (fun _ w hn k => ⟨#[nv (asM b)], args1 (k.eq1 3 22 rfl), fun _ => by kernel_rfl, rnan_c (asM b) _⟩) fun _ => congrArg Value.bool ht137) ?_
        refine .o1 (tk rfl rfl fun _ w hn k => ⟨_, v_pickF rfl (k.eq1 2 21 rfl) (k.eq1 4 23 rfl), rfl⟩) ?_
        refine .o1 (tk rfl rfl fun _ w hn k => ⟨_, v_move rfl (k.eq1 5 24 rfl), rfl⟩) ?_
        refine .o1 (tg rfl rfl rfl (fun _ _ k => k.eq1 6 25 rfl) fun _ w hn k => ⟨_, v_load rfl (k.fx 6 h79) (l_two Tryd.isAgg23 Tryd.sizeOf23 (hb83.new_ hn)), rfl⟩) ?_
        refine .o1 (cg rfl rfl rfl (fun _ _ k => k.eq1 6 25 rfl) rfl (fun _ w hn k => ⟨#[nv (asM a)], args1 (k.eq1 7 26 rfl), fun _ => by kernel_rfl, rinf_c (asM a) _⟩) fun _ => congrArg Value.bool ht188) ?_
        refine .o1 (tg rfl rfl rfl (fun _ _ k => k.eq1 6 25 rfl) fun _ w hn k => ⟨_, v_move rfl (k.eq1 8 27 rfl), rfl⟩) ?_
        refine .o1 (tg rfl rfl rfl (fun _ _ k => k.eq1 9 28 rfl) fun _ w hn k => ⟨_, v_load rfl (k.fx 7 h80) (l_two Tryd.isAgg23 Tryd.sizeOf23 (hb84.new_ hn)), rfl⟩) ?_
        refine .o1 (cg rfl rfl rfl (fun _ _ k => k.eq1 9 28 rfl) rfl (fun _ w hn k => ⟨#[nv (asM b)], args1 (k.eq1 10 29 rfl), fun _ => by kernel_rfl, rinf_c (asM b) _⟩) fun _ => congrArg Value.bool ht189) ?_
        refine .o1 (tg rfl rfl rfl (fun _ _ k => k.eq1 6 25 rfl) fun _ w hn k => ⟨_, v_pickT rfl (k.eq1 9 28 rfl) (k.eq1 11 30 rfl), rfl⟩) ?_
        refine .o1 (tk rfl rfl fun _ w hn k => ⟨_, v_pickF rfl (k.eq1 6 25 rfl) (k.eq1 12 31 rfl), rfl⟩) ?_
        refine .o1 (tk rfl rfl fun _ w hn k => ⟨_, v_move rfl (k.eq1 13 32 rfl), rfl⟩) ?_
        refine .o1 (tg rfl rfl rfl (fun _ _ k => k.eq1 14 33 rfl) fun _ w hn k => ⟨_, v_load rfl (k.fx 6 h79) (l_two Tryd.isAgg23 Tryd.sizeOf23 (hb83.new_ hn)), rfl⟩) ?_
        refine .o1 (cg rfl rfl rfl (fun _ _ k => k.eq1 14 33 rfl) rfl (fun _ w hn k => ⟨#[nv (asM a)], args1 (k.eq1 15 34 rfl), fun _ => by kernel_rfl, rnought_c (asM a) _⟩) fun _ => congrArg Value.bool ht240) ?_
        refine .o1 (tg rfl rfl rfl (fun _ _ k => k.eq1 14 33 rfl) fun _ w hn k => ⟨_, v_move rfl (k.eq1 16 35 rfl), rfl⟩) ?_
        refine .o1 (tg rfl rfl rfl (fun _ _ k => k.eq1 17 36 rfl) fun _ w hn k => ⟨_, v_load rfl (k.fx 7 h80) (l_two Tryd.isAgg23 Tryd.sizeOf23 (hb84.new_ hn)), rfl⟩) ?_
        refine .o1 (cg rfl rfl rfl (fun _ _ k => k.eq1 17 36 rfl) rfl (fun _ w hn k => ⟨#[nv (asM b)], args1 (k.eq1 18 37 rfl), fun _ => by kernel_rfl, rnought_c (asM b) _⟩) fun _ => rfl) ?_
        refine .o1 (tg rfl rfl rfl (fun _ _ k => k.eq1 14 33 rfl) fun _ w hn k => ⟨_, v_pickT rfl (k.eq1 17 36 rfl) (k.eq1 19 38 rfl), rfl⟩) ?_
        refine .o1 (tk rfl rfl fun _ w hn k => ⟨_, v_pickF rfl (k.eq1 14 33 rfl) (k.eq1 20 39 rfl), rfl⟩) ?_
        refine .o1 (tk rfl rfl fun _ w hn k => ⟨_, v_assign rfl (k.eq1 21 40 rfl), rfl⟩) ?_
        exact .nil
      intro a241 w242 hn243 ha244
      have hs245 := ha244.size.trans hs75
      have hd246 := ha244.defers.trans hd76
      have h247 := ha244.fx 4 h77
      have h248 := ha244.fx 5 h78
      have h249 := ha244.fx 6 h79
      have h250 := ha244.fx 7 h80
      have h251 := ha244.fx 8 h81
      have h252 := ha244.ge 22 18 rfl
      have hb253 := hb82.new_ hn243
      have hb254 := hb83.new_ hn243
      have hb255 := hb84.new_ hn243
      have hN256 := hN85.transNew hn243
      clear hs75 hd76 h77 h78 h79 h80 h81 hb82 hb83 hb84 hN85 ha244 hn243
      refine st_nil ?_
      refine hK _ _ ?_
      clear hK K
      rcases Bool.eq_false_or_eq_true (noughtB (asM b)) with ht257 | ht257
      · skip
        have hv258 : a241.eval (.tmp 18) = .bool true := h252.trans (congrArg Value.bool ht257)
        clear h252
        refine wp_cond_true hv258 ?_
        refine wp_seq_k fun K hK => ?_
        refine wp_g0 [true, false, false] [(1, false), (2, true)] 76
          [ve (nv (Nm.mk 2 0)),
           vt,
           vt] hs245 (.eq (.tt (.tt (.nil)))) ?_ ?_
        · skip
          refine .o1 (ck rfl rfl rfl (fun _ w hn k => ⟨#[], rfl, fun _ => by kernel_rfl, rNaN_c  _⟩) fun _ => rfl) ?_
          refine .off ?_
          refine .off ?_
          exact .nil
        intro a259 w260 hn261 ha262
        have hs263 := ha262.size.trans hs245
        have hd264 := ha262.defers.trans hd246
        have h265 := ha262.fx 4 h247
        have h266 := ha262.fx 5 h248
        have h267 := ha262.fx 6 h249
        have h268 := ha262.fx 7 h250
        have h269 := ha262.ge 0 41 rfl
        have hb270 := hb253.new_ hn261
        have hb271 := hb254.new_ hn261
        have hb272 := hb255.new_ hn261
        have hN273 := hN256.transNew hn261
        clear hs245 hd246 h247 h248 h249 h250 h251 hv258 hb253 hb254 hb255 hN256 ha262 hn261
        obtain ⟨w274, -, hst275, hb276, hu277, hf278⟩ := s_two (v0 := iv 2) (v1 := iv 0) Tryd.sizeOf23 rfl rfl rfl hb270
        refine st_act rfl rfl fun K279 hL280 => a_store' rfl h265 h269 hst275 (hL280 _ _ trivial ?_)
        have hb281 := hf278 _ _ _ (fun h => hne46 h.symm) hb271
        have hb282 := hf278 _ _ _ (fun h => hne47 h.symm) hb272
        have hN283 := hN273.trans hu277 (fun k hk hkb => by subst hkb; omega)
        clear hb270 hst275 K279 hL280 hN273 hb271 hb272 hu277 hf278
        refine st_take rfl rfl (y_assign (v := .bool true) rfl rfl) rfl ?_
        obtain ⟨a284, ha285⟩ : ∃ a', a' = a259.put (some 5) (.bool true) := ⟨_, rfl⟩
        have hs286 : a284.tmps.size = 76 := by rw [ha285, put_size]; exact hs263
        have hd287 : a284.defers = [] := by rw [ha285, put_defers]; exact hd264
        have h288 : a284.eval (.tmp 4) = pv q16 := by rw [ha285, put_ne _ _ _ _ (by decide)]; exact h265
        have h289 : a284.eval (.tmp 6) = pv q37 := by rw [ha285, put_ne _ _ _ _ (by decide)]; exact h267
        have h290 : a284.eval (.tmp 7) = pv q41 := by rw [ha285, put_ne _ _ _ _ (by decide)]; exact h268
        have h291 : a284.eval (.tmp 41) = nv (Nm.mk 2 0) := by rw [ha285, put_ne _ _ _ _ (by decide)]; exact h269
        have h292 : a284.eval (.tmp 5) = .bool true := by rw [ha285]; exact put_same _ _ _ (by rw [hs263]; decide)
        show stepsTo _ _ _ _ _ (a259.put (some 5) (.bool true)) _
        rw [← ha285]
        clear ha285 hs263 hd264 h265 h266 h267 h268 h269
        refine st_nil ?_
        clear h291
        refine hK _ _ ?_
        clear hK K
        refine wp_ret (ret_k hd287 (v := .tuple #[nv (Nm.mk 2 0), .bool true]) (res_ct rfl h288 h292 (l_two Tryd.isAgg23 Tryd.sizeOf23 hb276)) ?_)
        refine ⟨?_, hN283⟩
        show Ending.returned (.tuple #[nv (Nm.mk 2 0), .bool true]) = Ending.returned (.tuple #[nv ((rDivM a b).1), .bool ((rDivM a b).2)])
        first | rfl | (simp [rDivM, ht86, ht137, ht188, ht189, ht240, ht257])
      have hv293 : a241.eval (.tmp 18) = .bool false := h252.trans (congrArg Value.bool ht257)
      clear h252
      refine wp_cond_false hv293 ?_
      refine wp_seq_k fun K hK => ?_
      refine wp_g0 [true, true, true, true, true, true, true] [] 76
        [ve (nv (asM a)),
         ve (.bool true),
         ve (.bool true),
         ve undef,
         ve undef,
         ve (.bool true),
         ve (.bool true)] hs245 (.eq (.eq (.eq (.eq (.eq (.eq (.eq (.nil)))))))) ?_ ?_
      · skip
        refine .o1 (tk rfl rfl fun _ w hn k => ⟨_, v_load rfl (k.fx 6 h249) (l_two Tryd.isAgg23 Tryd.sizeOf23 (hb254.new_ hn)), rfl⟩) ?_
        refine .o1 (ck rfl rfl rfl (fun _ w hn k => ⟨#[nv (asM a)], args1 (k.eq1 0 43 rfl), fun _ => by kernel_rfl, rinf_c (asM a) _⟩) fun _ => congrArg Value.bool ht188) ?_
        refine .o1 (tk rfl rfl fun _ w hn k => ⟨_, v_move rfl (k.eq1 1 44 rfl), rfl⟩) ?_
        refine .o1 (sk rfl rfl rfl (fun _ _ _ k => k.eq1 2 45 rfl) (fun _ => rfl)) ?_
        refine .o1 (sk rfl rfl rfl (fun _ _ _ k => k.eq1 2 45 rfl) (fun _ => rfl)) ?_
        refine .o1 (tk rfl rfl fun _ w hn k => ⟨_, v_pickT rfl (k.eq1 2 45 rfl) rfl, rfl⟩) ?_
        refine .o1 (tk rfl rfl fun _ w hn k => ⟨_, v_assign rfl (k.eq1 5 48 rfl), rfl⟩) ?_
        exact .nil
      intro a294 w295 hn296 ha297
      have hs298 := ha297.size.trans hs245
      have hd299 := ha297.defers.trans hd246
      have h300 := ha297.fx 4 h247
      have h301 := ha297.fx 5 h248
      have h302 := ha297.fx 6 h249
      have h303 := ha297.fx 7 h250
      have h304 := ha297.fx 8 h251
      have h305 := ha297.ge 6 42 rfl
      have hb306 := hb253.new_ hn296
      have hb307 := hb254.new_ hn296
      have hb308 := hb255.new_ hn296
      have hN309 := hN256.transNew hn296
      clear hs245 hd246 h247 h248 h249 h250 h251 hv293 hb253 hb254 hb255 hN256 ha297 hn296
      refine st_nil ?_
      refine hK _ _ ?_
      clear hK K
      refine wp_cond_true h305 ?_
      refine wp_seq_k fun K hK => ?_
      refine wp_g0 [true, true, false, false] [(2, false), (3, true)] 76
        [ve (.bool ((belowB (asM a)) != (belowB (asM b)))),
         ve (nv (signedR true ((belowB (asM a)) != (belowB (asM b))))),
         vt,
         vt] hs298 (.eq (.eq (.tt (.tt (.nil))))) ?_ ?_
      · skip
        refine .o1 (tk rfl rfl fun _ w hn k => ⟨_, v_move rfl (k.fx 8 h304), rfl⟩) ?_
        refine .o1 (ck rfl rfl rfl (fun _ w hn k => ⟨#[.bool true, .bool ((belowB (asM a)) != (belowB (asM b)))], args2 rfl (k.eq1 0 49 rfl), fun _ => by kernel_rfl, rsigned_c true ((belowB (asM a)) != (belowB (asM b))) _⟩) fun _ => rfl) ?_
        refine .off ?_
        refine .off ?_
        exact .nil
      intro a310 w311 hn312 ha313
      have hs314 := ha313.size.trans hs298
      have hd315 := ha313.defers.trans hd299
      have h316 := ha313.fx 4 h300
      have h317 := ha313.fx 5 h301
      have h318 := ha313.fx 6 h302
      have h319 := ha313.fx 7 h303
      have h320 := ha313.ge 1 50 rfl
      have hb321 := hb306.new_ hn312
      have hb322 := hb307.new_ hn312
      have hb323 := hb308.new_ hn312
      have hN324 := hN309.transNew hn312
      clear hs298 hd299 h300 h301 h302 h303 h304 h305 hb306 hb307 hb308 hN309 ha313 hn312
      obtain ⟨w325, -, hst326, hb327, hu328, hf329⟩ := s_two (v0 := iv ((signedR true ((belowB (asM a)) != (belowB (asM b)))).k)) (v1 := iv ((signedR true ((belowB (asM a)) != (belowB (asM b)))).n)) Tryd.sizeOf23 rfl rfl rfl hb321
      refine st_act rfl rfl fun K330 hL331 => a_store' rfl h316 h320 hst326 (hL331 _ _ trivial ?_)
      have hb332 := hf329 _ _ _ (fun h => hne46 h.symm) hb322
      have hb333 := hf329 _ _ _ (fun h => hne47 h.symm) hb323
      have hN334 := hN324.trans hu328 (fun k hk hkb => by subst hkb; omega)
      clear hb321 hst326 K330 hL331 hN324 hb322 hb323 hu328 hf329
      refine st_take rfl rfl (y_assign (v := .bool true) rfl rfl) rfl ?_
      obtain ⟨a335, ha336⟩ : ∃ a', a' = a310.put (some 5) (.bool true) := ⟨_, rfl⟩
      have hs337 : a335.tmps.size = 76 := by rw [ha336, put_size]; exact hs314
      have hd338 : a335.defers = [] := by rw [ha336, put_defers]; exact hd315
      have h339 : a335.eval (.tmp 4) = pv q16 := by rw [ha336, put_ne _ _ _ _ (by decide)]; exact h316
      have h340 : a335.eval (.tmp 6) = pv q37 := by rw [ha336, put_ne _ _ _ _ (by decide)]; exact h318
      have h341 : a335.eval (.tmp 7) = pv q41 := by rw [ha336, put_ne _ _ _ _ (by decide)]; exact h319
      have h342 : a335.eval (.tmp 50) = nv (signedR true ((belowB (asM a)) != (belowB (asM b)))) := by rw [ha336, put_ne _ _ _ _ (by decide)]; exact h320
      have h343 : a335.eval (.tmp 5) = .bool true := by rw [ha336]; exact put_same _ _ _ (by rw [hs314]; decide)
      show stepsTo _ _ _ _ _ (a310.put (some 5) (.bool true)) _
      rw [← ha336]
      clear ha336 hs314 hd315 h316 h317 h318 h319 h320
      refine st_nil ?_
      clear h342
      refine hK _ _ ?_
      clear hK K
      refine wp_ret (ret_k hd338 (v := .tuple #[nv (signedR true ((belowB (asM a)) != (belowB (asM b)))), .bool true]) (res_ct rfl h339 h343 (l_two Tryd.isAgg23 Tryd.sizeOf23 hb327)) ?_)
      refine ⟨?_, hN334⟩
      show Ending.returned (.tuple #[nv (signedR true ((belowB (asM a)) != (belowB (asM b)))), .bool true]) = Ending.returned (.tuple #[nv ((rDivM a b).1), .bool ((rDivM a b).2)])
      first | rfl | (simp [rDivM, ht86, ht137, ht188, ht189, ht240, ht257])
    refine wp_g0 [true, true, true, true, true, true, true, true, true, true, true, true, true, true, true, true, true, true, true, true, true, true, true] [] 76
      [ve (nv (asM a)),
       ve (.bool false),
       ve (.bool false),
       ve (nv (asM b)),
       ve (.bool false),
       ve (.bool false),
       ve (.bool false),
       ve (nv (asM a)),
       ve (.bool true),
       ve (.bool true),
       ve (nv (asM b)),
       ve (.bool false),
       ve (.bool false),
       ve (.bool false),
       ve (.bool false),
       ve (nv (asM a)),
       ve (.bool false),
       ve (.bool false),
       ve undef,
       ve undef,
       ve (.bool false),
       ve (.bool false),
       ve (.bool false)] hs75 (.eq (.eq (.eq (.eq (.eq (.eq (.eq (.eq (.eq (.eq (.eq (.eq (.eq (.eq (.eq (.eq (.eq (.eq (.eq (.eq (.eq (.eq (.eq (.nil)))))))))))))))))))))))) ?_ ?_
    · skip
      refine .o1 (tk rfl rfl fun _ w hn k => ⟨_, v_load rfl (k.fx 6 h79) (l_two Tryd.isAgg23 Tryd.sizeOf23 (hb83.new_ hn)), rfl⟩) ?_
      refine .o1 (ck rfl rfl rfl (fun _ w hn k => ⟨#[nv (asM a)], args1 (k.eq1 0 19 rfl), fun _ => by kernel_rfl, rnan_c (asM a) _⟩) fun _ => congrArg Value.bool ht86) ?_
      refine .o1 (tk rfl rfl fun _ w hn k => ⟨_, v_move rfl (k.eq1 1 20 rfl), rfl⟩) ?_
      refine .o1 (tg rfl rfl rfl (fun _ _ k => k.eq1 2 21 rfl) fun _ w hn k => ⟨_, v_load rfl (k.fx 7 h80) (l_two Tryd.isAgg23 Tryd.sizeOf23 (hb84.new_ hn)), rfl⟩) ?_
      refine .o1 (cg rfl rfl rfl (fun _ _ k => k.eq1 2 21 rfl) rfl (fun _ w hn k => ⟨#[nv (asM b)], args1 (k.eq1 3 22 rfl), fun _ => by kernel_rfl, rnan_c (asM b) _⟩) fun _ => congrArg Value.bool ht137) ?_
      refine .o1 (tk rfl rfl fun _ w hn k => ⟨_, v_pickF rfl (k.eq1 2 21 rfl) (k.eq1 4 23 rfl), rfl⟩) ?_
      refine .o1 (tk rfl rfl fun _ w hn k => ⟨_, v_move rfl (k.eq1 5 24 rfl), rfl⟩) ?_
      refine .o1 (tg rfl rfl rfl (fun _ _ k => k.eq1 6 25 rfl) fun _ w hn k => ⟨_, v_load rfl (k.fx 6 h79) (l_two Tryd.isAgg23 Tryd.sizeOf23 (hb83.new_ hn)), rfl⟩) ?_
      refine .o1 (cg rfl rfl rfl (fun _ _ k => k.eq1 6 25 rfl) rfl (fun _ w hn k => ⟨#[nv (asM a)], args1 (k.eq1 7 26 rfl), fun _ => by kernel_rfl, rinf_c (asM a) _⟩) fun _ => congrArg Value.bool ht188) ?_
      refine .o1 (tg rfl rfl rfl (fun _ _ k => k.eq1 6 25 rfl) fun _ w hn k => ⟨_, v_move rfl (k.eq1 8 27 rfl), rfl⟩) ?_
      refine .o1 (tg rfl rfl rfl (fun _ _ k => k.eq1 9 28 rfl) fun _ w hn k => ⟨_, v_load rfl (k.fx 7 h80) (l_two Tryd.isAgg23 Tryd.sizeOf23 (hb84.new_ hn)), rfl⟩) ?_
      refine .o1 (cg rfl rfl rfl (fun _ _ k => k.eq1 9 28 rfl) rfl (fun _ w hn k => ⟨#[nv (asM b)], args1 (k.eq1 10 29 rfl), fun _ => by kernel_rfl, rinf_c (asM b) _⟩) fun _ => congrArg Value.bool ht189) ?_
      refine .o1 (tg rfl rfl rfl (fun _ _ k => k.eq1 6 25 rfl) fun _ w hn k => ⟨_, v_pickT rfl (k.eq1 9 28 rfl) (k.eq1 11 30 rfl), rfl⟩) ?_
      refine .o1 (tk rfl rfl fun _ w hn k => ⟨_, v_pickF rfl (k.eq1 6 25 rfl) (k.eq1 12 31 rfl), rfl⟩) ?_
      refine .o1 (tk rfl rfl fun _ w hn k => ⟨_, v_move rfl (k.eq1 13 32 rfl), rfl⟩) ?_
      refine .o1 (tg rfl rfl rfl (fun _ _ k => k.eq1 14 33 rfl) fun _ w hn k => ⟨_, v_load rfl (k.fx 6 h79) (l_two Tryd.isAgg23 Tryd.sizeOf23 (hb83.new_ hn)), rfl⟩) ?_
      refine .o1 (cg rfl rfl rfl (fun _ _ k => k.eq1 14 33 rfl) rfl (fun _ w hn k => ⟨#[nv (asM a)], args1 (k.eq1 15 34 rfl), fun _ => by kernel_rfl, rnought_c (asM a) _⟩) fun _ => congrArg Value.bool ht240) ?_
      refine .o1 (tg rfl rfl rfl (fun _ _ k => k.eq1 14 33 rfl) fun _ w hn k => ⟨_, v_move rfl (k.eq1 16 35 rfl), rfl⟩) ?_
      refine .o1 (sk rfl rfl rfl (fun _ _ _ k => k.eq1 17 36 rfl) (fun _ => rfl)) ?_
      refine .o1 (sk rfl rfl rfl (fun _ _ _ k => k.eq1 17 36 rfl) (fun _ => rfl)) ?_
      refine .o1 (tg rfl rfl rfl (fun _ _ k => k.eq1 14 33 rfl) fun _ w hn k => ⟨_, v_pickF rfl (k.eq1 17 36 rfl) rfl, rfl⟩) ?_
      refine .o1 (tk rfl rfl fun _ w hn k => ⟨_, v_pickF rfl (k.eq1 14 33 rfl) (k.eq1 20 39 rfl), rfl⟩) ?_
      refine .o1 (tk rfl rfl fun _ w hn k => ⟨_, v_assign rfl (k.eq1 21 40 rfl), rfl⟩) ?_
      exact .nil
    intro a344 w345 hn346 ha347
    have hs348 := ha347.size.trans hs75
    have hd349 := ha347.defers.trans hd76
    have h350 := ha347.fx 4 h77
    have h351 := ha347.fx 5 h78
    have h352 := ha347.fx 6 h79
    have h353 := ha347.fx 7 h80
    have h354 := ha347.fx 8 h81
    have h355 := ha347.ge 22 18 rfl
    have hb356 := hb82.new_ hn346
    have hb357 := hb83.new_ hn346
    have hb358 := hb84.new_ hn346
    have hN359 := hN85.transNew hn346
    clear hs75 hd76 h77 h78 h79 h80 h81 hb82 hb83 hb84 hN85 ha347 hn346
    refine st_nil ?_
    refine hK _ _ ?_
    clear hK K
    refine wp_cond_false h355 ?_
    refine wp_seq_k fun K hK => ?_
    refine wp_g0 [true, true, true, true, true, true, true] [] 76
      [ve (nv (asM a)),
       ve (.bool true),
       ve (.bool true),
       ve undef,
       ve undef,
       ve (.bool true),
       ve (.bool true)] hs348 (.eq (.eq (.eq (.eq (.eq (.eq (.eq (.nil)))))))) ?_ ?_
    · skip
      refine .o1 (tk rfl rfl fun _ w hn k => ⟨_, v_load rfl (k.fx 6 h352) (l_two Tryd.isAgg23 Tryd.sizeOf23 (hb357.new_ hn)), rfl⟩) ?_
      refine .o1 (ck rfl rfl rfl (fun _ w hn k => ⟨#[nv (asM a)], args1 (k.eq1 0 43 rfl), fun _ => by kernel_rfl, rinf_c (asM a) _⟩) fun _ => congrArg Value.bool ht188) ?_
      refine .o1 (tk rfl rfl fun _ w hn k => ⟨_, v_move rfl (k.eq1 1 44 rfl), rfl⟩) ?_
      refine .o1 (sk rfl rfl rfl (fun _ _ _ k => k.eq1 2 45 rfl) (fun _ => rfl)) ?_
      refine .o1 (sk rfl rfl rfl (fun _ _ _ k => k.eq1 2 45 rfl) (fun _ => rfl)) ?_
      refine .o1 (tk rfl rfl fun _ w hn k => ⟨_, v_pickT rfl (k.eq1 2 45 rfl) rfl, rfl⟩) ?_
      refine .o1 (tk rfl rfl fun _ w hn k => ⟨_, v_assign rfl (k.eq1 5 48 rfl), rfl⟩) ?_
      exact .nil
    intro a360 w361 hn362 ha363
    have hs364 := ha363.size.trans hs348
    have hd365 := ha363.defers.trans hd349
    have h366 := ha363.fx 4 h350
    have h367 := ha363.fx 5 h351
    have h368 := ha363.fx 6 h352
    have h369 := ha363.fx 7 h353
    have h370 := ha363.fx 8 h354
    have h371 := ha363.ge 6 42 rfl
    have hb372 := hb356.new_ hn362
    have hb373 := hb357.new_ hn362
    have hb374 := hb358.new_ hn362
    have hN375 := hN359.transNew hn362
    clear hs348 hd349 h350 h351 h352 h353 h354 h355 hb356 hb357 hb358 hN359 ha363 hn362
    refine st_nil ?_
    refine hK _ _ ?_
    clear hK K
    refine wp_cond_true h371 ?_
    refine wp_seq_k fun K hK => ?_
    refine wp_g0 [true, true, false, false] [(2, false), (3, true)] 76
      [ve (.bool ((belowB (asM a)) != (belowB (asM b)))),
       ve (nv (signedR true ((belowB (asM a)) != (belowB (asM b))))),
       vt,
       vt] hs364 (.eq (.eq (.tt (.tt (.nil))))) ?_ ?_
    · skip
      refine .o1 (tk rfl rfl fun _ w hn k => ⟨_, v_move rfl (k.fx 8 h370), rfl⟩) ?_
      refine .o1 (ck rfl rfl rfl (fun _ w hn k => ⟨#[.bool true, .bool ((belowB (asM a)) != (belowB (asM b)))], args2 rfl (k.eq1 0 49 rfl), fun _ => by kernel_rfl, rsigned_c true ((belowB (asM a)) != (belowB (asM b))) _⟩) fun _ => rfl) ?_
      refine .off ?_
      refine .off ?_
      exact .nil
    intro a376 w377 hn378 ha379
    have hs380 := ha379.size.trans hs364
    have hd381 := ha379.defers.trans hd365
    have h382 := ha379.fx 4 h366
    have h383 := ha379.fx 5 h367
    have h384 := ha379.fx 6 h368
    have h385 := ha379.fx 7 h369
    have h386 := ha379.ge 1 50 rfl
    have hb387 := hb372.new_ hn378
    have hb388 := hb373.new_ hn378
    have hb389 := hb374.new_ hn378
    have hN390 := hN375.transNew hn378
    clear hs364 hd365 h366 h367 h368 h369 h370 h371 hb372 hb373 hb374 hN375 ha379 hn378
    obtain ⟨w391, -, hst392, hb393, hu394, hf395⟩ := s_two (v0 := iv ((signedR true ((belowB (asM a)) != (belowB (asM b)))).k)) (v1 := iv ((signedR true ((belowB (asM a)) != (belowB (asM b)))).n)) Tryd.sizeOf23 rfl rfl rfl hb387
    refine st_act rfl rfl fun K396 hL397 => a_store' rfl h382 h386 hst392 (hL397 _ _ trivial ?_)
    have hb398 := hf395 _ _ _ (fun h => hne46 h.symm) hb388
    have hb399 := hf395 _ _ _ (fun h => hne47 h.symm) hb389
    have hN400 := hN390.trans hu394 (fun k hk hkb => by subst hkb; omega)
    clear hb387 hst392 K396 hL397 hN390 hb388 hb389 hu394 hf395
    refine st_take rfl rfl (y_assign (v := .bool true) rfl rfl) rfl ?_
    obtain ⟨a401, ha402⟩ : ∃ a', a' = a376.put (some 5) (.bool true) := ⟨_, rfl⟩
    have hs403 : a401.tmps.size = 76 := by rw [ha402, put_size]; exact hs380
    have hd404 : a401.defers = [] := by rw [ha402, put_defers]; exact hd381
    have h405 : a401.eval (.tmp 4) = pv q16 := by rw [ha402, put_ne _ _ _ _ (by decide)]; exact h382
    have h406 : a401.eval (.tmp 6) = pv q37 := by rw [ha402, put_ne _ _ _ _ (by decide)]; exact h384
    have h407 : a401.eval (.tmp 7) = pv q41 := by rw [ha402, put_ne _ _ _ _ (by decide)]; exact h385
    have h408 : a401.eval (.tmp 50) = nv (signedR true ((belowB (asM a)) != (belowB (asM b)))) := by rw [ha402, put_ne _ _ _ _ (by decide)]; exact h386
    have h409 : a401.eval (.tmp 5) = .bool true := by rw [ha402]; exact put_same _ _ _ (by rw [hs380]; decide)
    show stepsTo _ _ _ _ _ (a376.put (some 5) (.bool true)) _
    rw [← ha402]
    clear ha402 hs380 hd381 h382 h383 h384 h385 h386
    refine st_nil ?_
    clear h408
    refine hK _ _ ?_
    clear hK K
    refine wp_ret (ret_k hd404 (v := .tuple #[nv (signedR true ((belowB (asM a)) != (belowB (asM b)))), .bool true]) (res_ct rfl h405 h409 (l_two Tryd.isAgg23 Tryd.sizeOf23 hb393)) ?_)
    refine ⟨?_, hN400⟩
    show Ending.returned (.tuple #[nv (signedR true ((belowB (asM a)) != (belowB (asM b)))), .bool true]) = Ending.returned (.tuple #[nv ((rDivM a b).1), .bool ((rDivM a b).2)])
    first | rfl | (simp [rDivM, ht86, ht137, ht188, ht189, ht240])
  rcases Bool.eq_false_or_eq_true (noughtB (asM a)) with ht410 | ht410
  · skip
    refine wp_g0 [true, true, true, true, true, true, true, true, true, true, true, true, true, true, true, true, true, true, true, true, true, true, true] [] 76
      [ve (nv (asM a)),
       ve (.bool false),
       ve (.bool false),
       ve (nv (asM b)),
       ve (.bool false),
       ve (.bool false),
       ve (.bool false),
       ve (nv (asM a)),
       ve (.bool false),
       ve (.bool false),
       ve undef,
       ve undef,
       ve (.bool false),
       ve (.bool false),
       ve (.bool false),
       ve (nv (asM a)),
       ve (.bool true),
       ve (.bool true),
       ve (nv (asM b)),
       ve (.bool (noughtB (asM b))),
       ve (.bool (noughtB (asM b))),
       ve (.bool (noughtB (asM b))),
       ve (.bool (noughtB (asM b)))] hs75 (.eq (.eq (.eq (.eq (.eq (.eq (.eq (.eq (.eq (.eq (.eq (.eq (.eq (.eq (.eq (.eq (.eq (.eq (.eq (.eq (.eq (.eq (.eq (.nil)))))))))))))))))))))))) ?_ ?_
    · skip
      refine .o1 (tk rfl rfl fun _ w hn k => ⟨_, v_load rfl (k.fx 6 h79) (l_two Tryd.isAgg23 Tryd.sizeOf23 (hb83.new_ hn)), rfl⟩) ?_
      refine .o1 (ck rfl rfl rfl (fun _ w hn k => ⟨#[nv (asM a)], args1 (k.eq1 0 19 rfl), fun _ => by kernel_rfl, rnan_c (asM a) _⟩) fun _ => congrArg Value.bool ht86) ?_
      refine .o1 (tk rfl rfl fun _ w hn k => ⟨_, v_move rfl (k.eq1 1 20 rfl), rfl⟩) ?_
      refine .o1 (tg rfl rfl rfl (fun _ _ k => k.eq1 2 21 rfl) fun _ w hn k => ⟨_, v_load rfl (k.fx 7 h80) (l_two Tryd.isAgg23 Tryd.sizeOf23 (hb84.new_ hn)), rfl⟩) ?_
      refine .o1 (cg rfl rfl rfl (fun _ _ k => k.eq1 2 21 rfl) rfl (fun _ w hn k => ⟨#[nv (asM b)], args1 (k.eq1 3 22 rfl), fun _ => by kernel_rfl, rnan_c (asM b) _⟩) fun _ => congrArg Value.bool ht137) ?_
      refine .o1 (tk rfl rfl fun _ w hn k => ⟨_, v_pickF rfl (k.eq1 2 21 rfl) (k.eq1 4 23 rfl), rfl⟩) ?_
      refine .o1 (tk rfl rfl fun _ w hn k => ⟨_, v_move rfl (k.eq1 5 24 rfl), rfl⟩) ?_
      refine .o1 (tg rfl rfl rfl (fun _ _ k => k.eq1 6 25 rfl) fun _ w hn k => ⟨_, v_load rfl (k.fx 6 h79) (l_two Tryd.isAgg23 Tryd.sizeOf23 (hb83.new_ hn)), rfl⟩) ?_
      refine .o1 (cg rfl rfl rfl (fun _ _ k => k.eq1 6 25 rfl) rfl (fun _ w hn k => ⟨#[nv (asM a)], args1 (k.eq1 7 26 rfl), fun _ => by kernel_rfl, rinf_c (asM a) _⟩) fun _ => congrArg Value.bool ht188) ?_
      refine .o1 (tg rfl rfl rfl (fun _ _ k => k.eq1 6 25 rfl) fun _ w hn k => ⟨_, v_move rfl (k.eq1 8 27 rfl), rfl⟩) ?_
      refine .o1 (sk rfl rfl rfl (fun _ _ _ k => k.eq1 9 28 rfl) (fun _ => rfl)) ?_
      refine .o1 (sk rfl rfl rfl (fun _ _ _ k => k.eq1 9 28 rfl) (fun _ => rfl)) ?_
      refine .o1 (tg rfl rfl rfl (fun _ _ k => k.eq1 6 25 rfl) fun _ w hn k => ⟨_, v_pickF rfl (k.eq1 9 28 rfl) rfl, rfl⟩) ?_
      refine .o1 (tk rfl rfl fun _ w hn k => ⟨_, v_pickF rfl (k.eq1 6 25 rfl) (k.eq1 12 31 rfl), rfl⟩) ?_
      refine .o1 (tk rfl rfl fun _ w hn k => ⟨_, v_move rfl (k.eq1 13 32 rfl), rfl⟩) ?_
      refine .o1 (tg rfl rfl rfl (fun _ _ k => k.eq1 14 33 rfl) fun _ w hn k => ⟨_, v_load rfl (k.fx 6 h79) (l_two Tryd.isAgg23 Tryd.sizeOf23 (hb83.new_ hn)), rfl⟩) ?_
      refine .o1 (cg rfl rfl rfl (fun _ _ k => k.eq1 14 33 rfl) rfl (fun _ w hn k => ⟨#[nv (asM a)], args1 (k.eq1 15 34 rfl), fun _ => by kernel_rfl, rnought_c (asM a) _⟩) fun _ => congrArg Value.bool ht410) ?_
      refine .o1 (tg rfl rfl rfl (fun _ _ k => k.eq1 14 33 rfl) fun _ w hn k => ⟨_, v_move rfl (k.eq1 16 35 rfl), rfl⟩) ?_
      refine .o1 (tg rfl rfl rfl (fun _ _ k => k.eq1 17 36 rfl) fun _ w hn k => ⟨_, v_load rfl (k.fx 7 h80) (l_two Tryd.isAgg23 Tryd.sizeOf23 (hb84.new_ hn)), rfl⟩) ?_
      refine .o1 (cg rfl rfl rfl (fun _ _ k => k.eq1 17 36 rfl) rfl (fun _ w hn k => ⟨#[nv (asM b)], args1 (k.eq1 18 37 rfl), fun _ => by kernel_rfl, rnought_c (asM b) _⟩) fun _ => rfl) ?_
      refine .o1 (tg rfl rfl rfl (fun _ _ k => k.eq1 14 33 rfl) fun _ w hn k => ⟨_, v_pickT rfl (k.eq1 17 36 rfl) (k.eq1 19 38 rfl), rfl⟩) ?_
      refine .o1 (tk rfl rfl fun _ w hn k => ⟨_, v_pickF rfl (k.eq1 14 33 rfl) (k.eq1 20 39 rfl), rfl⟩) ?_
      refine .o1 (tk rfl rfl fun _ w hn k => ⟨_, v_assign rfl (k.eq1 21 40 rfl), rfl⟩) ?_
      exact .nil
    intro a411 w412 hn413 ha414
    have hs415 := ha414.size.trans hs75
    have hd416 := ha414.defers.trans hd76
    have h417 := ha414.fx 4 h77
    have h418 := ha414.fx 5 h78
    have h419 := ha414.fx 6 h79
    have h420 := ha414.fx 7 h80
    have h421 := ha414.fx 8 h81
    have h422 := ha414.ge 22 18 rfl
    have hb423 := hb82.new_ hn413
    have hb424 := hb83.new_ hn413
    have hb425 := hb84.new_ hn413
    have hN426 := hN85.transNew hn413
    clear hs75 hd76 h77 h78 h79 h80 h81 hb82 hb83 hb84 hN85 ha414 hn413
    refine st_nil ?_
    refine hK _ _ ?_
    clear hK K
    rcases Bool.eq_false_or_eq_true (noughtB (asM b)) with ht427 | ht427
    · skip
      have hv428 : a411.eval (.tmp 18) = .bool true := h422.trans (congrArg Value.bool ht427)
      clear h422
      refine wp_cond_true hv428 ?_
      refine wp_seq_k fun K hK => ?_
      refine wp_g0 [true, false, false] [(1, false), (2, true)] 76
        [ve (nv (Nm.mk 2 0)),
         vt,
         vt] hs415 (.eq (.tt (.tt (.nil)))) ?_ ?_
      · skip
        refine .o1 (ck rfl rfl rfl (fun _ w hn k => ⟨#[], rfl, fun _ => by kernel_rfl, rNaN_c  _⟩) fun _ => rfl) ?_
        refine .off ?_
        refine .off ?_
        exact .nil
      intro a429 w430 hn431 ha432
      have hs433 := ha432.size.trans hs415
      have hd434 := ha432.defers.trans hd416
      have h435 := ha432.fx 4 h417
      have h436 := ha432.fx 5 h418
      have h437 := ha432.fx 6 h419
      have h438 := ha432.fx 7 h420
      have h439 := ha432.ge 0 41 rfl
      have hb440 := hb423.new_ hn431
      have hb441 := hb424.new_ hn431
      have hb442 := hb425.new_ hn431
      have hN443 := hN426.transNew hn431
      clear hs415 hd416 h417 h418 h419 h420 h421 hv428 hb423 hb424 hb425 hN426 ha432 hn431
      obtain ⟨w444, -, hst445, hb446, hu447, hf448⟩ := s_two (v0 := iv 2) (v1 := iv 0) Tryd.sizeOf23 rfl rfl rfl hb440
      refine st_act rfl rfl fun K449 hL450 => a_store' rfl h435 h439 hst445 (hL450 _ _ trivial ?_)
      have hb451 := hf448 _ _ _ (fun h => hne46 h.symm) hb441
      have hb452 := hf448 _ _ _ (fun h => hne47 h.symm) hb442
      have hN453 := hN443.trans hu447 (fun k hk hkb => by subst hkb; omega)
      clear hb440 hst445 K449 hL450 hN443 hb441 hb442 hu447 hf448
      refine st_take rfl rfl (y_assign (v := .bool true) rfl rfl) rfl ?_
      obtain ⟨a454, ha455⟩ : ∃ a', a' = a429.put (some 5) (.bool true) := ⟨_, rfl⟩
      have hs456 : a454.tmps.size = 76 := by rw [ha455, put_size]; exact hs433
      have hd457 : a454.defers = [] := by rw [ha455, put_defers]; exact hd434
      have h458 : a454.eval (.tmp 4) = pv q16 := by rw [ha455, put_ne _ _ _ _ (by decide)]; exact h435
      have h459 : a454.eval (.tmp 6) = pv q37 := by rw [ha455, put_ne _ _ _ _ (by decide)]; exact h437
      have h460 : a454.eval (.tmp 7) = pv q41 := by rw [ha455, put_ne _ _ _ _ (by decide)]; exact h438
      have h461 : a454.eval (.tmp 41) = nv (Nm.mk 2 0) := by rw [ha455, put_ne _ _ _ _ (by decide)]; exact h439
      have h462 : a454.eval (.tmp 5) = .bool true := by rw [ha455]; exact put_same _ _ _ (by rw [hs433]; decide)
      show stepsTo _ _ _ _ _ (a429.put (some 5) (.bool true)) _
      rw [← ha455]
      clear ha455 hs433 hd434 h435 h436 h437 h438 h439
      refine st_nil ?_
      clear h461
      refine hK _ _ ?_
      clear hK K
      refine wp_ret (ret_k hd457 (v := .tuple #[nv (Nm.mk 2 0), .bool true]) (res_ct rfl h458 h462 (l_two Tryd.isAgg23 Tryd.sizeOf23 hb446)) ?_)
      refine ⟨?_, hN453⟩
      show Ending.returned (.tuple #[nv (Nm.mk 2 0), .bool true]) = Ending.returned (.tuple #[nv ((rDivM a b).1), .bool ((rDivM a b).2)])
      first | rfl | (simp [rDivM, ht86, ht137, ht188, ht410, ht427])
    have hv463 : a411.eval (.tmp 18) = .bool false := h422.trans (congrArg Value.bool ht427)
    clear h422
    refine wp_cond_false hv463 ?_
    refine wp_seq_k fun K hK => ?_
    refine wp_g0 [true, true, true, true, true, true, true] [] 76
      [ve (nv (asM a)),
       ve (.bool false),
       ve (.bool false),
       ve (nv (asM b)),
       ve (.bool false),
       ve (.bool false),
       ve (.bool false)] hs415 (.eq (.eq (.eq (.eq (.eq (.eq (.eq (.nil)))))))) ?_ ?_
    · skip
      refine .o1 (tk rfl rfl fun _ w hn k => ⟨_, v_load rfl (k.fx 6 h419) (l_two Tryd.isAgg23 Tryd.sizeOf23 (hb424.new_ hn)), rfl⟩) ?_
      refine .o1 (ck rfl rfl rfl (fun _ w hn k => ⟨#[nv (asM a)], args1 (k.eq1 0 43 rfl), fun _ => by kernel_rfl, rinf_c (asM a) _⟩) fun _ => congrArg Value.bool ht188) ?_
      refine .o1 (tk rfl rfl fun _ w hn k => ⟨_, v_move rfl (k.eq1 1 44 rfl), rfl⟩) ?_
      refine .o1 (tg rfl rfl rfl (fun _ _ k => k.eq1 2 45 rfl) fun _ w hn k => ⟨_, v_load rfl (k.fx 7 h420) (l_two Tryd.isAgg23 Tryd.sizeOf23 (hb425.new_ hn)), rfl⟩) ?_
      refine .o1 (cg rfl rfl rfl (fun _ _ k => k.eq1 2 45 rfl) rfl (fun _ w hn k => ⟨#[nv (asM b)], args1 (k.eq1 3 46 rfl), fun _ => by kernel_rfl, rnought_c (asM b) _⟩) fun _ => congrArg Value.bool ht427) ?_
      refine .o1 (tk rfl rfl fun _ w hn k => ⟨_, v_pickF rfl (k.eq1 2 45 rfl) (k.eq1 4 47 rfl), rfl⟩) ?_
      refine .o1 (tk rfl rfl fun _ w hn k => ⟨_, v_assign rfl (k.eq1 5 48 rfl), rfl⟩) ?_
      exact .nil
    intro a464 w465 hn466 ha467
    have hs468 := ha467.size.trans hs415
    have hd469 := ha467.defers.trans hd416
    have h470 := ha467.fx 4 h417
    have h471 := ha467.fx 5 h418
    have h472 := ha467.fx 6 h419
    have h473 := ha467.fx 7 h420
    have h474 := ha467.fx 8 h421
    have h475 := ha467.ge 6 42 rfl
    have hb476 := hb423.new_ hn466
    have hb477 := hb424.new_ hn466
    have hb478 := hb425.new_ hn466
    have hN479 := hN426.transNew hn466
    clear hs415 hd416 h417 h418 h419 h420 h421 hv463 hb423 hb424 hb425 hN426 ha467 hn466
    refine st_nil ?_
    refine hK _ _ ?_
    clear hK K
    refine wp_cond_false h475 ?_
    refine wp_seq_k fun K hK => ?_
    rcases Bool.eq_false_or_eq_true (infB ((asM b).k)) with ht480 | ht480
    · skip
      refine wp_g0 [true, true, true, true, true, true, true] [] 76
        [ve (nv (asM b)),
         ve (.bool true),
         ve (.bool true),
         ve undef,
         ve undef,
         ve (.bool true),
         ve (.bool true)] hs468 (.eq (.eq (.eq (.eq (.eq (.eq (.eq (.nil)))))))) ?_ ?_
      · skip
        refine .o1 (tk rfl rfl fun _ w hn k => ⟨_, v_load rfl (k.fx 7 h473) (l_two Tryd.isAgg23 Tryd.sizeOf23 (hb478.new_ hn)), rfl⟩) ?_
        refine .o1 (ck rfl rfl rfl (fun _ w hn k => ⟨#[nv (asM b)], args1 (k.eq1 0 52 rfl), fun _ => by kernel_rfl, rinf_c (asM b) _⟩) fun _ => congrArg Value.bool ht480) ?_
        refine .o1 (tk rfl rfl fun _ w hn k => ⟨_, v_move rfl (k.eq1 1 53 rfl), rfl⟩) ?_
        refine .o1 (sk rfl rfl rfl (fun _ _ _ k => k.eq1 2 54 rfl) (fun _ => rfl)) ?_
        refine .o1 (sk rfl rfl rfl (fun _ _ _ k => k.eq1 2 54 rfl) (fun _ => rfl)) ?_
        refine .o1 (tk rfl rfl fun _ w hn k => ⟨_, v_pickT rfl (k.eq1 2 54 rfl) rfl, rfl⟩) ?_
        refine .o1 (tk rfl rfl fun _ w hn k => ⟨_, v_assign rfl (k.eq1 5 57 rfl), rfl⟩) ?_
        exact .nil
      intro a481 w482 hn483 ha484
      have hs485 := ha484.size.trans hs468
      have hd486 := ha484.defers.trans hd469
      have h487 := ha484.fx 4 h470
      have h488 := ha484.fx 5 h471
      have h489 := ha484.fx 6 h472
      have h490 := ha484.fx 7 h473
      have h491 := ha484.fx 8 h474
      have h492 := ha484.ge 6 51 rfl
      have hb493 := hb476.new_ hn483
      have hb494 := hb477.new_ hn483
      have hb495 := hb478.new_ hn483
      have hN496 := hN479.transNew hn483
      clear hs468 hd469 h470 h471 h472 h473 h474 h475 hb476 hb477 hb478 hN479 ha484 hn483
      refine st_nil ?_
      refine hK _ _ ?_
      clear hK K
      refine wp_cond_true h492 ?_
      refine wp_seq_k fun K hK => ?_
      refine wp_g0 [true, true, false, false] [(2, false), (3, true)] 76
        [ve (.bool ((belowB (asM a)) != (belowB (asM b)))),
         ve (nv (signedR false ((belowB (asM a)) != (belowB (asM b))))),
         vt,
         vt] hs485 (.eq (.eq (.tt (.tt (.nil))))) ?_ ?_
      · skip
        refine .o1 (tk rfl rfl fun _ w hn k => ⟨_, v_move rfl (k.fx 8 h491), rfl⟩) ?_
        refine .o1 (ck rfl rfl rfl (fun _ w hn k => ⟨#[.bool false, .bool ((belowB (asM a)) != (belowB (asM b)))], args2 rfl (k.eq1 0 58 rfl), fun _ => by kernel_rfl, rsigned_c false ((belowB (asM a)) != (belowB (asM b))) _⟩) fun _ => rfl) ?_
        refine .off ?_
        refine .off ?_
        exact .nil
      intro a497 w498 hn499 ha500
      have hs501 := ha500.size.trans hs485
      have hd502 := ha500.defers.trans hd486
      have h503 := ha500.fx 4 h487
      have h504 := ha500.fx 5 h488
      have h505 := ha500.fx 6 h489
      have h506 := ha500.fx 7 h490
      have h507 := ha500.ge 1 59 rfl
      have hb508 := hb493.new_ hn499
      have hb509 := hb494.new_ hn499
      have hb510 := hb495.new_ hn499
      have hN511 := hN496.transNew hn499
      clear hs485 hd486 h487 h488 h489 h490 h491 h492 hb493 hb494 hb495 hN496 ha500 hn499
      obtain ⟨w512, -, hst513, hb514, hu515, hf516⟩ := s_two (v0 := iv ((signedR false ((belowB (asM a)) != (belowB (asM b)))).k)) (v1 := iv ((signedR false ((belowB (asM a)) != (belowB (asM b)))).n)) Tryd.sizeOf23 rfl rfl rfl hb508
      refine st_act rfl rfl fun K517 hL518 => a_store' rfl h503 h507 hst513 (hL518 _ _ trivial ?_)
      have hb519 := hf516 _ _ _ (fun h => hne46 h.symm) hb509
      have hb520 := hf516 _ _ _ (fun h => hne47 h.symm) hb510
      have hN521 := hN511.trans hu515 (fun k hk hkb => by subst hkb; omega)
      clear hb508 hst513 K517 hL518 hN511 hb509 hb510 hu515 hf516
      refine st_take rfl rfl (y_assign (v := .bool true) rfl rfl) rfl ?_
      obtain ⟨a522, ha523⟩ : ∃ a', a' = a497.put (some 5) (.bool true) := ⟨_, rfl⟩
      have hs524 : a522.tmps.size = 76 := by rw [ha523, put_size]; exact hs501
      have hd525 : a522.defers = [] := by rw [ha523, put_defers]; exact hd502
      have h526 : a522.eval (.tmp 4) = pv q16 := by rw [ha523, put_ne _ _ _ _ (by decide)]; exact h503
      have h527 : a522.eval (.tmp 6) = pv q37 := by rw [ha523, put_ne _ _ _ _ (by decide)]; exact h505
      have h528 : a522.eval (.tmp 7) = pv q41 := by rw [ha523, put_ne _ _ _ _ (by decide)]; exact h506
      have h529 : a522.eval (.tmp 59) = nv (signedR false ((belowB (asM a)) != (belowB (asM b)))) := by rw [ha523, put_ne _ _ _ _ (by decide)]; exact h507
      have h530 : a522.eval (.tmp 5) = .bool true := by rw [ha523]; exact put_same _ _ _ (by rw [hs501]; decide)
      show stepsTo _ _ _ _ _ (a497.put (some 5) (.bool true)) _
      rw [← ha523]
      clear ha523 hs501 hd502 h503 h504 h505 h506 h507
      refine st_nil ?_
      clear h529
      refine hK _ _ ?_
      clear hK K
      refine wp_ret (ret_k hd525 (v := .tuple #[nv (signedR false ((belowB (asM a)) != (belowB (asM b)))), .bool true]) (res_ct rfl h526 h530 (l_two Tryd.isAgg23 Tryd.sizeOf23 hb514)) ?_)
      refine ⟨?_, hN521⟩
      show Ending.returned (.tuple #[nv (signedR false ((belowB (asM a)) != (belowB (asM b)))), .bool true]) = Ending.returned (.tuple #[nv ((rDivM a b).1), .bool ((rDivM a b).2)])
      first | rfl | (simp [rDivM, ht86, ht137, ht188, ht410, ht427, ht480])
    refine wp_g0 [true, true, true, true, true, true, true] [] 76
      [ve (nv (asM b)),
       ve (.bool false),
       ve (.bool false),
       ve (nv (asM a)),
       ve (.bool true),
       ve (.bool true),
       ve (.bool true)] hs468 (.eq (.eq (.eq (.eq (.eq (.eq (.eq (.nil)))))))) ?_ ?_
    · skip
      refine .o1 (tk rfl rfl fun _ w hn k => ⟨_, v_load rfl (k.fx 7 h473) (l_two Tryd.isAgg23 Tryd.sizeOf23 (hb478.new_ hn)), rfl⟩) ?_
      refine .o1 (ck rfl rfl rfl (fun _ w hn k => ⟨#[nv (asM b)], args1 (k.eq1 0 52 rfl), fun _ => by kernel_rfl, rinf_c (asM b) _⟩) fun _ => congrArg Value.bool ht480) ?_
      refine .o1 (tk rfl rfl fun _ w hn k => ⟨_, v_move rfl (k.eq1 1 53 rfl), rfl⟩) ?_
      refine .o1 (tg rfl rfl rfl (fun _ _ k => k.eq1 2 54 rfl) fun _ w hn k => ⟨_, v_load rfl (k.fx 6 h472) (l_two Tryd.isAgg23 Tryd.sizeOf23 (hb477.new_ hn)), rfl⟩) ?_
      refine .o1 (cg rfl rfl rfl (fun _ _ k => k.eq1 2 54 rfl) rfl (fun _ w hn k => ⟨#[nv (asM a)], args1 (k.eq1 3 55 rfl), fun _ => by kernel_rfl, rnought_c (asM a) _⟩) fun _ => congrArg Value.bool ht410) ?_
      refine .o1 (tk rfl rfl fun _ w hn k => ⟨_, v_pickF rfl (k.eq1 2 54 rfl) (k.eq1 4 56 rfl), rfl⟩) ?_
      refine .o1 (tk rfl rfl fun _ w hn k => ⟨_, v_assign rfl (k.eq1 5 57 rfl), rfl⟩) ?_
      exact .nil
    intro a531 w532 hn533 ha534
    have hs535 := ha534.size.trans hs468
    have hd536 := ha534.defers.trans hd469
    have h537 := ha534.fx 4 h470
    have h538 := ha534.fx 5 h471
    have h539 := ha534.fx 6 h472
    have h540 := ha534.fx 7 h473
    have h541 := ha534.fx 8 h474
    have h542 := ha534.ge 6 51 rfl
    have hb543 := hb476.new_ hn533
    have hb544 := hb477.new_ hn533
    have hb545 := hb478.new_ hn533
    have hN546 := hN479.transNew hn533
    clear hs468 hd469 h470 h471 h472 h473 h474 h475 hb476 hb477 hb478 hN479 ha534 hn533
    refine st_nil ?_
    refine hK _ _ ?_
    clear hK K
    refine wp_cond_true h542 ?_
    refine wp_seq_k fun K hK => ?_
    refine wp_g0 [true, true, false, false] [(2, false), (3, true)] 76
      [ve (.bool ((belowB (asM a)) != (belowB (asM b)))),
       ve (nv (signedR false ((belowB (asM a)) != (belowB (asM b))))),
       vt,
       vt] hs535 (.eq (.eq (.tt (.tt (.nil))))) ?_ ?_
    · skip
      refine .o1 (tk rfl rfl fun _ w hn k => ⟨_, v_move rfl (k.fx 8 h541), rfl⟩) ?_
      refine .o1 (ck rfl rfl rfl (fun _ w hn k => ⟨#[.bool false, .bool ((belowB (asM a)) != (belowB (asM b)))], args2 rfl (k.eq1 0 58 rfl), fun _ => by kernel_rfl, rsigned_c false ((belowB (asM a)) != (belowB (asM b))) _⟩) fun _ => rfl) ?_
      refine .off ?_
      refine .off ?_
      exact .nil
    intro a547 w548 hn549 ha550
    have hs551 := ha550.size.trans hs535
    have hd552 := ha550.defers.trans hd536
    have h553 := ha550.fx 4 h537
    have h554 := ha550.fx 5 h538
    have h555 := ha550.fx 6 h539
    have h556 := ha550.fx 7 h540
    have h557 := ha550.ge 1 59 rfl
    have hb558 := hb543.new_ hn549
    have hb559 := hb544.new_ hn549
    have hb560 := hb545.new_ hn549
    have hN561 := hN546.transNew hn549
    clear hs535 hd536 h537 h538 h539 h540 h541 h542 hb543 hb544 hb545 hN546 ha550 hn549
    obtain ⟨w562, -, hst563, hb564, hu565, hf566⟩ := s_two (v0 := iv ((signedR false ((belowB (asM a)) != (belowB (asM b)))).k)) (v1 := iv ((signedR false ((belowB (asM a)) != (belowB (asM b)))).n)) Tryd.sizeOf23 rfl rfl rfl hb558
    refine st_act rfl rfl fun K567 hL568 => a_store' rfl h553 h557 hst563 (hL568 _ _ trivial ?_)
    have hb569 := hf566 _ _ _ (fun h => hne46 h.symm) hb559
    have hb570 := hf566 _ _ _ (fun h => hne47 h.symm) hb560
    have hN571 := hN561.trans hu565 (fun k hk hkb => by subst hkb; omega)
    clear hb558 hst563 K567 hL568 hN561 hb559 hb560 hu565 hf566
    refine st_take rfl rfl (y_assign (v := .bool true) rfl rfl) rfl ?_
    obtain ⟨a572, ha573⟩ : ∃ a', a' = a547.put (some 5) (.bool true) := ⟨_, rfl⟩
    have hs574 : a572.tmps.size = 76 := by rw [ha573, put_size]; exact hs551
    have hd575 : a572.defers = [] := by rw [ha573, put_defers]; exact hd552
    have h576 : a572.eval (.tmp 4) = pv q16 := by rw [ha573, put_ne _ _ _ _ (by decide)]; exact h553
    have h577 : a572.eval (.tmp 6) = pv q37 := by rw [ha573, put_ne _ _ _ _ (by decide)]; exact h555
    have h578 : a572.eval (.tmp 7) = pv q41 := by rw [ha573, put_ne _ _ _ _ (by decide)]; exact h556
    have h579 : a572.eval (.tmp 59) = nv (signedR false ((belowB (asM a)) != (belowB (asM b)))) := by rw [ha573, put_ne _ _ _ _ (by decide)]; exact h557
    have h580 : a572.eval (.tmp 5) = .bool true := by rw [ha573]; exact put_same _ _ _ (by rw [hs551]; decide)
    show stepsTo _ _ _ _ _ (a547.put (some 5) (.bool true)) _
    rw [← ha573]
    clear ha573 hs551 hd552 h553 h554 h555 h556 h557
    refine st_nil ?_
    clear h579
    refine hK _ _ ?_
    clear hK K
    refine wp_ret (ret_k hd575 (v := .tuple #[nv (signedR false ((belowB (asM a)) != (belowB (asM b)))), .bool true]) (res_ct rfl h576 h580 (l_two Tryd.isAgg23 Tryd.sizeOf23 hb564)) ?_)
    refine ⟨?_, hN571⟩
    show Ending.returned (.tuple #[nv (signedR false ((belowB (asM a)) != (belowB (asM b)))), .bool true]) = Ending.returned (.tuple #[nv ((rDivM a b).1), .bool ((rDivM a b).2)])
    first | rfl | (simp [rDivM, ht86, ht137, ht188, ht410, ht427, ht480])
  refine wp_g0 [true, true, true, true, true, true, true, true, true, true, true, true, true, true, true, true, true, true, true, true, true, true, true] [] 76
    [ve (nv (asM a)),
     ve (.bool false),
     ve (.bool false),
     ve (nv (asM b)),
     ve (.bool false),
     ve (.bool false),
     ve (.bool false),
     ve (nv (asM a)),
     ve (.bool false),
     ve (.bool false),
     ve undef,
     ve undef,
     ve (.bool false),
     ve (.bool false),
     ve (.bool false),
     ve (nv (asM a)),
     ve (.bool false),
     ve (.bool false),
     ve undef,
     ve undef,
     ve (.bool false),
     ve (.bool false),
     ve (.bool false)] hs75 (.eq (.eq (.eq (.eq (.eq (.eq (.eq (.eq (.eq (.eq (.eq (.eq (.eq (.eq (.eq (.eq (.eq (.eq (.eq (.eq (.eq (.eq (.eq (.nil)))))))))))))))))))))))) ?_ ?_
  · skip
    refine .o1 (tk rfl rfl fun _ w hn k => ⟨_, v_load rfl (k.fx 6 h79) (l_two Tryd.isAgg23 Tryd.sizeOf23 (hb83.new_ hn)), rfl⟩) ?_
    refine .o1 (ck rfl rfl rfl (fun _ w hn k => ⟨#[nv (asM a)], args1 (k.eq1 0 19 rfl), fun _ => by kernel_rfl, rnan_c (asM a) _⟩) fun _ => congrArg Value.bool ht86) ?_
    refine .o1 (tk rfl rfl fun _ w hn k => ⟨_, v_move rfl (k.eq1 1 20 rfl), rfl⟩) ?_
    refine .o1 (tg rfl rfl rfl (fun _ _ k => k.eq1 2 21 rfl) fun _ w hn k => ⟨_, v_load rfl (k.fx 7 h80) (l_two Tryd.isAgg23 Tryd.sizeOf23 (hb84.new_ hn)), rfl⟩) ?_
    refine .o1 (cg rfl rfl rfl (fun _ _ k => k.eq1 2 21 rfl) rfl (fun _ w hn k => ⟨#[nv (asM b)], args1 (k.eq1 3 22 rfl), fun _ => by kernel_rfl, rnan_c (asM b) _⟩) fun _ => congrArg Value.bool ht137) ?_
    refine .o1 (tk rfl rfl fun _ w hn k => ⟨_, v_pickF rfl (k.eq1 2 21 rfl) (k.eq1 4 23 rfl), rfl⟩) ?_
    refine .o1 (tk rfl rfl fun _ w hn k => ⟨_, v_move rfl (k.eq1 5 24 rfl), rfl⟩) ?_
    refine .o1 (tg rfl rfl rfl (fun _ _ k => k.eq1 6 25 rfl) fun _ w hn k => ⟨_, v_load rfl (k.fx 6 h79) (l_two Tryd.isAgg23 Tryd.sizeOf23 (hb83.new_ hn)), rfl⟩) ?_
    refine .o1 (cg rfl rfl rfl (fun _ _ k => k.eq1 6 25 rfl) rfl (fun _ w hn k => ⟨#[nv (asM a)], args1 (k.eq1 7 26 rfl), fun _ => by kernel_rfl, rinf_c (asM a) _⟩) fun _ => congrArg Value.bool ht188) ?_
    refine .o1 (tg rfl rfl rfl (fun _ _ k => k.eq1 6 25 rfl) fun _ w hn k => ⟨_, v_move rfl (k.eq1 8 27 rfl), rfl⟩) ?_
    refine .o1 (sk rfl rfl rfl (fun _ _ _ k => k.eq1 9 28 rfl) (fun _ => rfl)) ?_
    refine .o1 (sk rfl rfl rfl (fun _ _ _ k => k.eq1 9 28 rfl) (fun _ => rfl)) ?_
    refine .o1 (tg rfl rfl rfl (fun _ _ k => k.eq1 6 25 rfl) fun _ w hn k => ⟨_, v_pickF rfl (k.eq1 9 28 rfl) rfl, rfl⟩) ?_
    refine .o1 (tk rfl rfl fun _ w hn k => ⟨_, v_pickF rfl (k.eq1 6 25 rfl) (k.eq1 12 31 rfl), rfl⟩) ?_
    refine .o1 (tk rfl rfl fun _ w hn k => ⟨_, v_move rfl (k.eq1 13 32 rfl), rfl⟩) ?_
    refine .o1 (tg rfl rfl rfl (fun _ _ k => k.eq1 14 33 rfl) fun _ w hn k => ⟨_, v_load rfl (k.fx 6 h79) (l_two Tryd.isAgg23 Tryd.sizeOf23 (hb83.new_ hn)), rfl⟩) ?_
    refine .o1 (cg rfl rfl rfl (fun _ _ k => k.eq1 14 33 rfl) rfl (fun _ w hn k => ⟨#[nv (asM a)], args1 (k.eq1 15 34 rfl), fun _ => by kernel_rfl, rnought_c (asM a) _⟩) fun _ => congrArg Value.bool ht410) ?_
    refine .o1 (tg rfl rfl rfl (fun _ _ k => k.eq1 14 33 rfl) fun _ w hn k => ⟨_, v_move rfl (k.eq1 16 35 rfl), rfl⟩) ?_
    refine .o1 (sk rfl rfl rfl (fun _ _ _ k => k.eq1 17 36 rfl) (fun _ => rfl)) ?_
    refine .o1 (sk rfl rfl rfl (fun _ _ _ k => k.eq1 17 36 rfl) (fun _ => rfl)) ?_
    refine .o1 (tg rfl rfl rfl (fun _ _ k => k.eq1 14 33 rfl) fun _ w hn k => ⟨_, v_pickF rfl (k.eq1 17 36 rfl) rfl, rfl⟩) ?_
    refine .o1 (tk rfl rfl fun _ w hn k => ⟨_, v_pickF rfl (k.eq1 14 33 rfl) (k.eq1 20 39 rfl), rfl⟩) ?_
    refine .o1 (tk rfl rfl fun _ w hn k => ⟨_, v_assign rfl (k.eq1 21 40 rfl), rfl⟩) ?_
    exact .nil
  intro a581 w582 hn583 ha584
  have hs585 := ha584.size.trans hs75
  have hd586 := ha584.defers.trans hd76
  have h587 := ha584.fx 4 h77
  have h588 := ha584.fx 5 h78
  have h589 := ha584.fx 6 h79
  have h590 := ha584.fx 7 h80
  have h591 := ha584.fx 8 h81
  have h592 := ha584.ge 22 18 rfl
  have hb593 := hb82.new_ hn583
  have hb594 := hb83.new_ hn583
  have hb595 := hb84.new_ hn583
  have hN596 := hN85.transNew hn583
  clear hs75 hd76 h77 h78 h79 h80 h81 hb82 hb83 hb84 hN85 ha584 hn583
  refine st_nil ?_
  refine hK _ _ ?_
  clear hK K
  refine wp_cond_false h592 ?_
  refine wp_seq_k fun K hK => ?_
  refine wp_g0 [true, true, true, true, true, true, true] [] 76
    [ve (nv (asM a)),
     ve (.bool false),
     ve (.bool false),
     ve (nv (asM b)),
     ve (.bool (noughtB (asM b))),
     ve (.bool (noughtB (asM b))),
     ve (.bool (noughtB (asM b)))] hs585 (.eq (.eq (.eq (.eq (.eq (.eq (.eq (.nil)))))))) ?_ ?_
  · skip
    refine .o1 (tk rfl rfl fun _ w hn k => ⟨_, v_load rfl (k.fx 6 h589) (l_two Tryd.isAgg23 Tryd.sizeOf23 (hb594.new_ hn)), rfl⟩) ?_
    refine .o1 (ck rfl rfl rfl (fun _ w hn k => ⟨#[nv (asM a)], args1 (k.eq1 0 43 rfl), fun _ => by kernel_rfl, rinf_c (asM a) _⟩) fun _ => congrArg Value.bool ht188) ?_
    refine .o1 (tk rfl rfl fun _ w hn k => ⟨_, v_move rfl (k.eq1 1 44 rfl), rfl⟩) ?_
    refine .o1 (tg rfl rfl rfl (fun _ _ k => k.eq1 2 45 rfl) fun _ w hn k => ⟨_, v_load rfl (k.fx 7 h590) (l_two Tryd.isAgg23 Tryd.sizeOf23 (hb595.new_ hn)), rfl⟩) ?_
    refine .o1 (cg rfl rfl rfl (fun _ _ k => k.eq1 2 45 rfl) rfl (fun _ w hn k => ⟨#[nv (asM b)], args1 (k.eq1 3 46 rfl), fun _ => by kernel_rfl, rnought_c (asM b) _⟩) fun _ => rfl) ?_
    refine .o1 (tk rfl rfl fun _ w hn k => ⟨_, v_pickF rfl (k.eq1 2 45 rfl) (k.eq1 4 47 rfl), rfl⟩) ?_
    refine .o1 (tk rfl rfl fun _ w hn k => ⟨_, v_assign rfl (k.eq1 5 48 rfl), rfl⟩) ?_
    exact .nil
  intro a597 w598 hn599 ha600
  have hs601 := ha600.size.trans hs585
  have hd602 := ha600.defers.trans hd586
  have h603 := ha600.fx 4 h587
  have h604 := ha600.fx 5 h588
  have h605 := ha600.fx 6 h589
  have h606 := ha600.fx 7 h590
  have h607 := ha600.fx 8 h591
  have h608 := ha600.ge 6 42 rfl
  have hb609 := hb593.new_ hn599
  have hb610 := hb594.new_ hn599
  have hb611 := hb595.new_ hn599
  have hN612 := hN596.transNew hn599
  clear hs585 hd586 h587 h588 h589 h590 h591 h592 hb593 hb594 hb595 hN596 ha600 hn599
  refine st_nil ?_
  refine hK _ _ ?_
  clear hK K
  rcases Bool.eq_false_or_eq_true (noughtB (asM b)) with ht613 | ht613
  · skip
    have hv614 : a597.eval (.tmp 42) = .bool true := h608.trans (congrArg Value.bool ht613)
    clear h608
    refine wp_cond_true hv614 ?_
    refine wp_seq_k fun K hK => ?_
    refine wp_g0 [true, true, false, false] [(2, false), (3, true)] 76
      [ve (.bool ((belowB (asM a)) != (belowB (asM b)))),
       ve (nv (signedR true ((belowB (asM a)) != (belowB (asM b))))),
       vt,
       vt] hs601 (.eq (.eq (.tt (.tt (.nil))))) ?_ ?_
    · skip
      refine .o1 (tk rfl rfl fun _ w hn k => ⟨_, v_move rfl (k.fx 8 h607), rfl⟩) ?_
      refine .o1 (ck rfl rfl rfl (fun _ w hn k => ⟨#[.bool true, .bool ((belowB (asM a)) != (belowB (asM b)))], args2 rfl (k.eq1 0 49 rfl), fun _ => by kernel_rfl, rsigned_c true ((belowB (asM a)) != (belowB (asM b))) _⟩) fun _ => rfl) ?_
      refine .off ?_
      refine .off ?_
      exact .nil
    intro a615 w616 hn617 ha618
    have hs619 := ha618.size.trans hs601
    have hd620 := ha618.defers.trans hd602
    have h621 := ha618.fx 4 h603
    have h622 := ha618.fx 5 h604
    have h623 := ha618.fx 6 h605
    have h624 := ha618.fx 7 h606
    have h625 := ha618.ge 1 50 rfl
    have hb626 := hb609.new_ hn617
    have hb627 := hb610.new_ hn617
    have hb628 := hb611.new_ hn617
    have hN629 := hN612.transNew hn617
    clear hs601 hd602 h603 h604 h605 h606 h607 hv614 hb609 hb610 hb611 hN612 ha618 hn617
    obtain ⟨w630, -, hst631, hb632, hu633, hf634⟩ := s_two (v0 := iv ((signedR true ((belowB (asM a)) != (belowB (asM b)))).k)) (v1 := iv ((signedR true ((belowB (asM a)) != (belowB (asM b)))).n)) Tryd.sizeOf23 rfl rfl rfl hb626
    refine st_act rfl rfl fun K635 hL636 => a_store' rfl h621 h625 hst631 (hL636 _ _ trivial ?_)
    have hb637 := hf634 _ _ _ (fun h => hne46 h.symm) hb627
    have hb638 := hf634 _ _ _ (fun h => hne47 h.symm) hb628
    have hN639 := hN629.trans hu633 (fun k hk hkb => by subst hkb; omega)
    clear hb626 hst631 K635 hL636 hN629 hb627 hb628 hu633 hf634
    refine st_take rfl rfl (y_assign (v := .bool true) rfl rfl) rfl ?_
    obtain ⟨a640, ha641⟩ : ∃ a', a' = a615.put (some 5) (.bool true) := ⟨_, rfl⟩
    have hs642 : a640.tmps.size = 76 := by rw [ha641, put_size]; exact hs619
    have hd643 : a640.defers = [] := by rw [ha641, put_defers]; exact hd620
    have h644 : a640.eval (.tmp 4) = pv q16 := by rw [ha641, put_ne _ _ _ _ (by decide)]; exact h621
    have h645 : a640.eval (.tmp 6) = pv q37 := by rw [ha641, put_ne _ _ _ _ (by decide)]; exact h623
    have h646 : a640.eval (.tmp 7) = pv q41 := by rw [ha641, put_ne _ _ _ _ (by decide)]; exact h624
    have h647 : a640.eval (.tmp 50) = nv (signedR true ((belowB (asM a)) != (belowB (asM b)))) := by rw [ha641, put_ne _ _ _ _ (by decide)]; exact h625
    have h648 : a640.eval (.tmp 5) = .bool true := by rw [ha641]; exact put_same _ _ _ (by rw [hs619]; decide)
    show stepsTo _ _ _ _ _ (a615.put (some 5) (.bool true)) _
    rw [← ha641]
    clear ha641 hs619 hd620 h621 h622 h623 h624 h625
    refine st_nil ?_
    clear h647
    refine hK _ _ ?_
    clear hK K
    refine wp_ret (ret_k hd643 (v := .tuple #[nv (signedR true ((belowB (asM a)) != (belowB (asM b)))), .bool true]) (res_ct rfl h644 h648 (l_two Tryd.isAgg23 Tryd.sizeOf23 hb632)) ?_)
    refine ⟨?_, hN639⟩
    show Ending.returned (.tuple #[nv (signedR true ((belowB (asM a)) != (belowB (asM b)))), .bool true]) = Ending.returned (.tuple #[nv ((rDivM a b).1), .bool ((rDivM a b).2)])
    first | rfl | (simp [rDivM, ht86, ht137, ht188, ht410, ht613])
  have hv649 : a597.eval (.tmp 42) = .bool false := h608.trans (congrArg Value.bool ht613)
  clear h608
  refine wp_cond_false hv649 ?_
  refine wp_seq_k fun K hK => ?_
  rcases Bool.eq_false_or_eq_true (infB ((asM b).k)) with ht650 | ht650
  · skip
    refine wp_g0 [true, true, true, true, true, true, true] [] 76
      [ve (nv (asM b)),
       ve (.bool true),
       ve (.bool true),
       ve undef,
       ve undef,
       ve (.bool true),
       ve (.bool true)] hs601 (.eq (.eq (.eq (.eq (.eq (.eq (.eq (.nil)))))))) ?_ ?_
    · skip
      refine .o1 (tk rfl rfl fun _ w hn k => ⟨_, v_load rfl (k.fx 7 h606) (l_two Tryd.isAgg23 Tryd.sizeOf23 (hb611.new_ hn)), rfl⟩) ?_
      refine .o1 (ck rfl rfl rfl (fun _ w hn k => ⟨#[nv (asM b)], args1 (k.eq1 0 52 rfl), fun _ => by kernel_rfl, rinf_c (asM b) _⟩) fun _ => congrArg Value.bool ht650) ?_
      refine .o1 (tk rfl rfl fun _ w hn k => ⟨_, v_move rfl (k.eq1 1 53 rfl), rfl⟩) ?_
      refine .o1 (sk rfl rfl rfl (fun _ _ _ k => k.eq1 2 54 rfl) (fun _ => rfl)) ?_
      refine .o1 (sk rfl rfl rfl (fun _ _ _ k => k.eq1 2 54 rfl) (fun _ => rfl)) ?_
      refine .o1 (tk rfl rfl fun _ w hn k => ⟨_, v_pickT rfl (k.eq1 2 54 rfl) rfl, rfl⟩) ?_
      refine .o1 (tk rfl rfl fun _ w hn k => ⟨_, v_assign rfl (k.eq1 5 57 rfl), rfl⟩) ?_
      exact .nil
    intro a651 w652 hn653 ha654
    have hs655 := ha654.size.trans hs601
    have hd656 := ha654.defers.trans hd602
    have h657 := ha654.fx 4 h603
    have h658 := ha654.fx 5 h604
    have h659 := ha654.fx 6 h605
    have h660 := ha654.fx 7 h606
    have h661 := ha654.fx 8 h607
    have h662 := ha654.ge 6 51 rfl
    have hb663 := hb609.new_ hn653
    have hb664 := hb610.new_ hn653
    have hb665 := hb611.new_ hn653
    have hN666 := hN612.transNew hn653
    clear hs601 hd602 h603 h604 h605 h606 h607 hv649 hb609 hb610 hb611 hN612 ha654 hn653
    refine st_nil ?_
    refine hK _ _ ?_
    clear hK K
    refine wp_cond_true h662 ?_
    refine wp_seq_k fun K hK => ?_
    refine wp_g0 [true, true, false, false] [(2, false), (3, true)] 76
      [ve (.bool ((belowB (asM a)) != (belowB (asM b)))),
       ve (nv (signedR false ((belowB (asM a)) != (belowB (asM b))))),
       vt,
       vt] hs655 (.eq (.eq (.tt (.tt (.nil))))) ?_ ?_
    · skip
      refine .o1 (tk rfl rfl fun _ w hn k => ⟨_, v_move rfl (k.fx 8 h661), rfl⟩) ?_
      refine .o1 (ck rfl rfl rfl (fun _ w hn k => ⟨#[.bool false, .bool ((belowB (asM a)) != (belowB (asM b)))], args2 rfl (k.eq1 0 58 rfl), fun _ => by kernel_rfl, rsigned_c false ((belowB (asM a)) != (belowB (asM b))) _⟩) fun _ => rfl) ?_
      refine .off ?_
      refine .off ?_
      exact .nil
    intro a667 w668 hn669 ha670
    have hs671 := ha670.size.trans hs655
    have hd672 := ha670.defers.trans hd656
    have h673 := ha670.fx 4 h657
    have h674 := ha670.fx 5 h658
    have h675 := ha670.fx 6 h659
    have h676 := ha670.fx 7 h660
    have h677 := ha670.ge 1 59 rfl
    have hb678 := hb663.new_ hn669
    have hb679 := hb664.new_ hn669
    have hb680 := hb665.new_ hn669
    have hN681 := hN666.transNew hn669
    clear hs655 hd656 h657 h658 h659 h660 h661 h662 hb663 hb664 hb665 hN666 ha670 hn669
    obtain ⟨w682, -, hst683, hb684, hu685, hf686⟩ := s_two (v0 := iv ((signedR false ((belowB (asM a)) != (belowB (asM b)))).k)) (v1 := iv ((signedR false ((belowB (asM a)) != (belowB (asM b)))).n)) Tryd.sizeOf23 rfl rfl rfl hb678
    refine st_act rfl rfl fun K687 hL688 => a_store' rfl h673 h677 hst683 (hL688 _ _ trivial ?_)
    have hb689 := hf686 _ _ _ (fun h => hne46 h.symm) hb679
    have hb690 := hf686 _ _ _ (fun h => hne47 h.symm) hb680
    have hN691 := hN681.trans hu685 (fun k hk hkb => by subst hkb; omega)
    clear hb678 hst683 K687 hL688 hN681 hb679 hb680 hu685 hf686
    refine st_take rfl rfl (y_assign (v := .bool true) rfl rfl) rfl ?_
    obtain ⟨a692, ha693⟩ : ∃ a', a' = a667.put (some 5) (.bool true) := ⟨_, rfl⟩
    have hs694 : a692.tmps.size = 76 := by rw [ha693, put_size]; exact hs671
    have hd695 : a692.defers = [] := by rw [ha693, put_defers]; exact hd672
    have h696 : a692.eval (.tmp 4) = pv q16 := by rw [ha693, put_ne _ _ _ _ (by decide)]; exact h673
    have h697 : a692.eval (.tmp 6) = pv q37 := by rw [ha693, put_ne _ _ _ _ (by decide)]; exact h675
    have h698 : a692.eval (.tmp 7) = pv q41 := by rw [ha693, put_ne _ _ _ _ (by decide)]; exact h676
    have h699 : a692.eval (.tmp 59) = nv (signedR false ((belowB (asM a)) != (belowB (asM b)))) := by rw [ha693, put_ne _ _ _ _ (by decide)]; exact h677
    have h700 : a692.eval (.tmp 5) = .bool true := by rw [ha693]; exact put_same _ _ _ (by rw [hs671]; decide)
    show stepsTo _ _ _ _ _ (a667.put (some 5) (.bool true)) _
    rw [← ha693]
    clear ha693 hs671 hd672 h673 h674 h675 h676 h677
    refine st_nil ?_
    clear h699
    refine hK _ _ ?_
    clear hK K
    refine wp_ret (ret_k hd695 (v := .tuple #[nv (signedR false ((belowB (asM a)) != (belowB (asM b)))), .bool true]) (res_ct rfl h696 h700 (l_two Tryd.isAgg23 Tryd.sizeOf23 hb684)) ?_)
    refine ⟨?_, hN691⟩
    show Ending.returned (.tuple #[nv (signedR false ((belowB (asM a)) != (belowB (asM b)))), .bool true]) = Ending.returned (.tuple #[nv ((rDivM a b).1), .bool ((rDivM a b).2)])
    first | rfl | (simp [rDivM, ht86, ht137, ht188, ht410, ht613, ht650])
  refine wp_g0 [true, true, true, true, true, true, true] [] 76
    [ve (nv (asM b)),
     ve (.bool false),
     ve (.bool false),
     ve (nv (asM a)),
     ve (.bool false),
     ve (.bool false),
     ve (.bool false)] hs601 (.eq (.eq (.eq (.eq (.eq (.eq (.eq (.nil)))))))) ?_ ?_
  · skip
    refine .o1 (tk rfl rfl fun _ w hn k => ⟨_, v_load rfl (k.fx 7 h606) (l_two Tryd.isAgg23 Tryd.sizeOf23 (hb611.new_ hn)), rfl⟩) ?_
    refine .o1 (ck rfl rfl rfl (fun _ w hn k => ⟨#[nv (asM b)], args1 (k.eq1 0 52 rfl), fun _ => by kernel_rfl, rinf_c (asM b) _⟩) fun _ => congrArg Value.bool ht650) ?_
    refine .o1 (tk rfl rfl fun _ w hn k => ⟨_, v_move rfl (k.eq1 1 53 rfl), rfl⟩) ?_
    refine .o1 (tg rfl rfl rfl (fun _ _ k => k.eq1 2 54 rfl) fun _ w hn k => ⟨_, v_load rfl (k.fx 6 h605) (l_two Tryd.isAgg23 Tryd.sizeOf23 (hb610.new_ hn)), rfl⟩) ?_
    refine .o1 (cg rfl rfl rfl (fun _ _ k => k.eq1 2 54 rfl) rfl (fun _ w hn k => ⟨#[nv (asM a)], args1 (k.eq1 3 55 rfl), fun _ => by kernel_rfl, rnought_c (asM a) _⟩) fun _ => congrArg Value.bool ht410) ?_
    refine .o1 (tk rfl rfl fun _ w hn k => ⟨_, v_pickF rfl (k.eq1 2 54 rfl) (k.eq1 4 56 rfl), rfl⟩) ?_
    refine .o1 (tk rfl rfl fun _ w hn k => ⟨_, v_assign rfl (k.eq1 5 57 rfl), rfl⟩) ?_
    exact .nil
  intro a701 w702 hn703 ha704
  have hs705 := ha704.size.trans hs601
  have hd706 := ha704.defers.trans hd602
  have h707 := ha704.fx 4 h603
  have h708 := ha704.fx 5 h604
  have h709 := ha704.fx 6 h605
  have h710 := ha704.fx 7 h606
  have h711 := ha704.fx 8 h607
  have h712 := ha704.ge 6 51 rfl
  have hb713 := hb609.new_ hn703
  have hb714 := hb610.new_ hn703
  have hb715 := hb611.new_ hn703
  have hN716 := hN612.transNew hn703
  clear hs601 hd602 h603 h604 h605 h606 h607 hv649 hb609 hb610 hb611 hN612 ha704 hn703
  refine st_nil ?_
  refine hK _ _ ?_
  clear hK K
  refine wp_cond_false h712 ?_
  refine wp_seq_k fun K hK => ?_
  rcases Bool.eq_false_or_eq_true (decide ((((asM a).n).tmod ((asM b).n)) = 0)) with ht717 | ht717
  · skip
    have ht717d := of_decide_eq_true ht717
    have hw_a := whole_of (a := a) ht86 ht188 ht410
    have hnz_a := hw_a.2
    have hw_b := whole_of (a := b) ht137 ht650 ht613
    have hnz_b := hw_b.2
    have hm := tmod_nz_bd (asM a).n hnz_b
    have hd := tdiv_nz_bd (asM a).n hnz_b
    refine wp_g0 [true, true, true, true, true, true, true] [] 76
      [ve (.pointer (some ⟨q37, 1, none⟩)),
       ve (iv ((asM a).n)),
       ve (.pointer (some ⟨q41, 1, none⟩)),
       ve (iv ((asM b).n)),
       ve (iv (((asM a).n).tmod ((asM b).n))),
       ve (.bool false),
       ve (.bool false)] hs705 (.eq (.eq (.eq (.eq (.eq (.eq (.eq (.nil)))))))) ?_ ?_
    · skip
      refine .o1 (tk rfl rfl fun _ w hn k => ⟨_, v_field rfl (k.fx 6 h709) (fun w => rfl), rfl⟩) ?_
      refine .o1 (tk rfl rfl fun _ w hn k => ⟨_, v_load rfl (k.eq1 0 61 rfl) (l_one Tryd.isAgg3 ((hb714.new_ hn).cell 1)), rfl⟩) ?_
      refine .o1 (tk rfl rfl fun _ w hn k => ⟨_, v_field rfl (k.fx 7 h710) (fun w => rfl), rfl⟩) ?_
      refine .o1 (tk rfl rfl fun _ w hn k => ⟨_, v_load rfl (k.eq1 2 63 rfl) (l_one Tryd.isAgg3 ((hb715.new_ hn).cell 1)), rfl⟩) ?_
      refine .o1 (tk rfl rfl fun _ w hn k => ⟨_, v_bin rfl (k.eq1 1 62 rfl) (k.eq1 3 64 rfl) (fun _ => rfl) (r_remI rfl (by omega)), rfl⟩) ?_
      refine .o1 (tk rfl rfl fun _ w hn k => ⟨_, v_bin rfl (k.eq1 4 65 rfl) rfl (fun _ => rfl) (r_neq ht717), rfl⟩) ?_
      refine .o1 (tk rfl rfl fun _ w hn k => ⟨_, v_assign rfl (k.eq1 5 66 rfl), rfl⟩) ?_
      exact .nil
    intro a718 w719 hn720 ha721
    have hs722 := ha721.size.trans hs705
    have hd723 := ha721.defers.trans hd706
    have h724 := ha721.fx 4 h707
    have h725 := ha721.fx 5 h708
    have h726 := ha721.fx 6 h709
    have h727 := ha721.fx 7 h710
    have h728 := ha721.ge 6 60 rfl
    have hb729 := hb713.new_ hn720
    have hb730 := hb714.new_ hn720
    have hb731 := hb715.new_ hn720
    have hN732 := hN716.transNew hn720
    clear hs705 hd706 h707 h708 h709 h710 h711 h712 hb713 hb714 hb715 hN716 ha721 hn720
    refine st_nil ?_
    refine hK _ _ ?_
    clear hK K
    refine wp_cond_false h728 ?_
    refine wp_skip ?_
    refine hK _ _ ?_
    clear hK K
    refine wp_seq_k fun K hK => ?_
    refine wp_g0 [true, true, true, true, true, true, true, true, false, false] [(8, false), (9, true)] 76
      [ve (.pointer (some ⟨q37, 1, none⟩)),
       ve (iv ((asM a).n)),
       ve (.pointer (some ⟨q41, 1, none⟩)),
       ve (iv ((asM b).n)),
       ve (iv (((asM a).n).tdiv ((asM b).n))),
       ve (.tuple #[nv ((ofM (((asM a).n).tdiv ((asM b).n))).1), .bool ((ofM (((asM a).n).tdiv ((asM b).n))).2)]),
       ve (nv ((ofM (((asM a).n).tdiv ((asM b).n))).1)),
       ve (.bool ((ofM (((asM a).n).tdiv ((asM b).n))).2)),
       vt,
       vt] hs722 (.eq (.eq (.eq (.eq (.eq (.eq (.eq (.eq (.tt (.tt (.nil))))))))))) ?_ ?_
    · skip
      refine .o1 (tk rfl rfl fun _ w hn k => ⟨_, v_field rfl (k.fx 6 h726) (fun w => rfl), rfl⟩) ?_
      refine .o1 (tk rfl rfl fun _ w hn k => ⟨_, v_load rfl (k.eq1 0 68 rfl) (l_one Tryd.isAgg3 ((hb730.new_ hn).cell 1)), rfl⟩) ?_
      refine .o1 (tk rfl rfl fun _ w hn k => ⟨_, v_field rfl (k.fx 7 h727) (fun w => rfl), rfl⟩) ?_
      refine .o1 (tk rfl rfl fun _ w hn k => ⟨_, v_load rfl (k.eq1 2 70 rfl) (l_one Tryd.isAgg3 ((hb731.new_ hn).cell 1)), rfl⟩) ?_
      refine .o1 (tk rfl rfl fun _ w hn k => ⟨_, v_bin rfl (k.eq1 1 69 rfl) (k.eq1 3 71 rfl) (fun _ => rfl) (r_quoI rfl (by omega) (by omega)), rfl⟩) ?_
      refine .o1 (ck rfl rfl rfl (fun _ w hn k => ⟨#[iv (((asM a).n).tdiv ((asM b).n))], args1 (k.eq1 4 72 rfl), fun _ => by kernel_rfl, rof_c (((asM a).n).tdiv ((asM b).n)) _⟩) fun _ => rfl) ?_
      refine .o1 (tk rfl rfl fun _ w hn k => ⟨_, v_extract rfl (k.eq1 5 73 rfl) rfl, rfl⟩) ?_
      refine .o1 (tk rfl rfl fun _ w hn k => ⟨_, v_extract rfl (k.eq1 5 73 rfl) rfl, rfl⟩) ?_
      refine .off ?_
      refine .off ?_
      exact .nil
    intro a733 w734 hn735 ha736
    have hs737 := ha736.size.trans hs722
    have hd738 := ha736.defers.trans hd723
    have h739 := ha736.fx 4 h724
    have h740 := ha736.fx 5 h725
    have h741 := ha736.ge 6 74 rfl
    have h742 := ha736.ge 7 75 rfl
    have hb743 := hb729.new_ hn735
    have hN744 := hN732.transNew hn735
    clear hs722 hd723 h724 h725 h726 h727 h728 hb729 hb730 hq48 hb731 hq49 hN732 ha736 hn735
    obtain ⟨w745, -, hst746, hb747, hu748, hf749⟩ := s_two (v0 := iv ((ofM (((asM a).n).tdiv ((asM b).n))).1.k)) (v1 := iv ((ofM (((asM a).n).tdiv ((asM b).n))).1.n)) Tryd.sizeOf23 rfl rfl rfl hb743
    refine st_act rfl rfl fun K750 hL751 => a_store' rfl h739 h741 hst746 (hL751 _ _ trivial ?_)
    have hN752 := hN744.trans hu748 (fun k hk hkb => by subst hkb; omega)
    clear hb743 hst746 K750 hL751 hN744 hu748 hf749
    refine st_take rfl rfl (y_assign (v := .bool ((ofM (((asM a).n).tdiv ((asM b).n))).2)) rfl h742) rfl ?_
    obtain ⟨a753, ha754⟩ : ∃ a', a' = a733.put (some 5) (.bool ((ofM (((asM a).n).tdiv ((asM b).n))).2)) := ⟨_, rfl⟩
    have hs755 : a753.tmps.size = 76 := by rw [ha754, put_size]; exact hs737
    have hd756 : a753.defers = [] := by rw [ha754, put_defers]; exact hd738
    have h757 : a753.eval (.tmp 4) = pv q16 := by rw [ha754, put_ne _ _ _ _ (by decide)]; exact h739
    have h758 : a753.eval (.tmp 74) = nv ((ofM (((asM a).n).tdiv ((asM b).n))).1) := by rw [ha754, put_ne _ _ _ _ (by decide)]; exact h741
    have h759 : a753.eval (.tmp 75) = .bool ((ofM (((asM a).n).tdiv ((asM b).n))).2) := by rw [ha754, put_ne _ _ _ _ (by decide)]; exact h742
    have h760 : a753.eval (.tmp 5) = .bool ((ofM (((asM a).n).tdiv ((asM b).n))).2) := by rw [ha754]; exact put_same _ _ _ (by rw [hs737]; decide)
    show stepsTo _ _ _ _ _ (a733.put (some 5) (.bool ((ofM (((asM a).n).tdiv ((asM b).n))).2))) _
    rw [← ha754]
    clear ha754 hs737 hd738 h739 h740 h741 h742
    refine st_nil ?_
    clear h758 h759
    refine hK _ _ ?_
    clear hK K
    refine wp_ret (ret_k hd756 (v := .tuple #[nv ((ofM (((asM a).n).tdiv ((asM b).n))).1), .bool ((ofM (((asM a).n).tdiv ((asM b).n))).2)]) (res_ct rfl h757 h760 (l_two Tryd.isAgg23 Tryd.sizeOf23 hb747)) ?_)
    refine ⟨?_, hN752⟩
    show Ending.returned (.tuple #[nv ((ofM (((asM a).n).tdiv ((asM b).n))).1), .bool ((ofM (((asM a).n).tdiv ((asM b).n))).2)]) = Ending.returned (.tuple #[nv ((rDivM a b).1), .bool ((rDivM a b).2)])
    first | rfl | (simp [rDivM, ht86, ht137, ht188, ht410, ht613, ht650, ht717])
  have ht717d := of_decide_eq_false ht717
  have hw_a := whole_of (a := a) ht86 ht188 ht410
  have hnz_a := hw_a.2
  have hw_b := whole_of (a := b) ht137 ht650 ht613
  have hnz_b := hw_b.2
  have hm := tmod_nz_bd (asM a).n hnz_b
  have hd := tdiv_nz_bd (asM a).n hnz_b
  refine wp_g0 [true, true, true, true, true, true, true] [] 76
    [ve (.pointer (some ⟨q37, 1, none⟩)),
     ve (iv ((asM a).n)),
     ve (.pointer (some ⟨q41, 1, none⟩)),
     ve (iv ((asM b).n)),
     ve (iv (((asM a).n).tmod ((asM b).n))),
     ve (.bool true),
     ve (.bool true)] hs705 (.eq (.eq (.eq (.eq (.eq (.eq (.eq (.nil)))))))) ?_ ?_
  · skip
    refine .o1 (tk rfl rfl fun _ w hn k => ⟨_, v_field rfl (k.fx 6 h709) (fun w => rfl), rfl⟩) ?_
    refine .o1 (tk rfl rfl fun _ w hn k => ⟨_, v_load rfl (k.eq1 0 61 rfl) (l_one Tryd.isAgg3 ((hb714.new_ hn).cell 1)), rfl⟩) ?_
    refine .o1 (tk rfl rfl fun _ w hn k => ⟨_, v_field rfl (k.fx 7 h710) (fun w => rfl), rfl⟩) ?_
    refine .o1 (tk rfl rfl fun _ w hn k => ⟨_, v_load rfl (k.eq1 2 63 rfl) (l_one Tryd.isAgg3 ((hb715.new_ hn).cell 1)), rfl⟩) ?_
    refine .o1 (tk rfl rfl fun _ w hn k => ⟨_, v_bin rfl (k.eq1 1 62 rfl) (k.eq1 3 64 rfl) (fun _ => rfl) (r_remI rfl (by omega)), rfl⟩) ?_
    refine .o1 (tk rfl rfl fun _ w hn k => ⟨_, v_bin rfl (k.eq1 4 65 rfl) rfl (fun _ => rfl) (r_neq ht717), rfl⟩) ?_
    refine .o1 (tk rfl rfl fun _ w hn k => ⟨_, v_assign rfl (k.eq1 5 66 rfl), rfl⟩) ?_
    exact .nil
  intro a761 w762 hn763 ha764
  have hs765 := ha764.size.trans hs705
  have hd766 := ha764.defers.trans hd706
  have h767 := ha764.fx 4 h707
  have h768 := ha764.fx 5 h708
  have h769 := ha764.fx 6 h709
  have h770 := ha764.fx 7 h710
  have h771 := ha764.ge 6 60 rfl
  have hb772 := hb713.new_ hn763
  have hb773 := hb714.new_ hn763
  have hb774 := hb715.new_ hn763
  have hN775 := hN716.transNew hn763
  clear hs705 hd706 h707 h708 h709 h710 h711 h712 hb713 hb714 hb715 hN716 ha764 hn763
  refine st_nil ?_
  refine hK _ _ ?_
  clear hK K
  refine wp_cond_true h771 ?_
  refine wp_seq_k fun K hK => ?_
  refine wp_g0 [true, false, false] [(1, false), (2, true)] 76
    [ve (nv (Nm.mk 2 0)),
     vt,
     vt] hs765 (.eq (.tt (.tt (.nil)))) ?_ ?_
  · skip
    refine .o1 (ck rfl rfl rfl (fun _ w hn k => ⟨#[], rfl, fun _ => by kernel_rfl, rNaN_c  _⟩) fun _ => rfl) ?_
    refine .off ?_
    refine .off ?_
    exact .nil
  intro a776 w777 hn778 ha779
  have hs780 := ha779.size.trans hs765
  have hd781 := ha779.defers.trans hd766
  have h782 := ha779.fx 4 h767
  have h783 := ha779.fx 5 h768
  have h784 := ha779.fx 6 h769
  have h785 := ha779.fx 7 h770
  have h786 := ha779.ge 0 67 rfl
  have hb787 := hb772.new_ hn778
  have hb788 := hb773.new_ hn778
  have hb789 := hb774.new_ hn778
  have hN790 := hN775.transNew hn778
  clear hs765 hd766 h767 h768 h769 h770 h771 hb772 hb773 hb774 hN775 ha779 hn778
  obtain ⟨w791, -, hst792, hb793, hu794, hf795⟩ := s_two (v0 := iv 2) (v1 := iv 0) Tryd.sizeOf23 rfl rfl rfl hb787
  refine st_act rfl rfl fun K796 hL797 => a_store' rfl h782 h786 hst792 (hL797 _ _ trivial ?_)
  have hb798 := hf795 _ _ _ (fun h => hne46 h.symm) hb788
  have hb799 := hf795 _ _ _ (fun h => hne47 h.symm) hb789
  have hN800 := hN790.trans hu794 (fun k hk hkb => by subst hkb; omega)
  clear hb787 hst792 K796 hL797 hN790 hb788 hb789 hu794 hf795
  refine st_take rfl rfl (y_assign (v := .bool false) rfl rfl) rfl ?_
  obtain ⟨a801, ha802⟩ : ∃ a', a' = a776.put (some 5) (.bool false) := ⟨_, rfl⟩
  have hs803 : a801.tmps.size = 76 := by rw [ha802, put_size]; exact hs780
  have hd804 : a801.defers = [] := by rw [ha802, put_defers]; exact hd781
  have h805 : a801.eval (.tmp 4) = pv q16 := by rw [ha802, put_ne _ _ _ _ (by decide)]; exact h782
  have h806 : a801.eval (.tmp 6) = pv q37 := by rw [ha802, put_ne _ _ _ _ (by decide)]; exact h784
  have h807 : a801.eval (.tmp 7) = pv q41 := by rw [ha802, put_ne _ _ _ _ (by decide)]; exact h785
  have h808 : a801.eval (.tmp 67) = nv (Nm.mk 2 0) := by rw [ha802, put_ne _ _ _ _ (by decide)]; exact h786
  have h809 : a801.eval (.tmp 5) = .bool false := by rw [ha802]; exact put_same _ _ _ (by rw [hs780]; decide)
  show stepsTo _ _ _ _ _ (a776.put (some 5) (.bool false)) _
  rw [← ha802]
  clear ha802 hs780 hd781 h782 h783 h784 h785 h786
  refine st_nil ?_
  clear h808
  refine hK _ _ ?_
  clear hK K
  refine wp_ret (ret_k hd804 (v := .tuple #[nv (Nm.mk 2 0), .bool false]) (res_ct rfl h805 h809 (l_two Tryd.isAgg23 Tryd.sizeOf23 hb793)) ?_)
  refine ⟨?_, hN800⟩
  show Ending.returned (.tuple #[nv (Nm.mk 2 0), .bool false]) = Ending.returned (.tuple #[nv ((rDivM a b).1), .bool ((rDivM a b).2)])
  first | rfl | (simp [rDivM, ht86, ht137, ht188, ht410, ht613, ht650, ht717])
set_option maxHeartbeats 8000000 in
set_option maxRecDepth 100000 in
theorem rrem0_c (a : Nm) (b : Nm) (w : World) : Calls Tryd.prog 47 #[nv a, nv b] w (IsRet (nv (rRemM a b)) w) := by
  refine enter_abs Tryd.func47 rfl fun a0 hs0 hd0 hp => ?_
  have hs0 : a0.tmps.size = 51 := hs0
  have hN0 : New w w := Upd.refl _ _
  have hp0 : a0.eval (.tmp 0) = nv a := hp 0 _ rfl
  have hp1 : a0.eval (.tmp 1) = nv b := hp 1 _ rfl
  clear hp
  refine wp_seq_k fun K hK => ?_
  refine wp_g [true, true, true] [] [] 51
    [IsNew w 23 [iv a.k, iv a.n],
     IsNew w 23 [iv b.k, iv b.n],
     IsNew w 23 [iv 0, iv 0]]
    [0, 1, 2] (newsCons (fun v w h => IsNew.old h) (newsCons (fun v w h => IsNew.old h) (newsCons (fun v w h => IsNew.old h) newsNil))) hs0 (.nw (.nw (.nw (.nil)))) ?_ (fun i h => by cases h) ?_
  · skip
    refine .o2 (step_allocN (cs := [iv a.k, iv a.n]) (t := 23) rfl (noG rfl) (fun _ w hn k => v_box rfl (k.fx 0 hp0) (fun w => rfl)) (fun q _ hq hb => ⟨q, rfl, hq, hb⟩)) ?_
    refine .o2 (step_allocN (cs := [iv b.k, iv b.n]) (t := 23) rfl (noG rfl) (fun _ w hn k => v_box rfl (k.fx 1 hp1) (fun w => rfl)) (fun q _ hq hb => ⟨q, rfl, hq, hb⟩)) ?_
    refine .o2 (step_allocN (cs := [iv 0, iv 0]) (t := 23) rfl (noG rfl) (fun _ w hn k => rfl) (fun q _ hq hb => ⟨q, rfl, hq, hb⟩)) ?_
    exact .nil
  intro a1 w2 hn3 ha4
  have hs5 := ha4.size.trans hs0
  have hd6 := ha4.defers.trans hd0
  obtain ⟨q8, h7, hq9, hb10⟩ : IsNew _ _ _ _ _ := ha4.got 0 2 rfl (by kernel_rfl)
  obtain ⟨q12, h11, hq13, hb14⟩ : IsNew _ _ _ _ _ := ha4.got 1 3 rfl (by kernel_rfl)
  obtain ⟨q16, h15, hq17, hb18⟩ : IsNew _ _ _ _ _ := ha4.got 2 4 rfl (by kernel_rfl)
  have hne19 : q8 ≠ q16 := ha4.ne 0 2 2 4 h7 h15
  have hne20 : q12 ≠ q16 := ha4.ne 1 2 3 4 h11 h15
  have hq21 := Nat.le_trans hN0.size hq9
  have hq22 := Nat.le_trans hN0.size hq13
  have hq23 := Nat.le_trans hN0.size hq17
  have hN24 := hN0.transNew hn3
  clear hs0 hd0 hp0 hp1 hq9 hq13 hq17 hN0 ha4 hn3
  refine st_nil ?_
  refine hK _ _ ?_
  clear hK K
  refine wp_seq_k fun K hK => ?_
  refine wp_g [true, true, true, true, true, true, false, false] [] [(6, false), (7, false)] 51
    [ve (nv a),
     ve (nv (asM a)),
     ve (nv b),
     ve (nv (asM b)),
     IsNew w2 23 [iv 0, iv 0],
     IsNew w2 23 [iv 0, iv 0],
     vt,
     vt]
    [4, 5] (newsCons (fun v w h => IsNew.old h) (newsCons (fun v w h => IsNew.old h) newsNil)) hs5 (.eq (.eq (.eq (.eq (.nw (.nw (.tt (.tt (.nil))))))))) ?_ (fun i h => by cases h) ?_
  · skip
    refine .o1 (tk rfl rfl fun _ w hn k => ⟨_, v_load rfl (k.fx 2 h7) (l_two Tryd.isAgg23 Tryd.sizeOf23 (hb10.new_ hn)), rfl⟩) ?_
    refine .o1 (ck rfl rfl rfl (fun _ w hn k => ⟨#[nv a], args1 (k.eq1 0 8 rfl), fun _ => by kernel_rfl, good_c a _⟩) fun _ => rfl) ?_
    refine .o1 (tk rfl rfl fun _ w hn k => ⟨_, v_load rfl (k.fx 3 h11) (l_two Tryd.isAgg23 Tryd.sizeOf23 (hb14.new_ hn)), rfl⟩) ?_
    refine .o1 (ck rfl rfl rfl (fun _ w hn k => ⟨#[nv b], args1 (k.eq1 2 10 rfl), fun _ => by kernel_rfl, good_c b _⟩) fun _ => rfl) ?_
    refine .o2 (step_allocN (cs := [iv 0, iv 0]) (t := 23) rfl (noG rfl) (fun _ w hn k => rfl) (fun q _ hq hb => ⟨q, rfl, hq, hb⟩)) ?_
    refine .o2 (step_allocN (cs := [iv 0, iv 0]) (t := 23) rfl (noG rfl) (fun _ w hn k => rfl) (fun q _ hq hb => ⟨q, rfl, hq, hb⟩)) ?_
    refine .off ?_
    refine .off ?_
    exact .nil
  intro a25 w26 hn27 ha28
  have hs29 := ha28.size.trans hs5
  have hd30 := ha28.defers.trans hd6
  have h31 := ha28.fx 4 h15
  have h32 := ha28.ge 1 9 rfl
  have h33 := ha28.ge 3 11 rfl
  obtain ⟨q35, h34, hq36, hb37⟩ : IsNew _ _ _ _ _ := ha28.got 4 5 rfl (by kernel_rfl)
  obtain ⟨q39, h38, hq40, hb41⟩ : IsNew _ _ _ _ _ := ha28.got 5 6 rfl (by kernel_rfl)
  have hb42 := hb18.new_ hn27
  have hne43 : q35 ≠ q39 := ha28.ne 4 5 5 6 h34 h38
  have hne44 : q16 ≠ q35 := by have h1 := hb18.lt; have h2 := hq36; omega
  have hne45 : q16 ≠ q39 := by have h1 := hb18.lt; have h2 := hq40; omega
  have hq46 := Nat.le_trans hN24.size hq36
  have hq47 := Nat.le_trans hN24.size hq40
  have hN48 := hN24.transNew hn27
  clear hs5 hd6 h7 h11 h15 hb10 hq21 hb14 hq22 hb18 hq36 hq40 hN24 ha28 hn27
  have hbd_a := as_bd a
  have hbd_b := as_bd b
  obtain ⟨w49, -, hst50, hb51, hu52, hf53⟩ := s_two (v0 := iv ((asM a).k)) (v1 := iv ((asM a).n)) Tryd.sizeOf23 rfl rfl rfl hb37
  refine st_act rfl rfl fun K54 hL55 => a_store' rfl h34 h32 hst50 (hL55 _ _ trivial ?_)
  have hb56 := hf53 _ _ _ (hne44) hb42
  have hb57 := hf53 _ _ _ (fun h => hne43 h.symm) hb41
  have hN58 := hN48.trans hu52 (fun k hk hkb => by subst hkb; omega)
  clear hb37 hst50 K54 hL55 hN48 hb42 hb41 hu52 hf53
  obtain ⟨w59, -, hst60, hb61, hu62, hf63⟩ := s_two (v0 := iv ((asM b).k)) (v1 := iv ((asM b).n)) Tryd.sizeOf23 rfl rfl rfl hb57
  refine st_act rfl rfl fun K64 hL65 => a_store' rfl h38 h33 hst60 (hL65 _ _ trivial ?_)
  have hb66 := hf63 _ _ _ (hne45) hb56
  have hb67 := hf63 _ _ _ (hne43) hb51
  have hN68 := hN58.trans hu62 (fun k hk hkb => by subst hkb; omega)
  clear hb57 hst60 K64 hL65 hN58 hb56 hb51 hu62 hf63
  clear hne43
  refine st_nil ?_
  clear h32 h33
  refine hK _ _ ?_
  clear hK K
  refine wp_seq_k fun K hK => ?_
  refine wp_block ?_
  refine wp_seq_k fun K hK => ?_
  rcases Bool.eq_false_or_eq_true (decide (((asM a).k) = 2)) with ht69 | ht69
  · skip
    have ht69d := of_decide_eq_true ht69
    refine wp_g0 [true, true, true, true, true, true, true, true, true, true, true, true, true, true, true] [] 51
      [ve (nv (asM a)),
       ve (.bool true),
       ve (.bool true),
       ve undef,
       ve undef,
       ve (.bool true),
       ve (.bool true),
       ve undef,
       ve undef,
       ve (.bool true),
       ve (.bool true),
       ve undef,
       ve undef,
       ve (.bool true),
       ve (.bool true)] hs29 (.eq (.eq (.eq (.eq (.eq (.eq (.eq (.eq (.eq (.eq (.eq (.eq (.eq (.eq (.eq (.nil)))))))))))))))) ?_ ?_
    · skip
      refine .o1 (tk rfl rfl fun _ w hn k => ⟨_, v_load rfl (k.fx 5 h34) (l_two Tryd.isAgg23 Tryd.sizeOf23 (hb67.new_ hn)), rfl⟩) ?_
      refine .o1 (ck rfl rfl rfl (fun _ w hn k => ⟨#[nv (asM a)], args1 (k.eq1 0 13 rfl), fun _ => by kernel_rfl, rnan_c (asM a) _⟩) fun _ => congrArg Value.bool ht69) ?_
      refine .o1 (tk rfl rfl fun _ w hn k => ⟨_, v_move rfl (k.eq1 1 14 rfl), rfl⟩) ?_
      refine .o1 (sk rfl rfl rfl (fun _ _ _ k => k.eq1 2 15 rfl) (fun _ => rfl)) ?_
      refine .o1 (sk rfl rfl rfl (fun _ _ _ k => k.eq1 2 15 rfl) (fun _ => rfl)) ?_
      refine .o1 (tk rfl rfl fun _ w hn k => ⟨_, v_pickT rfl (k.eq1 2 15 rfl) rfl, rfl⟩) ?_
      refine .o1 (tk rfl rfl fun _ w hn k => ⟨_, v_move rfl (k.eq1 5 18 rfl), rfl⟩) ?_
      refine .o1 (sk rfl rfl rfl (fun _ _ _ k => k.eq1 6 19 rfl) (fun _ => rfl)) ?_
      refine .o1 (sk rfl rfl rfl (fun _ _ _ k => k.eq1 6 19 rfl) (fun _ => rfl)) ?_
      refine .o1 (tk rfl rfl fun _ w hn k => ⟨_, v_pickT rfl (k.eq1 6 19 rfl) rfl, rfl⟩) ?_
      refine .o1 (tk rfl rfl fun _ w hn k => ⟨_, v_move rfl (k.eq1 9 22 rfl), rfl⟩) ?_
      refine .o1 (sk rfl rfl rfl (fun _ _ _ k => k.eq1 10 23 rfl) (fun _ => rfl)) ?_
      refine .o1 (sk rfl rfl rfl (fun _ _ _ k => k.eq1 10 23 rfl) (fun _ => rfl)) ?_
      refine .o1 (tk rfl rfl fun _ w hn k => ⟨_, v_pickT rfl (k.eq1 10 23 rfl) rfl, rfl⟩) ?_
      refine .o1 (tk rfl rfl fun _ w hn k => ⟨_, v_assign rfl (k.eq1 13 26 rfl), rfl⟩) ?_
      exact .nil
    intro a70 w71 hn72 ha73
    have hs74 := ha73.size.trans hs29
    have hd75 := ha73.defers.trans hd30
    have h76 := ha73.fx 4 h31
    have h77 := ha73.fx 5 h34
    have h78 := ha73.fx 6 h38
    have h79 := ha73.ge 14 12 rfl
    have hb80 := hb66.new_ hn72
    have hb81 := hb67.new_ hn72
    have hb82 := hb61.new_ hn72
    have hN83 := hN68.transNew hn72
    clear hs29 hd30 h31 h34 h38 hb66 hb67 hb61 hN68 ha73 hn72
    refine st_nil ?_
    refine hK _ _ ?_
    clear hK K
    refine wp_cond_true h79 ?_
    refine wp_seq_k fun K hK => ?_
    refine wp_g0 [true, false] [(1, false)] 51
      [ve (nv (Nm.mk 2 0)),
       vt] hs74 (.eq (.tt (.nil))) ?_ ?_
    · skip
      refine .o1 (ck rfl rfl rfl (fun _ w hn k => ⟨#[], rfl, fun _ => by kernel_rfl, rNaN_c  _⟩) fun _ => rfl) ?_
      refine .off ?_
      exact .nil
    intro a84 w85 hn86 ha87
    have hs88 := ha87.size.trans hs74
    have hd89 := ha87.defers.trans hd75
    have h90 := ha87.fx 4 h76
    have h91 := ha87.fx 5 h77
    have h92 := ha87.fx 6 h78
    have h93 := ha87.ge 0 27 rfl
    have hb94 := hb80.new_ hn86
    have hb95 := hb81.new_ hn86
    have hb96 := hb82.new_ hn86
    have hN97 := hN83.transNew hn86
    clear hs74 hd75 h76 h77 h78 h79 hb80 hb81 hb82 hN83 ha87 hn86
    obtain ⟨w98, -, hst99, hb100, hu101, hf102⟩ := s_two (v0 := iv 2) (v1 := iv 0) Tryd.sizeOf23 rfl rfl rfl hb94
    refine st_act rfl rfl fun K103 hL104 => a_store' rfl h90 h93 hst99 (hL104 _ _ trivial ?_)
    have hb105 := hf102 _ _ _ (fun h => hne44 h.symm) hb95
    have hb106 := hf102 _ _ _ (fun h => hne45 h.symm) hb96
    have hN107 := hN97.trans hu101 (fun k hk hkb => by subst hkb; omega)
    clear hb94 hst99 K103 hL104 hN97 hb95 hb96 hu101 hf102
    refine st_nil ?_
    clear h93
    refine hK _ _ ?_
    clear hK K
    refine wp_ret (ret_k hd89 (v := nv (Nm.mk 2 0)) (res_c rfl h90 (l_two Tryd.isAgg23 Tryd.sizeOf23 hb100)) ?_)
    refine ⟨?_, hN107⟩
    show Ending.returned (nv (Nm.mk 2 0)) = Ending.returned (nv (rRemM a b))
    first | rfl | (simp [rRemM, ht69])
  have ht69d := of_decide_eq_false ht69
  rcases Bool.eq_false_or_eq_true (decide (((asM b).k) = 2)) with ht108 | ht108
  · skip
    have ht108d := of_decide_eq_true ht108
    refine wp_g0 [true, true, true, true, true, true, true, true, true, true, true, true, true, true, true] [] 51
      [ve (nv (asM a)),
       ve (.bool false),
       ve (.bool false),
       ve (nv (asM b)),
       ve (.bool true),
       ve (.bool true),
       ve (.bool true),
       ve undef,
       ve undef,
       ve (.bool true),
       ve (.bool true),
       ve undef,
       ve undef,
       ve (.bool true),
       ve (.bool true)] hs29 (.eq (.eq (.eq (.eq (.eq (.eq (.eq (.eq (.eq (.eq (.eq (.eq (.eq (.eq (.eq (.nil)))))))))))))))) ?_ ?_
    · skip
      refine .o1 (tk rfl rfl fun _ w hn k => ⟨_, v_load rfl (k.fx 5 h34) (l_two Tryd.isAgg23 Tryd.sizeOf23 (hb67.new_ hn)), rfl⟩) ?_
      refine .o1 (ck rfl rfl rfl (fun _ w hn k => ⟨#[nv (asM a)], args1 (k.eq1 0 13 rfl), fun _ => by kernel_rfl, rnan_c (asM a) _⟩) fun _ => congrArg Value.bool ht69) ?_
      refine .o1 (tk rfl rfl fun _ w hn k => ⟨_, v_move rfl (k.eq1 1 14 rfl), rfl⟩) ?_
      refine .o1 (tg rfl rfl rfl (fun _ _ k => k.eq1 2 15 rfl) fun _ w hn k => ⟨_, v_load rfl (k.fx 6 h38) (l_two Tryd.isAgg23 Tryd.sizeOf23 (hb61.new_ hn)), rfl⟩) ?_
      refine .o1 (cg rfl rfl rfl (fun _ _ k => k.eq1 2 15 rfl) rfl (fun _ w hn k => ⟨#[nv (asM b)], args1 (k.eq1 3 16 rfl), fun _ => by kernel_rfl, rnan_c (asM b) _⟩) fun _ => congrArg Value.bool ht108) ?_
      refine .o1 (tk rfl rfl fun _ w hn k => ⟨_, v_pickF rfl (k.eq1 2 15 rfl) (k.eq1 4 17 rfl), rfl⟩) ?_
      refine .o1 (tk rfl rfl fun _ w hn k => ⟨_, v_move rfl (k.eq1 5 18 rfl), rfl⟩) ?_
      refine .o1 (sk rfl rfl rfl (fun _ _ _ k => k.eq1 6 19 rfl) (fun _ => rfl)) ?_
      refine .o1 (sk rfl rfl rfl (fun _ _ _ k => k.eq1 6 19 rfl) (fun _ => rfl)) ?_
      refine .o1 (tk rfl rfl fun _ w hn k => ⟨_, v_pickT rfl (k.eq1 6 19 rfl) rfl, rfl⟩) ?_
      refine .o1 (tk rfl rfl fun _ w hn k => ⟨_, v_move rfl (k.eq1 9 22 rfl), rfl⟩) ?_
      refine .o1 (sk rfl rfl rfl (fun _ _ _ k => k.eq1 10 23 rfl) (fun _ => rfl)) ?_
      refine .o1 (sk rfl rfl rfl (fun _ _ _ k => k.eq1 10 23 rfl) (fun _ => rfl)) ?_
      refine .o1 (tk rfl rfl fun _ w hn k => ⟨_, v_pickT rfl (k.eq1 10 23 rfl) rfl, rfl⟩) ?_
      refine .o1 (tk rfl rfl fun _ w hn k => ⟨_, v_assign rfl (k.eq1 13 26 rfl), rfl⟩) ?_
      exact .nil
    intro a109 w110 hn111 ha112
    have hs113 := ha112.size.trans hs29
    have hd114 := ha112.defers.trans hd30
    have h115 := ha112.fx 4 h31
    have h116 := ha112.fx 5 h34
    have h117 := ha112.fx 6 h38
    have h118 := ha112.ge 14 12 rfl
    have hb119 := hb66.new_ hn111
    have hb120 := hb67.new_ hn111
    have hb121 := hb61.new_ hn111
    have hN122 := hN68.transNew hn111
    clear hs29 hd30 h31 h34 h38 hb66 hb67 hb61 hN68 ha112 hn111
    refine st_nil ?_
    refine hK _ _ ?_
    clear hK K
    refine wp_cond_true h118 ?_
    refine wp_seq_k fun K hK => ?_
    refine wp_g0 [true, false] [(1, false)] 51
      [ve (nv (Nm.mk 2 0)),
       vt] hs113 (.eq (.tt (.nil))) ?_ ?_
    · skip
      refine .o1 (ck rfl rfl rfl (fun _ w hn k => ⟨#[], rfl, fun _ => by kernel_rfl, rNaN_c  _⟩) fun _ => rfl) ?_
      refine .off ?_
      exact .nil
    intro a123 w124 hn125 ha126
    have hs127 := ha126.size.trans hs113
    have hd128 := ha126.defers.trans hd114
    have h129 := ha126.fx 4 h115
    have h130 := ha126.fx 5 h116
    have h131 := ha126.fx 6 h117
    have h132 := ha126.ge 0 27 rfl
    have hb133 := hb119.new_ hn125
    have hb134 := hb120.new_ hn125
    have hb135 := hb121.new_ hn125
    have hN136 := hN122.transNew hn125
    clear hs113 hd114 h115 h116 h117 h118 hb119 hb120 hb121 hN122 ha126 hn125
    obtain ⟨w137, -, hst138, hb139, hu140, hf141⟩ := s_two (v0 := iv 2) (v1 := iv 0) Tryd.sizeOf23 rfl rfl rfl hb133
    refine st_act rfl rfl fun K142 hL143 => a_store' rfl h129 h132 hst138 (hL143 _ _ trivial ?_)
    have hb144 := hf141 _ _ _ (fun h => hne44 h.symm) hb134
    have hb145 := hf141 _ _ _ (fun h => hne45 h.symm) hb135
    have hN146 := hN136.trans hu140 (fun k hk hkb => by subst hkb; omega)
    clear hb133 hst138 K142 hL143 hN136 hb134 hb135 hu140 hf141
    refine st_nil ?_
    clear h132
    refine hK _ _ ?_
    clear hK K
    refine wp_ret (ret_k hd128 (v := nv (Nm.mk 2 0)) (res_c rfl h129 (l_two Tryd.isAgg23 Tryd.sizeOf23 hb139)) ?_)
    refine ⟨?_, hN146⟩
    show Ending.returned (nv (Nm.mk 2 0)) = Ending.returned (nv (rRemM a b))
    first | rfl | (simp [rRemM, ht69, ht108])
  have ht108d := of_decide_eq_false ht108
  rcases Bool.eq_false_or_eq_true (infB ((asM a).k)) with ht147 | ht147
  · skip
    refine wp_g0 [true, true, true, true, true, true, true, true, true, true, true, true, true, true, true] [] 51
      [ve (nv (asM a)),
       ve (.bool false),
       ve (.bool false),
       ve (nv (asM b)),
       ve (.bool false),
       ve (.bool false),
       ve (.bool false),
       ve (nv (asM a)),
       ve (.bool true),
       ve (.bool true),
       ve (.bool true),
       ve undef,
       ve undef,
       ve (.bool true),
       ve (.bool true)] hs29 (.eq (.eq (.eq (.eq (.eq (.eq (.eq (.eq (.eq (.eq (.eq (.eq (.eq (.eq (.eq (.nil)))))))))))))))) ?_ ?_
    · skip
      refine .o1 (tk rfl rfl fun _ w hn k => ⟨_, v_load rfl (k.fx 5 h34) (l_two Tryd.isAgg23 Tryd.sizeOf23 (hb67.new_ hn)), rfl⟩) ?_
      refine .o1 (ck rfl rfl rfl (fun _ w hn k => ⟨#[nv (asM a)], args1 (k.eq1 0 13 rfl), fun _ => by kernel_rfl, rnan_c (asM a) _⟩) fun _ => congrArg Value.bool ht69) ?_
      refine .o1 (tk rfl rfl fun _ w hn k => ⟨_, v_move rfl (k.eq1 1 14 rfl), rfl⟩) ?_
      refine .o1 (tg rfl rfl rfl (fun _ _ k => k.eq1 2 15 rfl) fun _ w hn k => ⟨_, v_load rfl (k.fx 6 h38) (l_two Tryd.isAgg23 Tryd.sizeOf23 (hb61.new_ hn)), rfl⟩) ?_
      refine .o1 (cg rfl rfl rfl (fun _ _ k => k.eq1 2 15 rfl) rfl (fun _ w hn k => ⟨#[nv (asM b)], args1 (k.eq1 3 16 rfl), fun _ => by kernel_rfl, rnan_c (asM b) _⟩) fun _ => congrArg Value.bool ht108) ?_
      refine .o1 (tk rfl rfl fun _ w hn k => ⟨_, v_pickF rfl (k.eq1 2 15 rfl) (k.eq1 4 17 rfl), rfl⟩) ?_
      refine .o1 (tk rfl rfl fun _ w hn k => ⟨_, v_move rfl (k.eq1 5 18 rfl), rfl⟩) ?_
      refine .o1 (tg rfl rfl rfl (fun _ _ k => k.eq1 6 19 rfl) fun _ w hn k => ⟨_, v_load rfl (k.fx 5 h34) (l_two Tryd.isAgg23 Tryd.sizeOf23 (hb67.new_ hn)), rfl⟩) ?_
      refine .o1 (cg rfl rfl rfl (fun _ _ k => k.eq1 6 19 rfl) rfl (fun _ w hn k => ⟨#[nv (asM a)], args1 (k.eq1 7 20 rfl), fun _ => by kernel_rfl, rinf_c (asM a) _⟩) fun _ => congrArg Value.bool ht147) ?_
      refine .o1 (tk rfl rfl fun _ w hn k => ⟨_, v_pickF rfl (k.eq1 6 19 rfl) (k.eq1 8 21 rfl), rfl⟩) ?_
      refine .o1 (tk rfl rfl fun _ w hn k => ⟨_, v_move rfl (k.eq1 9 22 rfl), rfl⟩) ?_
      refine .o1 (sk rfl rfl rfl (fun _ _ _ k => k.eq1 10 23 rfl) (fun _ => rfl)) ?_
      refine .o1 (sk rfl rfl rfl (fun _ _ _ k => k.eq1 10 23 rfl) (fun _ => rfl)) ?_
      refine .o1 (tk rfl rfl fun _ w hn k => ⟨_, v_pickT rfl (k.eq1 10 23 rfl) rfl, rfl⟩) ?_
      refine .o1 (tk rfl rfl fun _ w hn k => ⟨_, v_assign rfl (k.eq1 13 26 rfl), rfl⟩) ?_
      exact .nil
    intro a148 w149 hn150 ha151
    have hs152 := ha151.size.trans hs29
    have hd153 := ha151.defers.trans hd30
    have h154 := ha151.fx 4 h31
    have h155 := ha151.fx 5 h34
    have h156 := ha151.fx 6 h38
    have h157 := ha151.ge 14 12 rfl
    have hb158 := hb66.new_ hn150
    have hb159 := hb67.new_ hn150
    have hb160 := hb61.new_ hn150
    have hN161 := hN68.transNew hn150
    clear hs29 hd30 h31 h34 h38 hb66 hb67 hb61 hN68 ha151 hn150
    refine st_nil ?_
    refine hK _ _ ?_
    clear hK K
    refine wp_cond_true h157 ?_
    refine wp_seq_k fun K hK => ?_
    refine wp_g0 [true, false] [(1, false)] 51
      [ve (nv (Nm.mk 2 0)),
       vt] hs152 (.eq (.tt (.nil))) ?_ ?_
    · skip
      refine .o1 (ck rfl rfl rfl (fun _ w hn k => ⟨#[], rfl, fun _ => by kernel_rfl, rNaN_c  _⟩) fun _ => rfl) ?_
      refine .off ?_
      exact .nil
    intro a162 w163 hn164 ha165
    have hs166 := ha165.size.trans hs152
    have hd167 := ha165.defers.trans hd153
    have h168 := ha165.fx 4 h154
    have h169 := ha165.fx 5 h155
    have h170 := ha165.fx 6 h156
    have h171 := ha165.ge 0 27 rfl
    have hb172 := hb158.new_ hn164
    have hb173 := hb159.new_ hn164
    have hb174 := hb160.new_ hn164
    have hN175 := hN161.transNew hn164
    clear hs152 hd153 h154 h155 h156 h157 hb158 hb159 hb160 hN161 ha165 hn164
    obtain ⟨w176, -, hst177, hb178, hu179, hf180⟩ := s_two (v0 := iv 2) (v1 := iv 0) Tryd.sizeOf23 rfl rfl rfl hb172
    refine st_act rfl rfl fun K181 hL182 => a_store' rfl h168 h171 hst177 (hL182 _ _ trivial ?_)
    have hb183 := hf180 _ _ _ (fun h => hne44 h.symm) hb173
    have hb184 := hf180 _ _ _ (fun h => hne45 h.symm) hb174
    have hN185 := hN175.trans hu179 (fun k hk hkb => by subst hkb; omega)
    clear hb172 hst177 K181 hL182 hN175 hb173 hb174 hu179 hf180
    refine st_nil ?_
    clear h171
    refine hK _ _ ?_
    clear hK K
    refine wp_ret (ret_k hd167 (v := nv (Nm.mk 2 0)) (res_c rfl h168 (l_two Tryd.isAgg23 Tryd.sizeOf23 hb178)) ?_)
    refine ⟨?_, hN185⟩
    show Ending.returned (nv (Nm.mk 2 0)) = Ending.returned (nv (rRemM a b))
    first | rfl | (simp [rRemM, ht69, ht108, ht147])
  refine wp_g0 [true, true, true, true, true, true, true, true, true, true, true, true, true, true, true] [] 51
    [ve (nv (asM a)),
     ve (.bool false),
     ve (.bool false),
     ve (nv (asM b)),
     ve (.bool false),
     ve (.bool false),
     ve (.bool false),
     ve (nv (asM a)),
     ve (.bool false),
     ve (.bool false),
     ve (.bool false),
     ve (nv (asM b)),
     ve (.bool (noughtB (asM b))),
     ve (.bool (noughtB (asM b))),
     ve (.bool (noughtB (asM b)))] hs29 (.eq (.eq (.eq (.eq (.eq (.eq (.eq (.eq (.eq (.eq (.eq (.eq (.eq (.eq (.eq (.nil)))))))))))))))) ?_ ?_
  · skip
    refine .o1 (tk rfl rfl fun _ w hn k => ⟨_, v_load rfl (k.fx 5 h34) (l_two Tryd.isAgg23 Tryd.sizeOf23 (hb67.new_ hn)), rfl⟩) ?_
    refine .o1 (ck rfl rfl rfl (fun _ w hn k => ⟨#[nv (asM a)], args1 (k.eq1 0 13 rfl), fun _ => by kernel_rfl, rnan_c (asM a) _⟩) fun _ => congrArg Value.bool ht69) ?_
    refine .o1 (tk rfl rfl fun _ w hn k => ⟨_, v_move rfl (k.eq1 1 14 rfl), rfl⟩) ?_
    refine .o1 (tg rfl rfl rfl (fun _ _ k => k.eq1 2 15 rfl) fun _ w hn k => ⟨_, v_load rfl (k.fx 6 h38) (l_two Tryd.isAgg23 Tryd.sizeOf23 (hb61.new_ hn)), rfl⟩) ?_
    refine .o1 (cg rfl rfl rfl (fun _ _ k => k.eq1 2 15 rfl) rfl (fun _ w hn k => ⟨#[nv (asM b)], args1 (k.eq1 3 16 rfl), fun _ => by kernel_rfl, rnan_c (asM b) _⟩) fun _ => congrArg Value.bool ht108) ?_
    refine .o1 (tk rfl rfl fun _ w hn k => ⟨_, v_pickF rfl (k.eq1 2 15 rfl) (k.eq1 4 17 rfl), rfl⟩) ?_
    refine .o1 (tk rfl rfl fun _ w hn k => ⟨_, v_move rfl (k.eq1 5 18 rfl), rfl⟩) ?_
    refine .o1 (tg rfl rfl rfl (fun _ _ k => k.eq1 6 19 rfl) fun _ w hn k => ⟨_, v_load rfl (k.fx 5 h34) (l_two Tryd.isAgg23 Tryd.sizeOf23 (hb67.new_ hn)), rfl⟩) ?_
    refine .o1 (cg rfl rfl rfl (fun _ _ k => k.eq1 6 19 rfl) rfl (fun _ w hn k => ⟨#[nv (asM a)], args1 (k.eq1 7 20 rfl), fun _ => by kernel_rfl, rinf_c (asM a) _⟩) fun _ => congrArg Value.bool ht147) ?_
    refine .o1 (tk rfl rfl fun _ w hn k => ⟨_, v_pickF rfl (k.eq1 6 19 rfl) (k.eq1 8 21 rfl), rfl⟩) ?_
    refine .o1 (tk rfl rfl fun _ w hn k => ⟨_, v_move rfl (k.eq1 9 22 rfl), rfl⟩) ?_
    refine .o1 (tg rfl rfl rfl (fun _ _ k => k.eq1 10 23 rfl) fun _ w hn k => ⟨_, v_load rfl (k.fx 6 h38) (l_two Tryd.isAgg23 Tryd.sizeOf23 (hb61.new_ hn)), rfl⟩) ?_
    refine .o1 (cg rfl rfl rfl (fun _ _ k => k.eq1 10 23 rfl) rfl (fun _ w hn k => ⟨#[nv (asM b)], args1 (k.eq1 11 24 rfl), fun _ => by kernel_rfl, rnought_c (asM b) _⟩) fun _ => rfl) ?_
    refine .o1 (tk rfl rfl fun _ w hn k => ⟨_, v_pickF rfl (k.eq1 10 23 rfl) (k.eq1 12 25 rfl), rfl⟩) ?_
    refine .o1 (tk rfl rfl fun _ w hn k => ⟨_, v_assign rfl (k.eq1 13 26 rfl), rfl⟩) ?_
    exact .nil
  intro a186 w187 hn188 ha189
  have hs190 := ha189.size.trans hs29
  have hd191 := ha189.defers.trans hd30
  have h192 := ha189.fx 4 h31
  have h193 := ha189.fx 5 h34
  have h194 := ha189.fx 6 h38
  have h195 := ha189.ge 14 12 rfl
  have hb196 := hb66.new_ hn188
  have hb197 := hb67.new_ hn188
  have hb198 := hb61.new_ hn188
  have hN199 := hN68.transNew hn188
  clear hs29 hd30 h31 h34 h38 hb66 hb67 hb61 hN68 ha189 hn188
  refine st_nil ?_
  refine hK _ _ ?_
  clear hK K
  rcases Bool.eq_false_or_eq_true (noughtB (asM b)) with ht200 | ht200
  · skip
    have hv201 : a186.eval (.tmp 12) = .bool true := h195.trans (congrArg Value.bool ht200)
    clear h195
    refine wp_cond_true hv201 ?_
    refine wp_seq_k fun K hK => ?_
    refine wp_g0 [true, false] [(1, false)] 51
      [ve (nv (Nm.mk 2 0)),
       vt] hs190 (.eq (.tt (.nil))) ?_ ?_
    · skip
      refine .o1 (ck rfl rfl rfl (fun _ w hn k => ⟨#[], rfl, fun _ => by kernel_rfl, rNaN_c  _⟩) fun _ => rfl) ?_
      refine .off ?_
      exact .nil
    intro a202 w203 hn204 ha205
    have hs206 := ha205.size.trans hs190
    have hd207 := ha205.defers.trans hd191
    have h208 := ha205.fx 4 h192
    have h209 := ha205.fx 5 h193
    have h210 := ha205.fx 6 h194
    have h211 := ha205.ge 0 27 rfl
    have hb212 := hb196.new_ hn204
    have hb213 := hb197.new_ hn204
    have hb214 := hb198.new_ hn204
    have hN215 := hN199.transNew hn204
    clear hs190 hd191 h192 h193 h194 hv201 hb196 hb197 hb198 hN199 ha205 hn204
    obtain ⟨w216, -, hst217, hb218, hu219, hf220⟩ := s_two (v0 := iv 2) (v1 := iv 0) Tryd.sizeOf23 rfl rfl rfl hb212
    refine st_act rfl rfl fun K221 hL222 => a_store' rfl h208 h211 hst217 (hL222 _ _ trivial ?_)
    have hb223 := hf220 _ _ _ (fun h => hne44 h.symm) hb213
    have hb224 := hf220 _ _ _ (fun h => hne45 h.symm) hb214
    have hN225 := hN215.trans hu219 (fun k hk hkb => by subst hkb; omega)
    clear hb212 hst217 K221 hL222 hN215 hb213 hb214 hu219 hf220
    refine st_nil ?_
    clear h211
    refine hK _ _ ?_
    clear hK K
    refine wp_ret (ret_k hd207 (v := nv (Nm.mk 2 0)) (res_c rfl h208 (l_two Tryd.isAgg23 Tryd.sizeOf23 hb218)) ?_)
    refine ⟨?_, hN225⟩
    show Ending.returned (nv (Nm.mk 2 0)) = Ending.returned (nv (rRemM a b))
    first | rfl | (simp [rRemM, ht69, ht108, ht147, ht200])
  have hv226 : a186.eval (.tmp 12) = .bool false := h195.trans (congrArg Value.bool ht200)
  clear h195
  refine wp_cond_false hv226 ?_
  refine wp_seq_k fun K hK => ?_
  rcases Bool.eq_false_or_eq_true (infB ((asM b).k)) with ht227 | ht227
  · skip
    refine wp_g0 [true, true, true, true, true, true, true] [] 51
      [ve (nv (asM b)),
       ve (.bool true),
       ve (.bool true),
       ve undef,
       ve undef,
       ve (.bool true),
       ve (.bool true)] hs190 (.eq (.eq (.eq (.eq (.eq (.eq (.eq (.nil)))))))) ?_ ?_
    · skip
      refine .o1 (tk rfl rfl fun _ w hn k => ⟨_, v_load rfl (k.fx 6 h194) (l_two Tryd.isAgg23 Tryd.sizeOf23 (hb198.new_ hn)), rfl⟩) ?_
      refine .o1 (ck rfl rfl rfl (fun _ w hn k => ⟨#[nv (asM b)], args1 (k.eq1 0 29 rfl), fun _ => by kernel_rfl, rinf_c (asM b) _⟩) fun _ => congrArg Value.bool ht227) ?_
      refine .o1 (tk rfl rfl fun _ w hn k => ⟨_, v_move rfl (k.eq1 1 30 rfl), rfl⟩) ?_
      refine .o1 (sk rfl rfl rfl (fun _ _ _ k => k.eq1 2 31 rfl) (fun _ => rfl)) ?_
      refine .o1 (sk rfl rfl rfl (fun _ _ _ k => k.eq1 2 31 rfl) (fun _ => rfl)) ?_
      refine .o1 (tk rfl rfl fun _ w hn k => ⟨_, v_pickT rfl (k.eq1 2 31 rfl) rfl, rfl⟩) ?_
      refine .o1 (tk rfl rfl fun _ w hn k => ⟨_, v_assign rfl (k.eq1 5 34 rfl), rfl⟩) ?_
      exact .nil
    intro a228 w229 hn230 ha231
    have hs232 := ha231.size.trans hs190
    have hd233 := ha231.defers.trans hd191
    have h234 := ha231.fx 4 h192
    have h235 := ha231.fx 5 h193
    have h236 := ha231.fx 6 h194
    have h237 := ha231.ge 6 28 rfl
    have hb238 := hb196.new_ hn230
    have hb239 := hb197.new_ hn230
    have hb240 := hb198.new_ hn230
    have hN241 := hN199.transNew hn230
    clear hs190 hd191 h192 h193 h194 hv226 hb196 hb197 hb198 hN199 ha231 hn230
    refine st_nil ?_
    refine hK _ _ ?_
    clear hK K
    refine wp_cond_true h237 ?_
    refine wp_seq_k fun K hK => ?_
    refine wp_g0 [true, false] [(1, false)] 51
      [ve (nv (asM a)),
       vt] hs232 (.eq (.tt (.nil))) ?_ ?_
    · skip
      refine .o1 (tk rfl rfl fun _ w hn k => ⟨_, v_load rfl (k.fx 5 h235) (l_two Tryd.isAgg23 Tryd.sizeOf23 (hb239.new_ hn)), rfl⟩) ?_
      refine .off ?_
      exact .nil
    intro a242 w243 hn244 ha245
    have hs246 := ha245.size.trans hs232
    have hd247 := ha245.defers.trans hd233
    have h248 := ha245.fx 4 h234
    have h249 := ha245.fx 5 h235
    have h250 := ha245.fx 6 h236
    have h251 := ha245.ge 0 35 rfl
    have hb252 := hb238.new_ hn244
    have hb253 := hb239.new_ hn244
    have hb254 := hb240.new_ hn244
    have hN255 := hN241.transNew hn244
    clear hs232 hd233 h234 h235 h236 h237 hb238 hb239 hb240 hN241 ha245 hn244
    obtain ⟨w256, -, hst257, hb258, hu259, hf260⟩ := s_two (v0 := iv ((asM a).k)) (v1 := iv ((asM a).n)) Tryd.sizeOf23 rfl rfl rfl hb252
    refine st_act rfl rfl fun K261 hL262 => a_store' rfl h248 h251 hst257 (hL262 _ _ trivial ?_)
    have hb263 := hf260 _ _ _ (fun h => hne44 h.symm) hb253
    have hb264 := hf260 _ _ _ (fun h => hne45 h.symm) hb254
    have hN265 := hN255.trans hu259 (fun k hk hkb => by subst hkb; omega)
    clear hb252 hst257 K261 hL262 hN255 hb253 hb254 hu259 hf260
    refine st_nil ?_
    clear h251
    refine hK _ _ ?_
    clear hK K
    refine wp_ret (ret_k hd247 (v := nv (asM a)) (res_c rfl h248 (l_two Tryd.isAgg23 Tryd.sizeOf23 hb258)) ?_)
    refine ⟨?_, hN265⟩
    show Ending.returned (nv (asM a)) = Ending.returned (nv (rRemM a b))
    first | rfl | (simp [rRemM, ht69, ht108, ht147, ht200, ht227])
  refine wp_g0 [true, true, true, true, true, true, true] [] 51
    [ve (nv (asM b)),
     ve (.bool false),
     ve (.bool false),
     ve (nv (asM a)),
     ve (.bool (noughtB (asM a))),
     ve (.bool (noughtB (asM a))),
     ve (.bool (noughtB (asM a)))] hs190 (.eq (.eq (.eq (.eq (.eq (.eq (.eq (.nil)))))))) ?_ ?_
  · skip
    refine .o1 (tk rfl rfl fun _ w hn k => ⟨_, v_load rfl (k.fx 6 h194) (l_two Tryd.isAgg23 Tryd.sizeOf23 (hb198.new_ hn)), rfl⟩) ?_
    refine .o1 (ck rfl rfl rfl (fun _ w hn k => ⟨#[nv (asM b)], args1 (k.eq1 0 29 rfl), fun _ => by kernel_rfl, rinf_c (asM b) _⟩) fun _ => congrArg Value.bool ht227) ?_
    refine .o1 (tk rfl rfl fun _ w hn k => ⟨_, v_move rfl (k.eq1 1 30 rfl), rfl⟩) ?_
    refine .o1 (tg rfl rfl rfl (fun _ _ k => k.eq1 2 31 rfl) fun _ w hn k => ⟨_, v_load rfl (k.fx 5 h193) (l_two Tryd.isAgg23 Tryd.sizeOf23 (hb197.new_ hn)), rfl⟩) ?_
    refine .o1 (cg rfl rfl rfl (fun _ _ k => k.eq1 2 31 rfl) rfl (fun _ w hn k => ⟨#[nv (asM a)], args1 (k.eq1 3 32 rfl), fun _ => by kernel_rfl, rnought_c (asM a) _⟩) fun _ => rfl) ?_
    refine .o1 (tk rfl rfl fun _ w hn k => ⟨_, v_pickF rfl (k.eq1 2 31 rfl) (k.eq1 4 33 rfl), rfl⟩) ?_
    refine .o1 (tk rfl rfl fun _ w hn k => ⟨_, v_assign rfl (k.eq1 5 34 rfl), rfl⟩) ?_
    exact .nil
  intro a266 w267 hn268 ha269
  have hs270 := ha269.size.trans hs190
  have hd271 := ha269.defers.trans hd191
  have h272 := ha269.fx 4 h192
  have h273 := ha269.fx 5 h193
  have h274 := ha269.fx 6 h194
  have h275 := ha269.ge 6 28 rfl
  have hb276 := hb196.new_ hn268
  have hb277 := hb197.new_ hn268
  have hb278 := hb198.new_ hn268
  have hN279 := hN199.transNew hn268
  clear hs190 hd191 h192 h193 h194 hv226 hb196 hb197 hb198 hN199 ha269 hn268
  refine st_nil ?_
  refine hK _ _ ?_
  clear hK K
  rcases Bool.eq_false_or_eq_true (noughtB (asM a)) with ht280 | ht280
  · skip
    have hv281 : a266.eval (.tmp 28) = .bool true := h275.trans (congrArg Value.bool ht280)
    clear h275
    refine wp_cond_true hv281 ?_
    refine wp_seq_k fun K hK => ?_
    refine wp_g0 [true, false] [(1, false)] 51
      [ve (nv (asM a)),
       vt] hs270 (.eq (.tt (.nil))) ?_ ?_
    · skip
      refine .o1 (tk rfl rfl fun _ w hn k => ⟨_, v_load rfl (k.fx 5 h273) (l_two Tryd.isAgg23 Tryd.sizeOf23 (hb277.new_ hn)), rfl⟩) ?_
      refine .off ?_
      exact .nil
    intro a282 w283 hn284 ha285
    have hs286 := ha285.size.trans hs270
    have hd287 := ha285.defers.trans hd271
    have h288 := ha285.fx 4 h272
    have h289 := ha285.fx 5 h273
    have h290 := ha285.fx 6 h274
    have h291 := ha285.ge 0 35 rfl
    have hb292 := hb276.new_ hn284
    have hb293 := hb277.new_ hn284
    have hb294 := hb278.new_ hn284
    have hN295 := hN279.transNew hn284
    clear hs270 hd271 h272 h273 h274 hv281 hb276 hb277 hb278 hN279 ha285 hn284
    obtain ⟨w296, -, hst297, hb298, hu299, hf300⟩ := s_two (v0 := iv ((asM a).k)) (v1 := iv ((asM a).n)) Tryd.sizeOf23 rfl rfl rfl hb292
    refine st_act rfl rfl fun K301 hL302 => a_store' rfl h288 h291 hst297 (hL302 _ _ trivial ?_)
    have hb303 := hf300 _ _ _ (fun h => hne44 h.symm) hb293
    have hb304 := hf300 _ _ _ (fun h => hne45 h.symm) hb294
    have hN305 := hN295.trans hu299 (fun k hk hkb => by subst hkb; omega)
    clear hb292 hst297 K301 hL302 hN295 hb293 hb294 hu299 hf300
    refine st_nil ?_
    clear h291
    refine hK _ _ ?_
    clear hK K
    refine wp_ret (ret_k hd287 (v := nv (asM a)) (res_c rfl h288 (l_two Tryd.isAgg23 Tryd.sizeOf23 hb298)) ?_)
    refine ⟨?_, hN305⟩
    show Ending.returned (nv (asM a)) = Ending.returned (nv (rRemM a b))
    first | rfl | (simp [rRemM, ht69, ht108, ht147, ht200, ht227, ht280])
  have hv306 : a266.eval (.tmp 28) = .bool false := h275.trans (congrArg Value.bool ht280)
  clear h275
  refine wp_cond_false hv306 ?_
  refine wp_skip ?_
  refine hK _ _ ?_
  clear hK K
  refine wp_seq_k fun K hK => ?_
  have hw_a := whole_of (a := a) ht69 ht147 ht280
  have hnz_a := hw_a.2
  have hw_b := whole_of (a := b) ht108 ht227 ht200
  have hnz_b := hw_b.2
  have hm := tmod_nz_bd (asM a).n hnz_b
  refine wp_g0 [true, true, true, true, true, true] [] 51
    [ve (.pointer (some ⟨q35, 1, none⟩)),
     ve (iv ((asM a).n)),
     ve (.pointer (some ⟨q39, 1, none⟩)),
     ve (iv ((asM b).n)),
     ve (iv (((asM a).n).tmod ((asM b).n))),
     ve (iv (((asM a).n).tmod ((asM b).n)))] hs270 (.eq (.eq (.eq (.eq (.eq (.eq (.nil))))))) ?_ ?_
  · skip
    refine .o1 (tk rfl rfl fun _ w hn k => ⟨_, v_field rfl (k.fx 5 h273) (fun w => rfl), rfl⟩) ?_
    refine .o1 (tk rfl rfl fun _ w hn k => ⟨_, v_load rfl (k.eq1 0 36 rfl) (l_one Tryd.isAgg3 ((hb277.new_ hn).cell 1)), rfl⟩) ?_
    refine .o1 (tk rfl rfl fun _ w hn k => ⟨_, v_field rfl (k.fx 6 h274) (fun w => rfl), rfl⟩) ?_
    refine .o1 (tk rfl rfl fun _ w hn k => ⟨_, v_load rfl (k.eq1 2 38 rfl) (l_one Tryd.isAgg3 ((hb278.new_ hn).cell 1)), rfl⟩) ?_
    refine .o1 (tk rfl rfl fun _ w hn k => ⟨_, v_bin rfl (k.eq1 1 37 rfl) (k.eq1 3 39 rfl) (fun _ => rfl) (r_remI rfl (by omega)), rfl⟩) ?_
    refine .o1 (tk rfl rfl fun _ w hn k => ⟨_, v_assign rfl (k.eq1 4 40 rfl), rfl⟩) ?_
    exact .nil
  intro a307 w308 hn309 ha310
  have hs311 := ha310.size.trans hs270
  have hd312 := ha310.defers.trans hd271
  have h313 := ha310.fx 4 h272
  have h314 := ha310.fx 5 h273
  have h315 := ha310.ge 5 7 rfl
  have hb316 := hb276.new_ hn309
  have hb317 := hb277.new_ hn309
  have hN318 := hN279.transNew hn309
  clear hs270 hd271 h272 h273 h274 hv306 hb276 hb277 hb278 hq47 hN279 ha310 hn309
  refine st_nil ?_
  refine hK _ _ ?_
  clear hK K
  refine wp_seq_k fun K hK => ?_
  refine wp_seq_k fun K hK => ?_
  rcases Bool.eq_false_or_eq_true (decide ((((asM a).n).tmod ((asM b).n)) = 0)) with ht319 | ht319
  · skip
    have ht319d := of_decide_eq_true ht319
    refine wp_g0 [true, true, true, true, true, true, true] [] 51
      [ve (iv (((asM a).n).tmod ((asM b).n))),
       ve (.bool true),
       ve (.bool true),
       ve (.pointer (some ⟨q35, 1, none⟩)),
       ve (iv ((asM a).n)),
       ve (.bool (decide (((asM a).n) < 0))),
       ve (.bool (decide (((asM a).n) < 0)))] hs311 (.eq (.eq (.eq (.eq (.eq (.eq (.eq (.nil)))))))) ?_ ?_
    · skip
      refine .o1 (tk rfl rfl fun _ w hn k => ⟨_, v_move rfl (k.fx 7 h315), rfl⟩) ?_
      refine .o1 (tk rfl rfl fun _ w hn k => ⟨_, v_bin rfl (k.eq1 0 41 rfl) rfl (fun _ => rfl) (r_eql ht319), rfl⟩) ?_
      refine .o1 (tk rfl rfl fun _ w hn k => ⟨_, v_move rfl (k.eq1 1 42 rfl), rfl⟩) ?_
      refine .o1 (tg rfl rfl rfl (fun _ _ k => k.eq1 2 43 rfl) fun _ w hn k => ⟨_, v_field rfl (k.fx 5 h314) (fun w => rfl), rfl⟩) ?_
      refine .o1 (tg rfl rfl rfl (fun _ _ k => k.eq1 2 43 rfl) fun _ w hn k => ⟨_, v_load rfl (k.eq1 3 44 rfl) (l_one Tryd.isAgg3 ((hb317.new_ hn).cell 1)), rfl⟩) ?_
      refine .o1 (tg rfl rfl rfl (fun _ _ k => k.eq1 2 43 rfl) fun _ w hn k => ⟨_, v_bin rfl (k.eq1 4 45 rfl) rfl (fun _ => rfl) (r_lssK rfl), rfl⟩) ?_
      refine .o1 (tk rfl rfl fun _ w hn k => ⟨_, v_pickT rfl (k.eq1 2 43 rfl) (k.eq1 5 46 rfl), rfl⟩) ?_
      exact .nil
    intro a320 w321 hn322 ha323
    have hs324 := ha323.size.trans hs311
    have hd325 := ha323.defers.trans hd312
    have h326 := ha323.fx 4 h313
    have h327 := ha323.fx 7 h315
    have h328 := ha323.ge 6 47 rfl
    have hb329 := hb316.new_ hn322
    have hN330 := hN318.transNew hn322
    clear hs311 hd312 h313 h314 h315 hb316 hb317 hq46 hN318 ha323 hn322
    refine st_nil ?_
    refine hK _ _ ?_
    clear hK K
    rcases Bool.eq_false_or_eq_true (decide (((asM a).n) < 0)) with ht331 | ht331
    · skip
      have ht331d := of_decide_eq_true ht331
      have hv332 : a320.eval (.tmp 47) = .bool true := h328.trans (congrArg Value.bool ht331)
      clear h328
      refine wp_cond_true hv332 ?_
      refine wp_seq_k fun K hK => ?_
      refine wp_g0 [true, false] [(1, false)] 51
        [ve (nv (Nm.mk 1 0)),
         vt] hs324 (.eq (.tt (.nil))) ?_ ?_
      · skip
        refine .o1 (ck rfl rfl rfl (fun _ w hn k => ⟨#[iv 1], args1 rfl, fun _ => by kernel_rfl, rkind_c 1 _⟩) fun _ => rfl) ?_
        refine .off ?_
        exact .nil
      intro a333 w334 hn335 ha336
      have hs337 := ha336.size.trans hs324
      have hd338 := ha336.defers.trans hd325
      have h339 := ha336.fx 4 h326
      have h340 := ha336.fx 7 h327
      have h341 := ha336.ge 0 48 rfl
      have hb342 := hb329.new_ hn335
      have hN343 := hN330.transNew hn335
      clear hs324 hd325 h326 h327 hv332 hb329 hN330 ha336 hn335
      obtain ⟨w344, -, hst345, hb346, hu347, hf348⟩ := s_two (v0 := iv 1) (v1 := iv 0) Tryd.sizeOf23 rfl rfl rfl hb342
      refine st_act rfl rfl fun K349 hL350 => a_store' rfl h339 h341 hst345 (hL350 _ _ trivial ?_)
      have hN351 := hN343.trans hu347 (fun k hk hkb => by subst hkb; omega)
      clear hb342 hst345 K349 hL350 hN343 hu347 hf348
      refine st_nil ?_
      clear h341
      refine hK _ _ ?_
      clear hK K
      refine wp_ret (ret_k hd338 (v := nv (Nm.mk 1 0)) (res_c rfl h339 (l_two Tryd.isAgg23 Tryd.sizeOf23 hb346)) ?_)
      refine ⟨?_, hN351⟩
      show Ending.returned (nv (Nm.mk 1 0)) = Ending.returned (nv (rRemM a b))
      first | rfl | (simp [rRemM, ht69, ht108, ht147, ht200, ht227, ht280, ht319, ht331])
    have ht331d := of_decide_eq_false ht331
    have hv352 : a320.eval (.tmp 47) = .bool false := h328.trans (congrArg Value.bool ht331)
    clear h328
    refine wp_cond_false hv352 ?_
    refine wp_skip ?_
    refine hK _ _ ?_
    clear hK K
    refine wp_seq_k fun K hK => ?_
    refine wp_g0 [true, true, false] [(2, false)] 51
      [ve (iv (((asM a).n).tmod ((asM b).n))),
       ve (nv (Nm.mk 0 (((asM a).n).tmod ((asM b).n)))),
       vt] hs324 (.eq (.eq (.tt (.nil)))) ?_ ?_
    · skip
      refine .o1 (tk rfl rfl fun _ w hn k => ⟨_, v_move rfl (k.fx 7 h327), rfl⟩) ?_
      refine .o1 (tk rfl rfl fun _ w hn k => ⟨_, v_build (ps := [(1, iv (((asM a).n).tmod ((asM b).n)))]) rfl (parts1 (k.eq1 0 49 rfl)) (by kernel_rfl), rfl⟩) ?_
      refine .off ?_
      exact .nil
    intro a353 w354 hn355 ha356
    have hs357 := ha356.size.trans hs324
    have hd358 := ha356.defers.trans hd325
    have h359 := ha356.fx 4 h326
    have h360 := ha356.ge 1 50 rfl
    have hb361 := hb329.new_ hn355
    have hN362 := hN330.transNew hn355
    clear hs324 hd325 h326 h327 hv352 hb329 hN330 ha356 hn355
    obtain ⟨w363, -, hst364, hb365, hu366, hf367⟩ := s_two (v0 := iv 0) (v1 := iv (((asM a).n).tmod ((asM b).n))) Tryd.sizeOf23 rfl rfl rfl hb361
    refine st_act rfl rfl fun K368 hL369 => a_store' rfl h359 h360 hst364 (hL369 _ _ trivial ?_)
    have hN370 := hN362.trans hu366 (fun k hk hkb => by subst hkb; omega)
    clear hb361 hst364 K368 hL369 hN362 hu366 hf367
    refine st_nil ?_
    clear h360
    refine hK _ _ ?_
    clear hK K
    refine wp_ret (ret_k hd358 (v := nv (Nm.mk 0 (((asM a).n).tmod ((asM b).n)))) (res_c rfl h359 (l_two Tryd.isAgg23 Tryd.sizeOf23 hb365)) ?_)
    refine ⟨?_, hN370⟩
    show Ending.returned (nv (Nm.mk 0 (((asM a).n).tmod ((asM b).n)))) = Ending.returned (nv (rRemM a b))
    first | rfl | (simp [rRemM, ht69, ht108, ht147, ht200, ht227, ht280, ht319, ht331])
  have ht319d := of_decide_eq_false ht319
  refine wp_g0 [true, true, true, true, true, true, true] [] 51
    [ve (iv (((asM a).n).tmod ((asM b).n))),
     ve (.bool false),
     ve (.bool false),
     ve undef,
     ve undef,
     ve undef,
     ve (.bool false)] hs311 (.eq (.eq (.eq (.eq (.eq (.eq (.eq (.nil)))))))) ?_ ?_
  · skip
    refine .o1 (tk rfl rfl fun _ w hn k => ⟨_, v_move rfl (k.fx 7 h315), rfl⟩) ?_
    refine .o1 (tk rfl rfl fun _ w hn k => ⟨_, v_bin rfl (k.eq1 0 41 rfl) rfl (fun _ => rfl) (r_eql ht319), rfl⟩) ?_
    refine .o1 (tk rfl rfl fun _ w hn k => ⟨_, v_move rfl (k.eq1 1 42 rfl), rfl⟩) ?_
    refine .o1 (sk rfl rfl rfl (fun _ _ _ k => k.eq1 2 43 rfl) (fun _ => rfl)) ?_
    refine .o1 (sk rfl rfl rfl (fun _ _ _ k => k.eq1 2 43 rfl) (fun _ => rfl)) ?_
    refine .o1 (sk rfl rfl rfl (fun _ _ _ k => k.eq1 2 43 rfl) (fun _ => rfl)) ?_
    refine .o1 (tk rfl rfl fun _ w hn k => ⟨_, v_pickF rfl (k.eq1 2 43 rfl) rfl, rfl⟩) ?_
    exact .nil
  intro a371 w372 hn373 ha374
  have hs375 := ha374.size.trans hs311
  have hd376 := ha374.defers.trans hd312
  have h377 := ha374.fx 4 h313
  have h378 := ha374.fx 7 h315
  have h379 := ha374.ge 6 47 rfl
  have hb380 := hb316.new_ hn373
  have hN381 := hN318.transNew hn373
  clear hs311 hd312 h313 h314 h315 hb316 hb317 hq46 hN318 ha374 hn373
  refine st_nil ?_
  refine hK _ _ ?_
  clear hK K
  refine wp_cond_false h379 ?_
  refine wp_skip ?_
  refine hK _ _ ?_
  clear hK K
  refine wp_seq_k fun K hK => ?_
  refine wp_g0 [true, true, false] [(2, false)] 51
    [ve (iv (((asM a).n).tmod ((asM b).n))),
     ve (nv (Nm.mk 0 (((asM a).n).tmod ((asM b).n)))),
     vt] hs375 (.eq (.eq (.tt (.nil)))) ?_ ?_
  · skip
    refine .o1 (tk rfl rfl fun _ w hn k => ⟨_, v_move rfl (k.fx 7 h378), rfl⟩) ?_
    refine .o1 (tk rfl rfl fun _ w hn k => ⟨_, v_build (ps := [(1, iv (((asM a).n).tmod ((asM b).n)))]) rfl (parts1 (k.eq1 0 49 rfl)) (by kernel_rfl), rfl⟩) ?_
    refine .off ?_
    exact .nil
  intro a382 w383 hn384 ha385
  have hs386 := ha385.size.trans hs375
  have hd387 := ha385.defers.trans hd376
  have h388 := ha385.fx 4 h377
  have h389 := ha385.ge 1 50 rfl
  have hb390 := hb380.new_ hn384
  have hN391 := hN381.transNew hn384
  clear hs375 hd376 h377 h378 h379 hb380 hN381 ha385 hn384
  obtain ⟨w392, -, hst393, hb394, hu395, hf396⟩ := s_two (v0 := iv 0) (v1 := iv (((asM a).n).tmod ((asM b).n))) Tryd.sizeOf23 rfl rfl rfl hb390
  refine st_act rfl rfl fun K397 hL398 => a_store' rfl h388 h389 hst393 (hL398 _ _ trivial ?_)
  have hN399 := hN391.trans hu395 (fun k hk hkb => by subst hkb; omega)
  clear hb390 hst393 K397 hL398 hN391 hu395 hf396
  refine st_nil ?_
  clear h389
  refine hK _ _ ?_
  clear hK K
  refine wp_ret (ret_k hd387 (v := nv (Nm.mk 0 (((asM a).n).tmod ((asM b).n)))) (res_c rfl h388 (l_two Tryd.isAgg23 Tryd.sizeOf23 hb394)) ?_)
  refine ⟨?_, hN399⟩
  show Ending.returned (nv (Nm.mk 0 (((asM a).n).tmod ((asM b).n)))) = Ending.returned (nv (rRemM a b))
  first | rfl | (simp [rRemM, ht69, ht108, ht147, ht200, ht227, ht280, ht319])
end Go.Proofs.YtldakajmhfdfgaaDoor
