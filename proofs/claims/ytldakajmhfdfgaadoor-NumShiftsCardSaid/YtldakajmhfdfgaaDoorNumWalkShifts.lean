/- NumShifts: the walk -/
import Derived.Test.YtldakajmhfdfgaaDoorNumF
import Derived.Test.YtldakajmhfdfgaaDoorNumR2
import Derived.Test.YtldakajmhfdfgaaDoorNumMath10
namespace Go.Proofs.YtldakajmhfdfgaaDoor
open Go.RowKit
set_option linter.unusedSimpArgs false
set_option linter.unusedVariables false
set_option maxHeartbeats 8000000 in
set_option maxRecDepth 100000 in
theorem shifts_walk (a : Nm) (s : Int) (w : World) : Calls Tryd.prog 5 #[nv a, iv s] w (IsRet (.bool true) w) := by
  refine enter_abs Tryd.func5 rfl fun a0 hs0 hd0 hp => ?_
  have hs0 : a0.tmps.size = 111 := hs0
  have hN0 : New w w := Upd.refl _ _
  have hp0 : a0.eval (.tmp 0) = nv a := hp 0 _ rfl
  have hp1 : a0.eval (.tmp 1) = iv s := hp 1 _ rfl
  clear hp
  refine wp_seq_k fun K hK => ?_
  refine wp_g [true, true] [] [] 111
    [IsNew w 23 [iv a.k, iv a.n],
     ve (.bool false)]
    [0] (newsCons (fun v w h => IsNew.old h) newsNil) hs0 (.nw (.eq (.nil))) ?_ (fun i h => by cases h) ?_
  · skip
    refine .o2 (step_allocN (cs := [iv a.k, iv a.n]) (t := 23) rfl (noG rfl) (fun _ w hn k => v_box rfl (k.fx 0 hp0) (fun w => rfl)) (fun q _ hq hb => ⟨q, rfl, hq, hb⟩)) ?_
    refine .o1 (tk rfl rfl fun _ w hn k => ⟨_, v_assign rfl rfl, rfl⟩) ?_
    exact .nil
  intro a1 w2 hn3 ha4
  have hs5 := ha4.size.trans hs0
  have hd6 := ha4.defers.trans hd0
  have h7 := ha4.fx 1 hp1
  obtain ⟨q9, h8, hq10, hb11⟩ : IsNew _ _ _ _ _ := ha4.got 0 2 rfl (by kernel_rfl)
  have h12 := ha4.ge 1 4 rfl
  have hq13 := Nat.le_trans hN0.size hq10
  have hN14 := hN0.transNew hn3
  clear hs0 hd0 hp0 hp1 hq10 hN0 ha4 hn3
  refine st_nil ?_
  refine hK _ _ ?_
  clear hK K
  refine wp_seq_k fun K hK => ?_
  refine wp_seq_k fun K hK => ?_
  refine wp_g0 [true, true] [] 111
    [ve (.bool true),
     ve (.bool false)] hs5 (.eq (.eq (.nil))) ?_ ?_
  · skip
    refine .o1 (ck rfl rfl rfl (fun _ w hn k => ⟨#[], rfl, fun _ => by kernel_rfl, first_c  _⟩) fun _ => rfl) ?_
    refine .o1 (tk rfl rfl fun _ w hn k => ⟨_, v_not rfl (k.eq1 0 11 rfl), rfl⟩) ?_
    exact .nil
  intro a15 w16 hn17 ha18
  have hs19 := ha18.size.trans hs5
  have hd20 := ha18.defers.trans hd6
  have h21 := ha18.fx 1 h7
  have h22 := ha18.fx 2 h8
  have h23 := ha18.fx 4 h12
  have h24 := ha18.ge 1 12 rfl
  have hb25 := hb11.new_ hn17
  have hN26 := hN14.transNew hn17
  clear hs5 hd6 h7 h8 h12 hb11 hN14 ha18 hn17
  refine st_nil ?_
  refine hK _ _ ?_
  clear hK K
  refine wp_cond_false h24 ?_
  refine wp_skip ?_
  refine hK _ _ ?_
  clear hK K
  refine wp_seq_k fun K hK => ?_
  refine wp_seq_k fun K hK => ?_
  rcases Bool.eq_false_or_eq_true (decide (s < 0)) with ht27 | ht27
  · skip
    have ht27d := of_decide_eq_true ht27
    refine wp_g0 [true, true, true, true, true, true] [] 111
      [ve (iv s),
       ve (.bool true),
       ve (.bool true),
       ve undef,
       ve undef,
       ve (.bool true)] hs19 (.eq (.eq (.eq (.eq (.eq (.eq (.nil))))))) ?_ ?_
    · skip
      refine .o1 (tk rfl rfl fun _ w hn k => ⟨_, v_move rfl (k.fx 1 h21), rfl⟩) ?_
      refine .o1 (tk rfl rfl fun _ w hn k => ⟨_, v_bin rfl (k.eq1 0 13 rfl) rfl (fun _ => rfl) (r_lssK ht27), rfl⟩) ?_
      refine .o1 (tk rfl rfl fun _ w hn k => ⟨_, v_move rfl (k.eq1 1 14 rfl), rfl⟩) ?_
      refine .o1 (sk rfl rfl rfl (fun _ _ _ k => k.eq1 2 15 rfl) (fun _ => rfl)) ?_
      refine .o1 (sk rfl rfl rfl (fun _ _ _ k => k.eq1 2 15 rfl) (fun _ => rfl)) ?_
      refine .o1 (tk rfl rfl fun _ w hn k => ⟨_, v_pickT rfl (k.eq1 2 15 rfl) rfl, rfl⟩) ?_
      exact .nil
    intro a28 w29 hn30 ha31
    have hs32 := ha31.size.trans hs19
    have hd33 := ha31.defers.trans hd20
    have h34 := ha31.fx 1 h21
    have h35 := ha31.fx 2 h22
    have h36 := ha31.fx 4 h23
    have h37 := ha31.ge 5 18 rfl
    have hb38 := hb25.new_ hn30
    have hN39 := hN26.transNew hn30
    clear hs19 hd20 h21 h22 h23 h24 hb25 hN26 ha31 hn30
    refine st_nil ?_
    refine hK _ _ ?_
    clear hK K
    refine wp_cond_true h37 ?_
    refine wp_seq_k fun K hK => ?_
    refine wp_g0 [true, true] [] 111
      [ve (.bool true),
       ve (.bool true)] hs32 (.eq (.eq (.nil))) ?_ ?_
    · skip
      refine .o1 (ck rfl rfl rfl (fun _ w hn k => ⟨#[], rfl, fun _ => by kernel_rfl, first_c  _⟩) fun _ => rfl) ?_
      refine .o1 (tk rfl rfl fun _ w hn k => ⟨_, v_assign rfl (k.eq1 0 19 rfl), rfl⟩) ?_
      exact .nil
    intro a40 w41 hn42 ha43
    have hs44 := ha43.size.trans hs32
    have hd45 := ha43.defers.trans hd33
    have h46 := ha43.fx 1 h34
    have h47 := ha43.fx 2 h35
    have h48 := ha43.ge 1 4 rfl
    have hb49 := hb38.new_ hn42
    have hN50 := hN39.transNew hn42
    clear hs32 hd33 h34 h35 h36 h37 hb38 hN39 ha43 hn42
    refine st_nil ?_
    refine hK _ _ ?_
    clear hK K
    refine wp_ret (ret_k hd45 (v := .bool true) (res_t rfl h48 _) ?_)
    exact ⟨rfl, hN50⟩
  have ht27d := of_decide_eq_false ht27
  rcases Bool.eq_false_or_eq_true (decide (s ≤ 20)) with ht51 | ht51
  · skip
    have ht51d := of_decide_eq_true ht51
    have hs0 := of_decide_eq_false ht27
    have hs20 := of_decide_eq_true ht51
    have hsbd := shifts_bd a hs0 hs20
    refine wp_g0 [true, true, true, true, true, true] [] 111
      [ve (iv s),
       ve (.bool false),
       ve (.bool false),
       ve (iv s),
       ve (.bool false),
       ve (.bool false)] hs19 (.eq (.eq (.eq (.eq (.eq (.eq (.nil))))))) ?_ ?_
    · skip
      refine .o1 (tk rfl rfl fun _ w hn k => ⟨_, v_move rfl (k.fx 1 h21), rfl⟩) ?_
      refine .o1 (tk rfl rfl fun _ w hn k => ⟨_, v_bin rfl (k.eq1 0 13 rfl) rfl (fun _ => rfl) (r_lssK ht27), rfl⟩) ?_
      refine .o1 (tk rfl rfl fun _ w hn k => ⟨_, v_move rfl (k.eq1 1 14 rfl), rfl⟩) ?_
      refine .o1 (tg rfl rfl rfl (fun _ _ k => k.eq1 2 15 rfl) fun _ w hn k => ⟨_, v_move rfl (k.fx 1 h21), rfl⟩) ?_
      refine .o1 (tg rfl rfl rfl (fun _ _ k => k.eq1 2 15 rfl) fun _ w hn k => ⟨_, v_bin rfl (k.eq1 3 16 rfl) rfl (fun _ => rfl) (r_gtrK ht51), rfl⟩) ?_
      refine .o1 (tk rfl rfl fun _ w hn k => ⟨_, v_pickF rfl (k.eq1 2 15 rfl) (k.eq1 4 17 rfl), rfl⟩) ?_
      exact .nil
    intro a52 w53 hn54 ha55
    have hs56 := ha55.size.trans hs19
    have hd57 := ha55.defers.trans hd20
    have h58 := ha55.fx 1 h21
    have h59 := ha55.fx 2 h22
    have h60 := ha55.fx 4 h23
    have h61 := ha55.ge 5 18 rfl
    have hb62 := hb25.new_ hn54
    have hN63 := hN26.transNew hn54
    clear hs19 hd20 h21 h22 h23 h24 hb25 hN26 ha55 hn54
    refine st_nil ?_
    refine hK _ _ ?_
    clear hK K
    refine wp_cond_false h61 ?_
    refine wp_skip ?_
    refine hK _ _ ?_
    clear hK K
    refine wp_seq_k fun K hK => ?_
    refine wp_g0 [true, true, true] [] 111
      [ve (nv a),
       ve (iv (i32M a)),
       ve (iv (i32M a))] hs56 (.eq (.eq (.eq (.nil)))) ?_ ?_
    · skip
      refine .o1 (tk rfl rfl fun _ w hn k => ⟨_, v_load rfl (k.fx 2 h59) (l_two Tryd.isAgg23 Tryd.sizeOf23 (hb62.new_ hn)), rfl⟩) ?_
      refine .o1 (ck rfl rfl rfl (fun _ w hn k => ⟨#[nv a], args1 (k.eq1 0 20 rfl), fun _ => by kernel_rfl, i32_c a _⟩) fun _ => rfl) ?_
      refine .o1 (tk rfl rfl fun _ w hn k => ⟨_, v_assign rfl (k.eq1 1 21 rfl), rfl⟩) ?_
      exact .nil
    intro a64 w65 hn66 ha67
    have hs68 := ha67.size.trans hs56
    have hd69 := ha67.defers.trans hd57
    have h70 := ha67.fx 1 h58
    have h71 := ha67.fx 2 h59
    have h72 := ha67.fx 4 h60
    have h73 := ha67.ge 2 5 rfl
    have hb74 := hb62.new_ hn66
    have hN75 := hN63.transNew hn66
    clear hs56 hd57 h58 h59 h60 h61 hb62 hN63 ha67 hn66
    have hi32_a : -2147483648 ≤ i32M a ∧ i32M a ≤ 2147483647 := i32_bd _
    refine st_nil ?_
    refine hK _ _ ?_
    clear hK K
    refine wp_seq_k fun K hK => ?_
    refine wp_g [true, true, true, true, true, false] [] [(5, false)] 111
      [ve (nv a),
       ve (iv s),
       ve (nv (Nm.mk 0 s)),
       ve (nv (bitM 4 a (Nm.mk 0 s))),
       IsNew w65 23 [iv 0, iv 0],
       vt]
      [4] (newsCons (fun v w h => IsNew.old h) newsNil) hs68 (.eq (.eq (.eq (.eq (.nw (.tt (.nil))))))) ?_ (fun i h => by cases h) ?_
    · skip
      refine .o1 (tk rfl rfl fun _ w hn k => ⟨_, v_load rfl (k.fx 2 h71) (l_two Tryd.isAgg23 Tryd.sizeOf23 (hb74.new_ hn)), rfl⟩) ?_
      refine .o1 (tk rfl rfl fun _ w hn k => ⟨_, v_move rfl (k.fx 1 h70), rfl⟩) ?_
      refine .o1 (ck rfl rfl rfl (fun _ w hn k => ⟨#[iv s], args1 (k.eq1 1 23 rfl), fun _ => by kernel_rfl, w_c s _⟩) fun _ => rfl) ?_
      refine .o1 (ck rfl rfl rfl (fun _ w hn k => ⟨#[iv 4, nv a, nv (Nm.mk 0 s)], args3 rfl (k.eq1 0 22 rfl) (k.eq1 2 24 rfl), fun _ => by kernel_rfl, bit_c 4 a (Nm.mk 0 s) _⟩) fun _ => rfl) ?_
      refine .o2 (step_allocN (cs := [iv 0, iv 0]) (t := 23) rfl (noG rfl) (fun _ w hn k => rfl) (fun q _ hq hb => ⟨q, rfl, hq, hb⟩)) ?_
      refine .off ?_
      exact .nil
    intro a76 w77 hn78 ha79
    have hs80 := ha79.size.trans hs68
    have hd81 := ha79.defers.trans hd69
    have h82 := ha79.fx 1 h70
    have h83 := ha79.fx 2 h71
    have h84 := ha79.fx 4 h72
    have h85 := ha79.fx 5 h73
    have h86 := ha79.ge 3 25 rfl
    obtain ⟨q88, h87, hq89, hb90⟩ : IsNew _ _ _ _ _ := ha79.got 4 6 rfl (by kernel_rfl)
    have hb91 := hb74.new_ hn78
    have hne92 : q9 ≠ q88 := by have h1 := hb74.lt; have h2 := hq89; omega
    have hq93 := Nat.le_trans hN75.size hq89
    have hN94 := hN75.transNew hn78
    clear hs68 hd69 h70 h71 h72 h73 hb74 hq89 hN75 ha79 hn78
    obtain ⟨w95, -, hst96, hb97, hu98, hf99⟩ := s_two (v0 := iv ((bitM 4 a (Nm.mk 0 s)).k)) (v1 := iv ((bitM 4 a (Nm.mk 0 s)).n)) Tryd.sizeOf23 rfl rfl rfl hb90
    refine st_act rfl rfl fun K100 hL101 => a_store' rfl h87 h86 hst96 (hL101 _ _ trivial ?_)
    have hb102 := hf99 _ _ _ (hne92) hb91
    have hN103 := hN94.trans hu98 (fun k hk hkb => by subst hkb; omega)
    clear hb90 hst96 K100 hL101 hN94 hb91 hu98 hf99
    clear hne92
    refine st_nil ?_
    clear h86
    refine hK _ _ ?_
    clear hK K
    refine wp_seq_k fun K hK => ?_
    refine wp_g [true, true, true, true, true, true, true, true, true, true, true, false, false] [9] [(11, false), (12, true)] 111
      [ve (iv (i32M a)),
       ve (nv (Nm.mk 0 (i32M a))),
       ve (iv s),
       ve (.int .u64 s),
       ve (iv (1 * 2 ^ s.toNat)),
       ve (nv (Nm.mk 0 (1 * 2 ^ s.toNat))),
       ve (.tuple #[nv ((mulM (Nm.mk 0 (i32M a)) (Nm.mk 0 (1 * 2 ^ s.toNat))).1), .bool ((mulM (Nm.mk 0 (i32M a)) (Nm.mk 0 (1 * 2 ^ s.toNat))).2)]),
       ve (.tuple #[nv ((mulM (Nm.mk 0 (i32M a)) (Nm.mk 0 (1 * 2 ^ s.toNat))).1), .bool ((mulM (Nm.mk 0 (i32M a)) (Nm.mk 0 (1 * 2 ^ s.toNat))).2)]),
       ve (nv ((mulM (Nm.mk 0 (i32M a)) (Nm.mk 0 (1 * 2 ^ s.toNat))).1)),
       ve (.bool ((mulM (Nm.mk 0 (i32M a)) (Nm.mk 0 (1 * 2 ^ s.toNat))).2)),
       IsNew w95 23 [iv 0, iv 0],
       vt,
       vt]
      [10] (newsCons (fun v w h => IsNew.old h) newsNil) hs80 (.eq (.eq (.eq (.eq (.eq (.eq (.eq (.eq (.eq (.eq (.nw (.tt (.tt (.nil)))))))))))))) ?_ ?_ ?_
    · skip
      refine .o1 (tk rfl rfl fun _ w hn k => ⟨_, v_move rfl (k.fx 5 h85), rfl⟩) ?_
      refine .o1 (ck rfl rfl rfl (fun _ w hn k => ⟨#[iv (i32M a)], args1 (k.eq1 0 27 rfl), fun _ => by kernel_rfl, w_c (i32M a) _⟩) fun _ => rfl) ?_
      refine .o1 (tk rfl rfl fun _ w hn k => ⟨_, v_move rfl (k.fx 1 h82), rfl⟩) ?_
      refine .o1 (tk rfl rfl fun _ w hn k => ⟨_, v_conv rfl (k.eq1 2 29 rfl) (run_conv (by kernel_rfl) (by kernel_rfl) (by kernel_rfl) (IntWalk.u64_in _ (by omega))), rfl⟩) ?_
      refine .o1 (tk rfl rfl fun _ w hn k => ⟨_, v_bin rfl rfl (k.eq1 3 30 rfl) (fun _ => rfl) (r_shlIU (by omega) (by omega)), rfl⟩) ?_
      refine .o1 (ck rfl rfl rfl (fun _ w hn k => ⟨#[iv (1 * 2 ^ s.toNat)], args1 (k.eq1 4 31 rfl), fun _ => by kernel_rfl, w_c (1 * 2 ^ s.toNat) _⟩) fun _ => rfl) ?_
      refine .o1 (ck rfl rfl rfl (fun _ w hn k => ⟨#[nv (Nm.mk 0 (i32M a)), nv (Nm.mk 0 (1 * 2 ^ s.toNat))], args2 (k.eq1 1 28 rfl) (k.eq1 5 32 rfl), fun _ => by kernel_rfl, mul_c (Nm.mk 0 (i32M a)) (Nm.mk 0 (1 * 2 ^ s.toNat)) _⟩) fun _ => rfl) ?_
      refine .o1 (tk rfl rfl fun _ w hn k => ⟨_, v_move rfl (k.eq1 6 33 rfl), rfl⟩) ?_
      refine .o1 (tk rfl rfl fun _ w hn k => ⟨_, v_extract rfl (k.eq1 7 26 rfl) rfl, rfl⟩) ?_
      refine .o3 ?_
      refine .o2 (step_allocN (cs := [iv 0, iv 0]) (t := 23) rfl (noG rfl) (fun _ w hn k => rfl) (fun q _ hq hb => ⟨q, rfl, hq, hb⟩)) ?_
      refine .off ?_
      refine .off ?_
      exact .nil
    · skip
      intro i h
      simp only [List.contains_eq_mem, List.mem_cons, List.not_mem_nil, or_false, decide_eq_true_eq] at h
      subst h
      · exact eager_take rfl rfl fun _ w hn k => ⟨.bool ((mulM (Nm.mk 0 (i32M a)) (Nm.mk 0 (1 * 2 ^ s.toNat))).2), fun w => v_extract rfl (k.eq1 7 26 rfl) rfl, rfl⟩
    intro a104 w105 hn106 ha107
    have hs108 := ha107.size.trans hs80
    have hd109 := ha107.defers.trans hd81
    have h110 := ha107.fx 1 h82
    have h111 := ha107.fx 2 h83
    have h112 := ha107.fx 4 h84
    have h113 := ha107.fx 5 h85
    have h114 := ha107.fx 6 h87
    have h115 := ha107.ge 8 34 rfl
    have h116 := ha107.ge 9 35 rfl
    obtain ⟨q118, h117, hq119, hb120⟩ : IsNew _ _ _ _ _ := ha107.got 10 7 rfl (by kernel_rfl)
    have hb121 := hb102.new_ hn106
    have hb122 := hb97.new_ hn106
    have hne123 : q9 ≠ q118 := by have h1 := hb102.lt; have h2 := hq119; omega
    have hne124 : q88 ≠ q118 := by have h1 := hb97.lt; have h2 := hq119; omega
    have hq125 := Nat.le_trans hN103.size hq119
    have hN126 := hN103.transNew hn106
    clear hs80 hd81 h82 h83 h84 h85 h87 hb102 hb97 hq119 hN103 ha107 hn106
    obtain ⟨w127, -, hst128, hb129, hu130, hf131⟩ := s_two (v0 := iv ((mulM (Nm.mk 0 (i32M a)) (Nm.mk 0 (1 * 2 ^ s.toNat))).1.k)) (v1 := iv ((mulM (Nm.mk 0 (i32M a)) (Nm.mk 0 (1 * 2 ^ s.toNat))).1.n)) Tryd.sizeOf23 rfl rfl rfl hb120
    refine st_act rfl rfl fun K132 hL133 => a_store' rfl h117 h115 hst128 (hL133 _ _ trivial ?_)
    have hb134 := hf131 _ _ _ (hne123) hb121
    have hb135 := hf131 _ _ _ (hne124) hb122
    have hN136 := hN126.trans hu130 (fun k hk hkb => by subst hkb; omega)
    clear hb120 hst128 K132 hL133 hN126 hb121 hb122 hu130 hf131
    refine st_take rfl rfl (y_assign (v := .bool ((mulM (Nm.mk 0 (i32M a)) (Nm.mk 0 (1 * 2 ^ s.toNat))).2)) rfl h116) rfl ?_
    obtain ⟨a137, ha138⟩ : ∃ a', a' = a104.put (some 8) (.bool ((mulM (Nm.mk 0 (i32M a)) (Nm.mk 0 (1 * 2 ^ s.toNat))).2)) := ⟨_, rfl⟩
    have hs139 : a137.tmps.size = 111 := by rw [ha138, put_size]; exact hs108
    have hd140 : a137.defers = [] := by rw [ha138, put_defers]; exact hd109
    have h141 : a137.eval (.tmp 1) = iv s := by rw [ha138, put_ne _ _ _ _ (by decide)]; exact h110
    have h142 : a137.eval (.tmp 2) = pv q9 := by rw [ha138, put_ne _ _ _ _ (by decide)]; exact h111
    have h143 : a137.eval (.tmp 4) = .bool false := by rw [ha138, put_ne _ _ _ _ (by decide)]; exact h112
    have h144 : a137.eval (.tmp 5) = iv (i32M a) := by rw [ha138, put_ne _ _ _ _ (by decide)]; exact h113
    have h145 : a137.eval (.tmp 6) = pv q88 := by rw [ha138, put_ne _ _ _ _ (by decide)]; exact h114
    have h146 : a137.eval (.tmp 34) = nv ((mulM (Nm.mk 0 (i32M a)) (Nm.mk 0 (1 * 2 ^ s.toNat))).1) := by rw [ha138, put_ne _ _ _ _ (by decide)]; exact h115
    have h147 : a137.eval (.tmp 35) = .bool ((mulM (Nm.mk 0 (i32M a)) (Nm.mk 0 (1 * 2 ^ s.toNat))).2) := by rw [ha138, put_ne _ _ _ _ (by decide)]; exact h116
    have h148 : a137.eval (.tmp 7) = pv q118 := by rw [ha138, put_ne _ _ _ _ (by decide)]; exact h117
    have h149 : a137.eval (.tmp 8) = .bool ((mulM (Nm.mk 0 (i32M a)) (Nm.mk 0 (1 * 2 ^ s.toNat))).2) := by rw [ha138]; exact put_same _ _ _ (by rw [hs108]; decide)
    show stepsTo _ _ _ _ _ (a104.put (some 8) (.bool ((mulM (Nm.mk 0 (i32M a)) (Nm.mk 0 (1 * 2 ^ s.toNat))).2))) _
    rw [← ha138]
    clear ha138 hs108 hd109 h110 h111 h112 h113 h114 h115 h116 h117
    clear hne123
    clear hne124
    refine st_nil ?_
    clear h146 h147
    refine hK _ _ ?_
    clear hK K
    refine wp_seq_k fun K hK => ?_
    refine wp_g [true, true, true, true, true, false] [] [(5, false)] 111
      [ve (nv a),
       ve (iv s),
       ve (nv (Nm.mk 0 s)),
       ve (nv (bitM 5 a (Nm.mk 0 s))),
       IsNew w127 23 [iv 0, iv 0],
       vt]
      [4] (newsCons (fun v w h => IsNew.old h) newsNil) hs139 (.eq (.eq (.eq (.eq (.nw (.tt (.nil))))))) ?_ (fun i h => by cases h) ?_
    · skip
      refine .o1 (tk rfl rfl fun _ w hn k => ⟨_, v_load rfl (k.fx 2 h142) (l_two Tryd.isAgg23 Tryd.sizeOf23 (hb134.new_ hn)), rfl⟩) ?_
      refine .o1 (tk rfl rfl fun _ w hn k => ⟨_, v_move rfl (k.fx 1 h141), rfl⟩) ?_
      refine .o1 (ck rfl rfl rfl (fun _ w hn k => ⟨#[iv s], args1 (k.eq1 1 37 rfl), fun _ => by kernel_rfl, w_c s _⟩) fun _ => rfl) ?_
      refine .o1 (ck rfl rfl rfl (fun _ w hn k => ⟨#[iv 5, nv a, nv (Nm.mk 0 s)], args3 rfl (k.eq1 0 36 rfl) (k.eq1 2 38 rfl), fun _ => by kernel_rfl, bit_c 5 a (Nm.mk 0 s) _⟩) fun _ => rfl) ?_
      refine .o2 (step_allocN (cs := [iv 0, iv 0]) (t := 23) rfl (noG rfl) (fun _ w hn k => rfl) (fun q _ hq hb => ⟨q, rfl, hq, hb⟩)) ?_
      refine .off ?_
      exact .nil
    intro a150 w151 hn152 ha153
    have hs154 := ha153.size.trans hs139
    have hd155 := ha153.defers.trans hd140
    have h156 := ha153.fx 1 h141
    have h157 := ha153.fx 2 h142
    have h158 := ha153.fx 4 h143
    have h159 := ha153.fx 5 h144
    have h160 := ha153.fx 6 h145
    have h161 := ha153.fx 7 h148
    have h162 := ha153.fx 8 h149
    have h163 := ha153.ge 3 39 rfl
    obtain ⟨q165, h164, hq166, hb167⟩ : IsNew _ _ _ _ _ := ha153.got 4 9 rfl (by kernel_rfl)
    have hb168 := hb134.new_ hn152
    have hb169 := hb135.new_ hn152
    have hb170 := hb129.new_ hn152
    have hne171 : q9 ≠ q165 := by have h1 := hb134.lt; have h2 := hq166; omega
    have hne172 : q88 ≠ q165 := by have h1 := hb135.lt; have h2 := hq166; omega
    have hne173 : q118 ≠ q165 := by have h1 := hb129.lt; have h2 := hq166; omega
    have hq174 := Nat.le_trans hN136.size hq166
    have hN175 := hN136.transNew hn152
    clear hs139 hd140 h141 h142 h143 h144 h145 h148 h149 hb134 hb135 hb129 hq166 hN136 ha153 hn152
    obtain ⟨w176, -, hst177, hb178, hu179, hf180⟩ := s_two (v0 := iv ((bitM 5 a (Nm.mk 0 s)).k)) (v1 := iv ((bitM 5 a (Nm.mk 0 s)).n)) Tryd.sizeOf23 rfl rfl rfl hb167
    refine st_act rfl rfl fun K181 hL182 => a_store' rfl h164 h163 hst177 (hL182 _ _ trivial ?_)
    have hb183 := hf180 _ _ _ (hne171) hb168
    have hb184 := hf180 _ _ _ (hne172) hb169
    have hb185 := hf180 _ _ _ (hne173) hb170
    have hN186 := hN175.trans hu179 (fun k hk hkb => by subst hkb; omega)
    clear hb167 hst177 K181 hL182 hN175 hb168 hb169 hb170 hu179 hf180
    clear hne171
    clear hne172
    clear hne173
    refine st_nil ?_
    clear h163
    refine hK _ _ ?_
    clear hK K
    refine wp_seq_k fun K hK => ?_
    refine wp_g [true, true, true, true, true, false] [] [(5, false)] 111
      [ve (nv a),
       ve (iv s),
       ve (nv (Nm.mk 0 s)),
       ve (nv (bitM 6 a (Nm.mk 0 s))),
       IsNew w176 23 [iv 0, iv 0],
       vt]
      [4] (newsCons (fun v w h => IsNew.old h) newsNil) hs154 (.eq (.eq (.eq (.eq (.nw (.tt (.nil))))))) ?_ (fun i h => by cases h) ?_
    · skip
      refine .o1 (tk rfl rfl fun _ w hn k => ⟨_, v_load rfl (k.fx 2 h157) (l_two Tryd.isAgg23 Tryd.sizeOf23 (hb183.new_ hn)), rfl⟩) ?_
      refine .o1 (tk rfl rfl fun _ w hn k => ⟨_, v_move rfl (k.fx 1 h156), rfl⟩) ?_
      refine .o1 (ck rfl rfl rfl (fun _ w hn k => ⟨#[iv s], args1 (k.eq1 1 41 rfl), fun _ => by kernel_rfl, w_c s _⟩) fun _ => rfl) ?_
      refine .o1 (ck rfl rfl rfl (fun _ w hn k => ⟨#[iv 6, nv a, nv (Nm.mk 0 s)], args3 rfl (k.eq1 0 40 rfl) (k.eq1 2 42 rfl), fun _ => by kernel_rfl, bit_c 6 a (Nm.mk 0 s) _⟩) fun _ => rfl) ?_
      refine .o2 (step_allocN (cs := [iv 0, iv 0]) (t := 23) rfl (noG rfl) (fun _ w hn k => rfl) (fun q _ hq hb => ⟨q, rfl, hq, hb⟩)) ?_
      refine .off ?_
      exact .nil
    intro a187 w188 hn189 ha190
    have hs191 := ha190.size.trans hs154
    have hd192 := ha190.defers.trans hd155
    have h193 := ha190.fx 1 h156
    have h194 := ha190.fx 2 h157
    have h195 := ha190.fx 4 h158
    have h196 := ha190.fx 5 h159
    have h197 := ha190.fx 6 h160
    have h198 := ha190.fx 7 h161
    have h199 := ha190.fx 8 h162
    have h200 := ha190.fx 9 h164
    have h201 := ha190.ge 3 43 rfl
    obtain ⟨q203, h202, hq204, hb205⟩ : IsNew _ _ _ _ _ := ha190.got 4 10 rfl (by kernel_rfl)
    have hb206 := hb183.new_ hn189
    have hb207 := hb184.new_ hn189
    have hb208 := hb185.new_ hn189
    have hb209 := hb178.new_ hn189
    have hne210 : q9 ≠ q203 := by have h1 := hb183.lt; have h2 := hq204; omega
    have hne211 : q88 ≠ q203 := by have h1 := hb184.lt; have h2 := hq204; omega
    have hne212 : q118 ≠ q203 := by have h1 := hb185.lt; have h2 := hq204; omega
    have hne213 : q165 ≠ q203 := by have h1 := hb178.lt; have h2 := hq204; omega
    have hq214 := Nat.le_trans hN186.size hq204
    have hN215 := hN186.transNew hn189
    clear hs154 hd155 h156 h157 h158 h159 h160 h161 h162 h164 hb183 hb184 hb185 hb178 hq204 hN186 ha190 hn189
    obtain ⟨w216, -, hst217, hb218, hu219, hf220⟩ := s_two (v0 := iv ((bitM 6 a (Nm.mk 0 s)).k)) (v1 := iv ((bitM 6 a (Nm.mk 0 s)).n)) Tryd.sizeOf23 rfl rfl rfl hb205
    refine st_act rfl rfl fun K221 hL222 => a_store' rfl h202 h201 hst217 (hL222 _ _ trivial ?_)
    have hb223 := hf220 _ _ _ (hne210) hb206
    have hb224 := hf220 _ _ _ (hne211) hb207
    have hb225 := hf220 _ _ _ (hne212) hb208
    have hb226 := hf220 _ _ _ (hne213) hb209
    have hN227 := hN215.trans hu219 (fun k hk hkb => by subst hkb; omega)
    clear hb205 hst217 K221 hL222 hN215 hb206 hb207 hb208 hb209 hu219 hf220
    clear hne210
    clear hne211
    clear hne212
    clear hne213
    refine st_nil ?_
    clear h201
    refine hK _ _ ?_
    clear hK K
    refine wp_seq_k fun K hK => ?_
    have ht228 : ((mulM (Nm.mk 0 (i32M a)) (Nm.mk 0 (1 * 2 ^ s.toNat))).2) = true := congrArg Prod.snd (shifts a (of_decide_eq_false ht27) (of_decide_eq_true ht51)).1
    have hv229 : a187.eval (.tmp 8) = .bool true := h199.trans (congrArg Value.bool ht228)
    clear h199
    have ht230 : (decide (((bitM 4 a (Nm.mk 0 s)).n) = (i32M ((mulM (Nm.mk 0 (i32M a)) (Nm.mk 0 (1 * 2 ^ s.toNat))).1)))) = true := (by rw [(shifts a (of_decide_eq_false ht27) (of_decide_eq_true ht51)).1]; exact decide_eq_true (shifts a (of_decide_eq_false ht27) (of_decide_eq_true ht51)).2.1)
    have ht230d := of_decide_eq_true ht230
    have ht231 : (decide (((bitM 4 a (Nm.mk 0 s)).k) = 0)) = true := decide_eq_true rfl
    have ht231d := of_decide_eq_true ht231
    have ht232 : (decide ((((bitM 5 a (Nm.mk 0 s)).n) * (1 * 2 ^ s.toNat)) ≤ (i32M a))) = true := decide_eq_true (shifts a (of_decide_eq_false ht27) (of_decide_eq_true ht51)).2.2.1
    have ht232d := of_decide_eq_true ht232
    have ht233 : (decide ((i32M a) < ((((bitM 5 a (Nm.mk 0 s)).n) + 1) * (1 * 2 ^ s.toNat)))) = true := decide_eq_true (shifts a (of_decide_eq_false ht27) (of_decide_eq_true ht51)).2.2.2.1
    have ht233d := of_decide_eq_true ht233
    have ht234 : (decide (((bitM 6 a (Nm.mk 0 s)).n) = ((u32M a).tdiv (1 * 2 ^ s.toNat)))) = true := decide_eq_true (shifts a (of_decide_eq_false ht27) (of_decide_eq_true ht51)).2.2.2.2
    have ht234d := of_decide_eq_true ht234
    have ht235 : (sameM (bitM 4 a (Nm.mk 0 (s + 32))) (bitM 4 a (Nm.mk 0 s))) = true := (by rw [(bit_32 a (of_decide_eq_false ht27) (of_decide_eq_true ht51)).1]; exact sameM_refl _)
    refine wp_g0 [true, true, true, true, true, true, true, true, true, true, true, true, true, true, true, true, true, true, true, true, true, true, true, true, true, true, true, true, true, true, true, true, true, true, true, true, true, true, true, true, true, true, true, true, true, true, true, true, true, true, true, true, true, true, true, true, true, true, true, true, true, true, true, true, true, true, true, true] [] 111
      [ve (.bool true),
       ve (.bool true),
       ve (.bool true),
       ve (.bool false),
       ve (.bool false),
       ve (.pointer (some ⟨q88, 1, none⟩)),
       ve (iv ((bitM 4 a (Nm.mk 0 s)).n)),
       ve (nv ((mulM (Nm.mk 0 (i32M a)) (Nm.mk 0 (1 * 2 ^ s.toNat))).1)),
       ve (iv (i32M ((mulM (Nm.mk 0 (i32M a)) (Nm.mk 0 (1 * 2 ^ s.toNat))).1))),
       ve (.bool true),
       ve (.bool true),
       ve (.bool true),
       ve (.bool true),
       ve (pv q88),
       ve (iv ((bitM 4 a (Nm.mk 0 s)).k)),
       ve (.bool true),
       ve (.bool true),
       ve (.bool true),
       ve (.pointer (some ⟨q165, 1, none⟩)),
       ve (iv ((bitM 5 a (Nm.mk 0 s)).n)),
       ve (iv s),
       ve (.int .u64 s),
       ve (iv (1 * 2 ^ s.toNat)),
       ve (iv (((bitM 5 a (Nm.mk 0 s)).n) * (1 * 2 ^ s.toNat))),
       ve (iv (i32M a)),
       ve (.bool true),
       ve (.bool true),
       ve (.bool true),
       ve (iv (i32M a)),
       ve (.pointer (some ⟨q165, 1, none⟩)),
       ve (iv ((bitM 5 a (Nm.mk 0 s)).n)),
       ve (iv (((bitM 5 a (Nm.mk 0 s)).n) + 1)),
       ve (iv s),
       ve (.int .u64 s),
       ve (iv (1 * 2 ^ s.toNat)),
       ve (iv ((((bitM 5 a (Nm.mk 0 s)).n) + 1) * (1 * 2 ^ s.toNat))),
       ve (.bool true),
       ve (.bool true),
       ve (.bool true),
       ve (.pointer (some ⟨q203, 1, none⟩)),
       ve (iv ((bitM 6 a (Nm.mk 0 s)).n)),
       ve (nv a),
       ve (iv (u32M a)),
       ve (iv s),
       ve (.int .u64 s),
       ve (iv (1 * 2 ^ s.toNat)),
       ve (iv ((u32M a).tdiv (1 * 2 ^ s.toNat))),
       ve (.bool true),
       ve (.bool true),
       ve (.bool true),
       ve (nv a),
       ve (iv s),
       ve (iv (s + 32)),
       ve (nv (Nm.mk 0 (s + 32))),
       ve (nv (bitM 4 a (Nm.mk 0 (s + 32)))),
       ve (nv (bitM 4 a (Nm.mk 0 s))),
       ve (.bool true),
       ve (.bool true),
       ve (.bool true),
       ve (nv a),
       ve (iv s),
       ve (iv (s + 32)),
       ve (nv (Nm.mk 0 (s + 32))),
       ve (nv (bitM 5 a (Nm.mk 0 (s + 32)))),
       ve (nv (bitM 5 a (Nm.mk 0 s))),
       ve (.bool (sameM (bitM 5 a (Nm.mk 0 (s + 32))) (bitM 5 a (Nm.mk 0 s)))),
       ve (.bool (sameM (bitM 5 a (Nm.mk 0 (s + 32))) (bitM 5 a (Nm.mk 0 s)))),
       ve (.bool (sameM (bitM 5 a (Nm.mk 0 (s + 32))) (bitM 5 a (Nm.mk 0 s))))] hs191 (.eq (.eq (.eq (.eq (.eq (.eq (.eq (.eq (.eq (.eq (.eq (.eq (.eq (.eq (.eq (.eq (.eq (.eq (.eq (.eq (.eq (.eq (.eq (.eq (.eq (.eq (.eq (.eq (.eq (.eq (.eq (.eq (.eq (.eq (.eq (.eq (.eq (.eq (.eq (.eq (.eq (.eq (.eq (.eq (.eq (.eq (.eq (.eq (.eq (.eq (.eq (.eq (.eq (.eq (.eq (.eq (.eq (.eq (.eq (.eq (.eq (.eq (.eq (.eq (.eq (.eq (.eq (.eq (.nil))))))))))))))))))))))))))))))))))))))))))))))))))))))))))))))))))))) ?_ ?_
    · skip
      refine .o1 (ck rfl rfl rfl (fun _ w hn k => ⟨#[], rfl, fun _ => by kernel_rfl, first_c  _⟩) fun _ => rfl) ?_
      refine .o1 (tk rfl rfl fun _ w hn k => ⟨_, v_move rfl (k.eq1 0 44 rfl), rfl⟩) ?_
      refine .o1 (tg rfl rfl rfl (fun _ _ k => k.eq1 1 45 rfl) fun _ w hn k => ⟨_, v_move rfl (k.fx 8 hv229), rfl⟩) ?_
      refine .o1 (tg rfl rfl rfl (fun _ _ k => k.eq1 1 45 rfl) fun _ w hn k => ⟨_, v_not rfl (k.eq1 2 46 rfl), rfl⟩) ?_
      refine .o1 (tg rfl rfl rfl (fun _ _ k => k.eq1 1 45 rfl) fun _ w hn k => ⟨_, v_move rfl (k.eq1 3 47 rfl), rfl⟩) ?_
      refine .o1 (tg rfl rfl rfl (fun _ _ k => k.eq1 4 48 rfl) fun _ w hn k => ⟨_, v_field rfl (k.fx 6 h197) (fun w => rfl), rfl⟩) ?_
      refine .o1 (tg rfl rfl rfl (fun _ _ k => k.eq1 4 48 rfl) fun _ w hn k => ⟨_, v_load rfl (k.eq1 5 49 rfl) (l_one Tryd.isAgg3 ((hb224.new_ hn).cell 1)), rfl⟩) ?_
      refine .o1 (tg rfl rfl rfl (fun _ _ k => k.eq1 4 48 rfl) fun _ w hn k => ⟨_, v_load rfl (k.fx 7 h198) (l_two Tryd.isAgg23 Tryd.sizeOf23 (hb225.new_ hn)), rfl⟩) ?_
      refine .o1 (cg rfl rfl rfl (fun _ _ k => k.eq1 4 48 rfl) rfl (fun _ w hn k => ⟨#[nv ((mulM (Nm.mk 0 (i32M a)) (Nm.mk 0 (1 * 2 ^ s.toNat))).1)], args1 (k.eq1 7 51 rfl), fun _ => by kernel_rfl, i32_c ((mulM (Nm.mk 0 (i32M a)) (Nm.mk 0 (1 * 2 ^ s.toNat))).1) _⟩) fun _ => rfl) ?_
      refine .o1 (tg rfl rfl rfl (fun _ _ k => k.eq1 4 48 rfl) fun _ w hn k => ⟨_, v_bin rfl (k.eq1 6 50 rfl) (k.eq1 8 52 rfl) (fun _ => rfl) (r_eql ht230), rfl⟩) ?_
      refine .o1 (tg rfl rfl rfl (fun _ _ k => k.eq1 1 45 rfl) fun _ w hn k => ⟨_, v_pickF rfl (k.eq1 4 48 rfl) (k.eq1 9 53 rfl), rfl⟩) ?_
      refine .o1 (tk rfl rfl fun _ w hn k => ⟨_, v_pickT rfl (k.eq1 1 45 rfl) (k.eq1 10 54 rfl), rfl⟩) ?_
      refine .o1 (tk rfl rfl fun _ w hn k => ⟨_, v_move rfl (k.eq1 11 55 rfl), rfl⟩) ?_
      refine .o1 (tg rfl rfl rfl (fun _ _ k => k.eq1 12 56 rfl) fun _ w hn k => ⟨_, v_field rfl (k.fx 6 h197) (fun w => rfl), rfl⟩) ?_
      refine .o1 (tg rfl rfl rfl (fun _ _ k => k.eq1 12 56 rfl) fun _ w hn k => ⟨_, v_load rfl (k.eq1 13 57 rfl) (l_one Tryd.isAgg3 ((hb224.new_ hn).cell 0)), rfl⟩) ?_
      refine .o1 (tg rfl rfl rfl (fun _ _ k => k.eq1 12 56 rfl) fun _ w hn k => ⟨_, v_bin rfl (k.eq1 14 58 rfl) rfl (fun _ => rfl) (r_eql ht231), rfl⟩) ?_
      refine .o1 (tk rfl rfl fun _ w hn k => ⟨_, v_pickT rfl (k.eq1 12 56 rfl) (k.eq1 15 59 rfl), rfl⟩) ?_
      refine .o1 (tk rfl rfl fun _ w hn k => ⟨_, v_move rfl (k.eq1 16 60 rfl), rfl⟩) ?_
      refine .o1 (tg rfl rfl rfl (fun _ _ k => k.eq1 17 61 rfl) fun _ w hn k => ⟨_, v_field rfl (k.fx 9 h200) (fun w => rfl), rfl⟩) ?_
      refine .o1 (tg rfl rfl rfl (fun _ _ k => k.eq1 17 61 rfl) fun _ w hn k => ⟨_, v_load rfl (k.eq1 18 62 rfl) (l_one Tryd.isAgg3 ((hb226.new_ hn).cell 1)), rfl⟩) ?_
      refine .o1 (tg rfl rfl rfl (fun _ _ k => k.eq1 17 61 rfl) fun _ w hn k => ⟨_, v_move rfl (k.fx 1 h193), rfl⟩) ?_
      refine .o1 (tg rfl rfl rfl (fun _ _ k => k.eq1 17 61 rfl) fun _ w hn k => ⟨_, v_conv rfl (k.eq1 20 64 rfl) (run_conv (by kernel_rfl) (by kernel_rfl) (by kernel_rfl) (IntWalk.u64_in _ (by omega))), rfl⟩) ?_
      refine .o1 (tg rfl rfl rfl (fun _ _ k => k.eq1 17 61 rfl) fun _ w hn k => ⟨_, v_bin rfl rfl (k.eq1 21 65 rfl) (fun _ => rfl) (r_shlIU (by omega) (by omega)), rfl⟩) ?_
      refine .o1 (tg rfl rfl rfl (fun _ _ k => k.eq1 17 61 rfl) fun _ w hn k => ⟨_, v_bin rfl (k.eq1 19 63 rfl) (k.eq1 22 66 rfl) (fun _ => rfl) (r_mul rfl (by omega)), rfl⟩) ?_
      refine .o1 (tg rfl rfl rfl (fun _ _ k => k.eq1 17 61 rfl) fun _ w hn k => ⟨_, v_move rfl (k.fx 5 h196), rfl⟩) ?_
      refine .o1 (tg rfl rfl rfl (fun _ _ k => k.eq1 17 61 rfl) fun _ w hn k => ⟨_, v_bin rfl (k.eq1 23 67 rfl) (k.eq1 24 68 rfl) (fun _ => rfl) (r_leqK ht232), rfl⟩) ?_
      refine .o1 (tk rfl rfl fun _ w hn k => ⟨_, v_pickT rfl (k.eq1 17 61 rfl) (k.eq1 25 69 rfl), rfl⟩) ?_
      refine .o1 (tk rfl rfl fun _ w hn k => ⟨_, v_move rfl (k.eq1 26 70 rfl), rfl⟩) ?_
      refine .o1 (tg rfl rfl rfl (fun _ _ k => k.eq1 27 71 rfl) fun _ w hn k => ⟨_, v_move rfl (k.fx 5 h196), rfl⟩) ?_
      refine .o1 (tg rfl rfl rfl (fun _ _ k => k.eq1 27 71 rfl) fun _ w hn k => ⟨_, v_field rfl (k.fx 9 h200) (fun w => rfl), rfl⟩) ?_
      refine .o1 (tg rfl rfl rfl (fun _ _ k => k.eq1 27 71 rfl) fun _ w hn k => ⟨_, v_load rfl (k.eq1 29 73 rfl) (l_one Tryd.isAgg3 ((hb226.new_ hn).cell 1)), rfl⟩) ?_
      refine .o1 (tg rfl rfl rfl (fun _ _ k => k.eq1 27 71 rfl) fun _ w hn k => ⟨_, v_bin rfl (k.eq1 30 74 rfl) rfl (fun _ => rfl) (r_add rfl (by omega)), rfl⟩) ?_
      refine .o1 (tg rfl rfl rfl (fun _ _ k => k.eq1 27 71 rfl) fun _ w hn k => ⟨_, v_move rfl (k.fx 1 h193), rfl⟩) ?_
      refine .o1 (tg rfl rfl rfl (fun _ _ k => k.eq1 27 71 rfl) fun _ w hn k => ⟨_, v_conv rfl (k.eq1 32 76 rfl) (run_conv (by kernel_rfl) (by kernel_rfl) (by kernel_rfl) (IntWalk.u64_in _ (by omega))), rfl⟩) ?_
      refine .o1 (tg rfl rfl rfl (fun _ _ k => k.eq1 27 71 rfl) fun _ w hn k => ⟨_, v_bin rfl rfl (k.eq1 33 77 rfl) (fun _ => rfl) (r_shlIU (by omega) (by omega)), rfl⟩) ?_
      refine .o1 (tg rfl rfl rfl (fun _ _ k => k.eq1 27 71 rfl) fun _ w hn k => ⟨_, v_bin rfl (k.eq1 31 75 rfl) (k.eq1 34 78 rfl) (fun _ => rfl) (r_mul rfl (by omega)), rfl⟩) ?_
      refine .o1 (tg rfl rfl rfl (fun _ _ k => k.eq1 27 71 rfl) fun _ w hn k => ⟨_, v_bin rfl (k.eq1 28 72 rfl) (k.eq1 35 79 rfl) (fun _ => rfl) (r_lssK ht233), rfl⟩) ?_
      refine .o1 (tk rfl rfl fun _ w hn k => ⟨_, v_pickT rfl (k.eq1 27 71 rfl) (k.eq1 36 80 rfl), rfl⟩) ?_
      refine .o1 (tk rfl rfl fun _ w hn k => ⟨_, v_move rfl (k.eq1 37 81 rfl), rfl⟩) ?_
      refine .o1 (tg rfl rfl rfl (fun _ _ k => k.eq1 38 82 rfl) fun _ w hn k => ⟨_, v_field rfl (k.fx 10 h202) (fun w => rfl), rfl⟩) ?_
      refine .o1 (tg rfl rfl rfl (fun _ _ k => k.eq1 38 82 rfl) fun _ w hn k => ⟨_, v_load rfl (k.eq1 39 83 rfl) (l_one Tryd.isAgg3 ((hb218.new_ hn).cell 1)), rfl⟩) ?_
      refine .o1 (tg rfl rfl rfl (fun _ _ k => k.eq1 38 82 rfl) fun _ w hn k => ⟨_, v_load rfl (k.fx 2 h194) (l_two Tryd.isAgg23 Tryd.sizeOf23 (hb223.new_ hn)), rfl⟩) ?_
      refine .o1 (cg rfl rfl rfl (fun _ _ k => k.eq1 38 82 rfl) rfl (fun _ w hn k => ⟨#[nv a], args1 (k.eq1 41 85 rfl), fun _ => by kernel_rfl, u32_c a _⟩) fun _ => rfl) ?_
      refine .o1 (tg rfl rfl rfl (fun _ _ k => k.eq1 38 82 rfl) fun _ w hn k => ⟨_, v_move rfl (k.fx 1 h193), rfl⟩) ?_
      refine .o1 (tg rfl rfl rfl (fun _ _ k => k.eq1 38 82 rfl) fun _ w hn k => ⟨_, v_conv rfl (k.eq1 43 87 rfl) (run_conv (by kernel_rfl) (by kernel_rfl) (by kernel_rfl) (IntWalk.u64_in _ (by omega))), rfl⟩) ?_
      refine .o1 (tg rfl rfl rfl (fun _ _ k => k.eq1 38 82 rfl) fun _ w hn k => ⟨_, v_bin rfl rfl (k.eq1 44 88 rfl) (fun _ => rfl) (r_shlIU (by omega) (by omega)), rfl⟩) ?_
      refine .o1 (tg rfl rfl rfl (fun _ _ k => k.eq1 38 82 rfl) fun _ w hn k => ⟨_, v_bin rfl (k.eq1 42 86 rfl) (k.eq1 45 89 rfl) (fun _ => rfl) (r_quoI rfl (by omega) (by omega)), rfl⟩) ?_
      refine .o1 (tg rfl rfl rfl (fun _ _ k => k.eq1 38 82 rfl) fun _ w hn k => ⟨_, v_bin rfl (k.eq1 40 84 rfl) (k.eq1 46 90 rfl) (fun _ => rfl) (r_eql ht234), rfl⟩) ?_
      refine .o1 (tk rfl rfl fun _ w hn k => ⟨_, v_pickT rfl (k.eq1 38 82 rfl) (k.eq1 47 91 rfl), rfl⟩) ?_
      refine .o1 (tk rfl rfl fun _ w hn k => ⟨_, v_move rfl (k.eq1 48 92 rfl), rfl⟩) ?_
      refine .o1 (tg rfl rfl rfl (fun _ _ k => k.eq1 49 93 rfl) fun _ w hn k => ⟨_, v_load rfl (k.fx 2 h194) (l_two Tryd.isAgg23 Tryd.sizeOf23 (hb223.new_ hn)), rfl⟩) ?_
      refine .o1 (tg rfl rfl rfl (fun _ _ k => k.eq1 49 93 rfl) fun _ w hn k => ⟨_, v_move rfl (k.fx 1 h193), rfl⟩) ?_
      refine .o1 (tg rfl rfl rfl (fun _ _ k => k.eq1 49 93 rfl) fun _ w hn k => ⟨_, v_bin rfl (k.eq1 51 95 rfl) rfl (fun _ => rfl) (r_add rfl (by omega)), rfl⟩) ?_
      refine .o1 (cg rfl rfl rfl (fun _ _ k => k.eq1 49 93 rfl) rfl (fun _ w hn k => ⟨#[iv (s + 32)], args1 (k.eq1 52 96 rfl), fun _ => by kernel_rfl, w_c (s + 32) _⟩) fun _ => rfl) ?_
      refine .o1 (cg rfl rfl rfl (fun _ _ k => k.eq1 49 93 rfl) rfl (fun _ w hn k => ⟨#[iv 4, nv a, nv (Nm.mk 0 (s + 32))], args3 rfl (k.eq1 50 94 rfl) (k.eq1 53 97 rfl), fun _ => by kernel_rfl, bit_c 4 a (Nm.mk 0 (s + 32)) _⟩) fun _ => rfl) ?_
      refine .o1 (tg rfl rfl rfl (fun _ _ k => k.eq1 49 93 rfl) fun _ w hn k => ⟨_, v_load rfl (k.fx 6 h197) (l_two Tryd.isAgg23 Tryd.sizeOf23 (hb224.new_ hn)), rfl⟩) ?_
      refine .o1 (cg rfl rfl rfl (fun _ _ k => k.eq1 49 93 rfl) rfl (fun _ w hn k => ⟨#[nv (bitM 4 a (Nm.mk 0 (s + 32))), nv (bitM 4 a (Nm.mk 0 s))], args2 (k.eq1 54 98 rfl) (k.eq1 55 99 rfl), fun _ => by kernel_rfl, same_c (bitM 4 a (Nm.mk 0 (s + 32))) (bitM 4 a (Nm.mk 0 s)) _⟩) fun _ => congrArg Value.bool ht235) ?_
      refine .o1 (tk rfl rfl fun _ w hn k => ⟨_, v_pickT rfl (k.eq1 49 93 rfl) (k.eq1 56 100 rfl), rfl⟩) ?_
      refine .o1 (tk rfl rfl fun _ w hn k => ⟨_, v_move rfl (k.eq1 57 101 rfl), rfl⟩) ?_
      refine .o1 (tg rfl rfl rfl (fun _ _ k => k.eq1 58 102 rfl) fun _ w hn k => ⟨_, v_load rfl (k.fx 2 h194) (l_two Tryd.isAgg23 Tryd.sizeOf23 (hb223.new_ hn)), rfl⟩) ?_
      refine .o1 (tg rfl rfl rfl (fun _ _ k => k.eq1 58 102 rfl) fun _ w hn k => ⟨_, v_move rfl (k.fx 1 h193), rfl⟩) ?_
      refine .o1 (tg rfl rfl rfl (fun _ _ k => k.eq1 58 102 rfl) fun _ w hn k => ⟨_, v_bin rfl (k.eq1 60 104 rfl) rfl (fun _ => rfl) (r_add rfl (by omega)), rfl⟩) ?_
      refine .o1 (cg rfl rfl rfl (fun _ _ k => k.eq1 58 102 rfl) rfl (fun _ w hn k => ⟨#[iv (s + 32)], args1 (k.eq1 61 105 rfl), fun _ => by kernel_rfl, w_c (s + 32) _⟩) fun _ => rfl) ?_
      refine .o1 (cg rfl rfl rfl (fun _ _ k => k.eq1 58 102 rfl) rfl (fun _ w hn k => ⟨#[iv 5, nv a, nv (Nm.mk 0 (s + 32))], args3 rfl (k.eq1 59 103 rfl) (k.eq1 62 106 rfl), fun _ => by kernel_rfl, bit_c 5 a (Nm.mk 0 (s + 32)) _⟩) fun _ => rfl) ?_
      refine .o1 (tg rfl rfl rfl (fun _ _ k => k.eq1 58 102 rfl) fun _ w hn k => ⟨_, v_load rfl (k.fx 9 h200) (l_two Tryd.isAgg23 Tryd.sizeOf23 (hb226.new_ hn)), rfl⟩) ?_
      refine .o1 (cg rfl rfl rfl (fun _ _ k => k.eq1 58 102 rfl) rfl (fun _ w hn k => ⟨#[nv (bitM 5 a (Nm.mk 0 (s + 32))), nv (bitM 5 a (Nm.mk 0 s))], args2 (k.eq1 63 107 rfl) (k.eq1 64 108 rfl), fun _ => by kernel_rfl, same_c (bitM 5 a (Nm.mk 0 (s + 32))) (bitM 5 a (Nm.mk 0 s)) _⟩) fun _ => rfl) ?_
      refine .o1 (tk rfl rfl fun _ w hn k => ⟨_, v_pickT rfl (k.eq1 58 102 rfl) (k.eq1 65 109 rfl), rfl⟩) ?_
      refine .o1 (tk rfl rfl fun _ w hn k => ⟨_, v_assign rfl (k.eq1 66 110 rfl), rfl⟩) ?_
      exact .nil
    intro a236 w237 hn238 ha239
    have hs240 := ha239.size.trans hs191
    have hd241 := ha239.defers.trans hd192
    have h242 := ha239.ge 67 4 rfl
    have hN243 := hN227.transNew hn238
    clear hs191 hd192 h193 h194 h195 h196 h197 h198 hv229 h200 h202 hb223 hq13 hb224 hq93 hb225 hq125 hb226 hq174 hb218 hq214 hN227 ha239 hn238
    have hi32_mulMNmmk0i32MaNmmk012stoNat1 : -2147483648 ≤ i32M ((mulM (Nm.mk 0 (i32M a)) (Nm.mk 0 (1 * 2 ^ s.toNat))).1) ∧ i32M ((mulM (Nm.mk 0 (i32M a)) (Nm.mk 0 (1 * 2 ^ s.toNat))).1) ≤ 2147483647 := i32_bd _
    have hu32_a := u32_bd a
    refine st_nil ?_
    refine hK _ _ ?_
    clear hK K
    refine wp_ret (ret_k hd241 (v := .bool (sameM (bitM 5 a (Nm.mk 0 (s + 32))) (bitM 5 a (Nm.mk 0 s)))) (res_t rfl h242 _) ?_)
    exact ⟨congrArg (fun b => Ending.returned (.bool b)) ((by rw [(bit_32 a (of_decide_eq_false ht27) (of_decide_eq_true ht51)).2]; exact sameM_refl _)), hN243⟩
  have ht51d := of_decide_eq_false ht51
  refine wp_g0 [true, true, true, true, true, true] [] 111
    [ve (iv s),
     ve (.bool false),
     ve (.bool false),
     ve (iv s),
     ve (.bool true),
     ve (.bool true)] hs19 (.eq (.eq (.eq (.eq (.eq (.eq (.nil))))))) ?_ ?_
  · skip
    refine .o1 (tk rfl rfl fun _ w hn k => ⟨_, v_move rfl (k.fx 1 h21), rfl⟩) ?_
    refine .o1 (tk rfl rfl fun _ w hn k => ⟨_, v_bin rfl (k.eq1 0 13 rfl) rfl (fun _ => rfl) (r_lssK ht27), rfl⟩) ?_
    refine .o1 (tk rfl rfl fun _ w hn k => ⟨_, v_move rfl (k.eq1 1 14 rfl), rfl⟩) ?_
    refine .o1 (tg rfl rfl rfl (fun _ _ k => k.eq1 2 15 rfl) fun _ w hn k => ⟨_, v_move rfl (k.fx 1 h21), rfl⟩) ?_
    refine .o1 (tg rfl rfl rfl (fun _ _ k => k.eq1 2 15 rfl) fun _ w hn k => ⟨_, v_bin rfl (k.eq1 3 16 rfl) rfl (fun _ => rfl) (r_gtrK ht51), rfl⟩) ?_
    refine .o1 (tk rfl rfl fun _ w hn k => ⟨_, v_pickF rfl (k.eq1 2 15 rfl) (k.eq1 4 17 rfl), rfl⟩) ?_
    exact .nil
  intro a244 w245 hn246 ha247
  have hs248 := ha247.size.trans hs19
  have hd249 := ha247.defers.trans hd20
  have h250 := ha247.fx 1 h21
  have h251 := ha247.fx 2 h22
  have h252 := ha247.fx 4 h23
  have h253 := ha247.ge 5 18 rfl
  have hb254 := hb25.new_ hn246
  have hN255 := hN26.transNew hn246
  clear hs19 hd20 h21 h22 h23 h24 hb25 hN26 ha247 hn246
  refine st_nil ?_
  refine hK _ _ ?_
  clear hK K
  refine wp_cond_true h253 ?_
  refine wp_seq_k fun K hK => ?_
  refine wp_g0 [true, true] [] 111
    [ve (.bool true),
     ve (.bool true)] hs248 (.eq (.eq (.nil))) ?_ ?_
  · skip
    refine .o1 (ck rfl rfl rfl (fun _ w hn k => ⟨#[], rfl, fun _ => by kernel_rfl, first_c  _⟩) fun _ => rfl) ?_
    refine .o1 (tk rfl rfl fun _ w hn k => ⟨_, v_assign rfl (k.eq1 0 19 rfl), rfl⟩) ?_
    exact .nil
  intro a256 w257 hn258 ha259
  have hs260 := ha259.size.trans hs248
  have hd261 := ha259.defers.trans hd249
  have h262 := ha259.fx 1 h250
  have h263 := ha259.fx 2 h251
  have h264 := ha259.ge 1 4 rfl
  have hb265 := hb254.new_ hn258
  have hN266 := hN255.transNew hn258
  clear hs248 hd249 h250 h251 h252 h253 hb254 hN255 ha259 hn258
  refine st_nil ?_
  refine hK _ _ ?_
  clear hK K
  refine wp_ret (ret_k hd261 (v := .bool true) (res_t rfl h264 _) ?_)
  exact ⟨rfl, hN266⟩
end Go.Proofs.YtldakajmhfdfgaaDoor
