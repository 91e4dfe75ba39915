/- NumWords: the walk -/
import Derived.Test.YtldakajmhfdfgaaDoorNumF
import Derived.Test.YtldakajmhfdfgaaDoorNumR2
import Derived.Test.YtldakajmhfdfgaaDoorNumMath9
namespace Go.Proofs.YtldakajmhfdfgaaDoor
open Go.RowKit
set_option linter.unusedSimpArgs false
set_option linter.unusedVariables false
set_option maxHeartbeats 8000000 in
set_option maxRecDepth 100000 in
theorem words_walk (a : Nm) (b : Nm) (w : World) : Calls Tryd.prog 4 #[nv a, nv b] w (IsRet (.bool true) w) := by
  refine enter_abs Tryd.func4 rfl fun a0 hs0 hd0 hp => ?_
  have hs0 : a0.tmps.size = 107 := hs0
  have hN0 : New w w := Upd.refl _ _
  have hp0 : a0.eval (.tmp 0) = nv a := hp 0 _ rfl
  have hp1 : a0.eval (.tmp 1) = nv b := hp 1 _ rfl
  clear hp
  refine wp_seq_k fun K hK => ?_
  refine wp_g [true, true, true] [] [] 107
    [IsNew w 23 [iv a.k, iv a.n],
     IsNew w 23 [iv b.k, iv b.n],
     ve (.bool false)]
    [0, 1] (newsCons (fun v w h => IsNew.old h) (newsCons (fun v w h => IsNew.old h) newsNil)) hs0 (.nw (.nw (.eq (.nil)))) ?_ (fun i h => by cases h) ?_
  · skip
    refine .o2 (step_allocN (cs := [iv a.k, iv a.n]) (t := 23) rfl (noG rfl) (fun _ w hn k => v_box rfl (k.fx 0 hp0) (fun w => rfl)) (fun q _ hq hb => ⟨q, rfl, hq, hb⟩)) ?_
    refine .o2 (step_allocN (cs := [iv b.k, iv b.n]) (t := 23) rfl (noG rfl) (fun _ w hn k => v_box rfl (k.fx 1 hp1) (fun w => rfl)) (fun q _ hq hb => ⟨q, rfl, hq, hb⟩)) ?_
    refine .o1 (tk rfl rfl fun _ w hn k => ⟨_, v_assign rfl rfl, rfl⟩) ?_
    exact .nil
  intro a1 w2 hn3 ha4
  have hs5 := ha4.size.trans hs0
  have hd6 := ha4.defers.trans hd0
  obtain ⟨q8, h7, hq9, hb10⟩ : IsNew _ _ _ _ _ := ha4.got 0 2 rfl (by kernel_rfl)
  obtain ⟨q12, h11, hq13, hb14⟩ : IsNew _ _ _ _ _ := ha4.got 1 3 rfl (by kernel_rfl)
  have h15 := ha4.ge 2 4 rfl
  have hq16 := Nat.le_trans hN0.size hq9
  have hq17 := Nat.le_trans hN0.size hq13
  have hN18 := hN0.transNew hn3
  clear hs0 hd0 hp0 hp1 hq9 hq13 hN0 ha4 hn3
  refine st_nil ?_
  refine hK _ _ ?_
  clear hK K
  refine wp_seq_k fun K hK => ?_
  refine wp_seq_k fun K hK => ?_
  refine wp_g0 [true, true] [] 107
    [ve (.bool true),
     ve (.bool false)] hs5 (.eq (.eq (.nil))) ?_ ?_
  · skip
    refine .o1 (ck rfl rfl rfl (fun _ w hn k => ⟨#[], rfl, fun _ => by kernel_rfl, first_c  _⟩) fun _ => rfl) ?_
    refine .o1 (tk rfl rfl fun _ w hn k => ⟨_, v_not rfl (k.eq1 0 14 rfl), rfl⟩) ?_
    exact .nil
  intro a19 w20 hn21 ha22
  have hs23 := ha22.size.trans hs5
  have hd24 := ha22.defers.trans hd6
  have h25 := ha22.fx 2 h7
  have h26 := ha22.fx 3 h11
  have h27 := ha22.fx 4 h15
  have h28 := ha22.ge 1 15 rfl
  have hb29 := hb10.new_ hn21
  have hb30 := hb14.new_ hn21
  have hN31 := hN18.transNew hn21
  clear hs5 hd6 h7 h11 h15 hb10 hb14 hN18 ha22 hn21
  refine st_nil ?_
  refine hK _ _ ?_
  clear hK K
  refine wp_cond_false h28 ?_
  refine wp_skip ?_
  refine hK _ _ ?_
  clear hK K
  refine wp_seq_k fun K hK => ?_
  refine wp_g0 [true, true, true, true, true, true] [] 107
    [ve (nv a),
     ve (iv (i32M a)),
     ve (nv a),
     ve (iv (u32M a)),
     ve (iv (i32M a)),
     ve (iv (u32M a))] hs23 (.eq (.eq (.eq (.eq (.eq (.eq (.nil))))))) ?_ ?_
  · skip
    refine .o1 (tk rfl rfl fun _ w hn k => ⟨_, v_load rfl (k.fx 2 h25) (l_two Tryd.isAgg23 Tryd.sizeOf23 (hb29.new_ hn)), rfl⟩) ?_
    refine .o1 (ck rfl rfl rfl (fun _ w hn k => ⟨#[nv a], args1 (k.eq1 0 16 rfl), fun _ => by kernel_rfl, i32_c a _⟩) fun _ => rfl) ?_
    refine .o1 (tk rfl rfl fun _ w hn k => ⟨_, v_load rfl (k.fx 2 h25) (l_two Tryd.isAgg23 Tryd.sizeOf23 (hb29.new_ hn)), rfl⟩) ?_
    refine .o1 (ck rfl rfl rfl (fun _ w hn k => ⟨#[nv a], args1 (k.eq1 2 18 rfl), fun _ => by kernel_rfl, u32_c a _⟩) fun _ => rfl) ?_
    refine .o1 (tk rfl rfl fun _ w hn k => ⟨_, v_assign rfl (k.eq1 1 17 rfl), rfl⟩) ?_
    refine .o1 (tk rfl rfl fun _ w hn k => ⟨_, v_assign rfl (k.eq1 3 19 rfl), rfl⟩) ?_
    exact .nil
  intro a32 w33 hn34 ha35
  have hs36 := ha35.size.trans hs23
  have hd37 := ha35.defers.trans hd24
  have h38 := ha35.fx 2 h25
  have h39 := ha35.fx 3 h26
  have h40 := ha35.fx 4 h27
  have h41 := ha35.ge 4 5 rfl
  have h42 := ha35.ge 5 6 rfl
  have hb43 := hb29.new_ hn34
  have hb44 := hb30.new_ hn34
  have hN45 := hN31.transNew hn34
  clear hs23 hd24 h25 h26 h27 h28 hb29 hb30 hN31 ha35 hn34
  have hi32_a : -2147483648 ≤ i32M a ∧ i32M a ≤ 2147483647 := i32_bd _
  have hu32_a := u32_bd a
  refine st_nil ?_
  refine hK _ _ ?_
  clear hK K
  refine wp_seq_k fun K hK => ?_
  refine wp_seq_k fun K hK => ?_
  have ht46 : (decide ((u32M a) < 0)) = false := (u32M_bd a).1
  have ht46d := of_decide_eq_false ht46
  have ht47 : (decide ((u32M a) < 4294967296)) = true := (u32M_bd a).2
  have ht47d := of_decide_eq_true ht47
  have ht48 : (decide ((((u32M a) - (i32M a)).tmod 4294967296) = 0)) = true := i32_diff a
  have ht48d := of_decide_eq_true ht48
  have ht49 : (decide ((i32M a) < -2147483648)) = false := (i32M_bd a).1
  have ht49d := of_decide_eq_false ht49
  have ht50 : (decide ((i32M a) < 2147483648)) = true := (i32M_bd a).2
  have ht50d := of_decide_eq_true ht50
  refine wp_g0 [true, true, true, true, true, true, true, true, true, true, true, true, true, true, true, true, true, true, true, true, true] [] 107
    [ve (iv (u32M a)),
     ve (.bool false),
     ve (.bool false),
     ve (iv (u32M a)),
     ve (.bool false),
     ve (.bool false),
     ve (.bool false),
     ve (iv (u32M a)),
     ve (iv (i32M a)),
     ve (iv ((u32M a) - (i32M a))),
     ve (iv (((u32M a) - (i32M a)).tmod 4294967296)),
     ve (.bool false),
     ve (.bool false),
     ve (.bool false),
     ve (iv (i32M a)),
     ve (.bool false),
     ve (.bool false),
     ve (.bool false),
     ve (iv (i32M a)),
     ve (.bool false),
     ve (.bool false)] hs36 (.eq (.eq (.eq (.eq (.eq (.eq (.eq (.eq (.eq (.eq (.eq (.eq (.eq (.eq (.eq (.eq (.eq (.eq (.eq (.eq (.eq (.nil)))))))))))))))))))))) ?_ ?_
  · skip
    refine .o1 (tk rfl rfl fun _ w hn k => ⟨_, v_move rfl (k.fx 6 h42), rfl⟩) ?_
    refine .o1 (tk rfl rfl fun _ w hn k => ⟨_, v_bin rfl (k.eq1 0 20 rfl) rfl (fun _ => rfl) (r_lssK ht46), rfl⟩) ?_
    refine .o1 (tk rfl rfl fun _ w hn k => ⟨_, v_move rfl (k.eq1 1 21 rfl), rfl⟩) ?_
    refine .o1 (tg rfl rfl rfl (fun _ _ k => k.eq1 2 22 rfl) fun _ w hn k => ⟨_, v_move rfl (k.fx 6 h42), rfl⟩) ?_
    refine .o1 (tg rfl rfl rfl (fun _ _ k => k.eq1 2 22 rfl) fun _ w hn k => ⟨_, v_bin rfl (k.eq1 3 23 rfl) rfl (fun _ => rfl) (r_geqK ht47), rfl⟩) ?_
    refine .o1 (tk rfl rfl fun _ w hn k => ⟨_, v_pickF rfl (k.eq1 2 22 rfl) (k.eq1 4 24 rfl), rfl⟩) ?_
    refine .o1 (tk rfl rfl fun _ w hn k => ⟨_, v_move rfl (k.eq1 5 25 rfl), rfl⟩) ?_
    refine .o1 (tg rfl rfl rfl (fun _ _ k => k.eq1 6 26 rfl) fun _ w hn k => ⟨_, v_move rfl (k.fx 6 h42), rfl⟩) ?_
    refine .o1 (tg rfl rfl rfl (fun _ _ k => k.eq1 6 26 rfl) fun _ w hn k => ⟨_, v_move rfl (k.fx 5 h41), rfl⟩) ?_
    refine .o1 (tg rfl rfl rfl (fun _ _ k => k.eq1 6 26 rfl) fun _ w hn k => ⟨_, v_bin rfl (k.eq1 7 27 rfl) (k.eq1 8 28 rfl) (fun _ => rfl) (r_sub rfl (by omega)), rfl⟩) ?_
    refine .o1 (tg rfl rfl rfl (fun _ _ k => k.eq1 6 26 rfl) fun _ w hn k => ⟨_, v_bin rfl (k.eq1 9 29 rfl) rfl (fun _ => rfl) (r_remI rfl (by omega)), rfl⟩) ?_
    refine .o1 (tg rfl rfl rfl (fun _ _ k => k.eq1 6 26 rfl) fun _ w hn k => ⟨_, v_bin rfl (k.eq1 10 30 rfl) rfl (fun _ => rfl) (r_neq ht48), rfl⟩) ?_
    refine .o1 (tk rfl rfl fun _ w hn k => ⟨_, v_pickF rfl (k.eq1 6 26 rfl) (k.eq1 11 31 rfl), rfl⟩) ?_
    refine .o1 (tk rfl rfl fun _ w hn k => ⟨_, v_move rfl (k.eq1 12 32 rfl), rfl⟩) ?_
    refine .o1 (tg rfl rfl rfl (fun _ _ k => k.eq1 13 33 rfl) fun _ w hn k => ⟨_, v_move rfl (k.fx 5 h41), rfl⟩) ?_
    refine .o1 (tg rfl rfl rfl (fun _ _ k => k.eq1 13 33 rfl) fun _ w hn k => ⟨_, v_bin rfl (k.eq1 14 34 rfl) rfl (fun _ => rfl) (r_lssK ht49), rfl⟩) ?_
    refine .o1 (tk rfl rfl fun _ w hn k => ⟨_, v_pickF rfl (k.eq1 13 33 rfl) (k.eq1 15 35 rfl), rfl⟩) ?_
    refine .o1 (tk rfl rfl fun _ w hn k => ⟨_, v_move rfl (k.eq1 16 36 rfl), rfl⟩) ?_
    refine .o1 (tg rfl rfl rfl (fun _ _ k => k.eq1 17 37 rfl) fun _ w hn k => ⟨_, v_move rfl (k.fx 5 h41), rfl⟩) ?_
    refine .o1 (tg rfl rfl rfl (fun _ _ k => k.eq1 17 37 rfl) fun _ w hn k => ⟨_, v_bin rfl (k.eq1 18 38 rfl) rfl (fun _ => rfl) (r_geqK ht50), rfl⟩) ?_
    refine .o1 (tk rfl rfl fun _ w hn k => ⟨_, v_pickF rfl (k.eq1 17 37 rfl) (k.eq1 19 39 rfl), rfl⟩) ?_
    exact .nil
  intro a51 w52 hn53 ha54
  have hs55 := ha54.size.trans hs36
  have hd56 := ha54.defers.trans hd37
  have h57 := ha54.fx 2 h38
  have h58 := ha54.fx 3 h39
  have h59 := ha54.fx 4 h40
  have h60 := ha54.fx 5 h41
  have h61 := ha54.fx 6 h42
  have h62 := ha54.ge 20 40 rfl
  have hb63 := hb43.new_ hn53
  have hb64 := hb44.new_ hn53
  have hN65 := hN45.transNew hn53
  clear hs36 hd37 h38 h39 h40 h41 h42 hb43 hb44 hN45 ha54 hn53
  refine st_nil ?_
  refine hK _ _ ?_
  clear hK K
  refine wp_cond_false h62 ?_
  refine wp_skip ?_
  refine hK _ _ ?_
  clear hK K
  refine wp_seq_k fun K hK => ?_
  refine wp_g [true, true, true, true, true, true, false] [] [(6, false)] 107
    [ve (nv a),
     ve (nv b),
     ve (nv (bitM 3 a b)),
     ve (nv b),
     ve (nv (bitM 3 (bitM 3 a b) b)),
     IsNew w52 23 [iv 0, iv 0],
     vt]
    [5] (newsCons (fun v w h => IsNew.old h) newsNil) hs55 (.eq (.eq (.eq (.eq (.eq (.nw (.tt (.nil)))))))) ?_ (fun i h => by cases h) ?_
  · skip
    refine .o1 (tk rfl rfl fun _ w hn k => ⟨_, v_load rfl (k.fx 2 h57) (l_two Tryd.isAgg23 Tryd.sizeOf23 (hb63.new_ hn)), rfl⟩) ?_
    refine .o1 (tk rfl rfl fun _ w hn k => ⟨_, v_load rfl (k.fx 3 h58) (l_two Tryd.isAgg23 Tryd.sizeOf23 (hb64.new_ hn)), rfl⟩) ?_
    refine .o1 (ck rfl rfl rfl (fun _ w hn k => ⟨#[iv 3, nv a, nv b], args3 rfl (k.eq1 0 41 rfl) (k.eq1 1 42 rfl), fun _ => by kernel_rfl, bit_c 3 a b _⟩) fun _ => rfl) ?_
    refine .o1 (tk rfl rfl fun _ w hn k => ⟨_, v_load rfl (k.fx 3 h58) (l_two Tryd.isAgg23 Tryd.sizeOf23 (hb64.new_ hn)), rfl⟩) ?_
    refine .o1 (ck rfl rfl rfl (fun _ w hn k => ⟨#[iv 3, nv (bitM 3 a b), nv b], args3 rfl (k.eq1 2 43 rfl) (k.eq1 3 44 rfl), fun _ => by kernel_rfl, bit_c 3 (bitM 3 a b) b _⟩) fun _ => rfl) ?_
    refine .o2 (step_allocN (cs := [iv 0, iv 0]) (t := 23) rfl (noG rfl) (fun _ w hn k => rfl) (fun q _ hq hb => ⟨q, rfl, hq, hb⟩)) ?_
    refine .off ?_
    exact .nil
  intro a66 w67 hn68 ha69
  have hs70 := ha69.size.trans hs55
  have hd71 := ha69.defers.trans hd56
  have h72 := ha69.fx 2 h57
  have h73 := ha69.fx 3 h58
  have h74 := ha69.fx 4 h59
  have h75 := ha69.fx 5 h60
  have h76 := ha69.fx 6 h61
  have h77 := ha69.ge 4 45 rfl
  obtain ⟨q79, h78, hq80, hb81⟩ : IsNew _ _ _ _ _ := ha69.got 5 7 rfl (by kernel_rfl)
  have hb82 := hb63.new_ hn68
  have hb83 := hb64.new_ hn68
  have hne84 : q8 ≠ q79 := by have h1 := hb63.lt; have h2 := hq80; omega
  have hne85 : q12 ≠ q79 := by have h1 := hb64.lt; have h2 := hq80; omega
  have hq86 := Nat.le_trans hN65.size hq80
  have hN87 := hN65.transNew hn68
  clear hs55 hd56 h57 h58 h59 h60 h61 h62 hb63 hb64 hq80 hN65 ha69 hn68
  obtain ⟨w88, -, hst89, hb90, hu91, hf92⟩ := s_two (v0 := iv ((bitM 3 (bitM 3 a b) b).k)) (v1 := iv ((bitM 3 (bitM 3 a b) b).n)) Tryd.sizeOf23 rfl rfl rfl hb81
  refine st_act rfl rfl fun K93 hL94 => a_store' rfl h78 h77 hst89 (hL94 _ _ trivial ?_)
  have hb95 := hf92 _ _ _ (hne84) hb82
  have hb96 := hf92 _ _ _ (hne85) hb83
  have hN97 := hN87.trans hu91 (fun k hk hkb => by subst hkb; omega)
  clear hb81 hst89 K93 hL94 hN87 hb82 hb83 hu91 hf92
  clear hne84
  clear hne85
  refine st_nil ?_
  clear h77
  refine hK _ _ ?_
  clear hK K
  refine wp_seq_k fun K hK => ?_
  refine wp_g [true, true, true, true, true, true, true, true, false, false] [] [(8, false), (9, false)] 107
    [ve (nv a),
     ve (nv b),
     ve (nv (bitM 1 a b)),
     ve (nv a),
     ve (nv b),
     ve (nv (bitM 2 a b)),
     IsNew w88 23 [iv 0, iv 0],
     IsNew w88 23 [iv 0, iv 0],
     vt,
     vt]
    [6, 7] (newsCons (fun v w h => IsNew.old h) (newsCons (fun v w h => IsNew.old h) newsNil)) hs70 (.eq (.eq (.eq (.eq (.eq (.eq (.nw (.nw (.tt (.tt (.nil))))))))))) ?_ (fun i h => by cases h) ?_
  · skip
    refine .o1 (tk rfl rfl fun _ w hn k => ⟨_, v_load rfl (k.fx 2 h72) (l_two Tryd.isAgg23 Tryd.sizeOf23 (hb95.new_ hn)), rfl⟩) ?_
    refine .o1 (tk rfl rfl fun _ w hn k => ⟨_, v_load rfl (k.fx 3 h73) (l_two Tryd.isAgg23 Tryd.sizeOf23 (hb96.new_ hn)), rfl⟩) ?_
    refine .o1 (ck rfl rfl rfl (fun _ w hn k => ⟨#[iv 1, nv a, nv b], args3 rfl (k.eq1 0 46 rfl) (k.eq1 1 47 rfl), fun _ => by kernel_rfl, bit_c 1 a b _⟩) fun _ => rfl) ?_
    refine .o1 (tk rfl rfl fun _ w hn k => ⟨_, v_load rfl (k.fx 2 h72) (l_two Tryd.isAgg23 Tryd.sizeOf23 (hb95.new_ hn)), rfl⟩) ?_
    refine .o1 (tk rfl rfl fun _ w hn k => ⟨_, v_load rfl (k.fx 3 h73) (l_two Tryd.isAgg23 Tryd.sizeOf23 (hb96.new_ hn)), rfl⟩) ?_
    refine .o1 (ck rfl rfl rfl (fun _ w hn k => ⟨#[iv 2, nv a, nv b], args3 rfl (k.eq1 3 49 rfl) (k.eq1 4 50 rfl), fun _ => by kernel_rfl, bit_c 2 a b _⟩) fun _ => rfl) ?_
    refine .o2 (step_allocN (cs := [iv 0, iv 0]) (t := 23) rfl (noG rfl) (fun _ w hn k => rfl) (fun q _ hq hb => ⟨q, rfl, hq, hb⟩)) ?_
    refine .o2 (step_allocN (cs := [iv 0, iv 0]) (t := 23) rfl (noG rfl) (fun _ w hn k => rfl) (fun q _ hq hb => ⟨q, rfl, hq, hb⟩)) ?_
    refine .off ?_
    refine .off ?_
    exact .nil
  intro a98 w99 hn100 ha101
  have hs102 := ha101.size.trans hs70
  have hd103 := ha101.defers.trans hd71
  have h104 := ha101.fx 2 h72
  have h105 := ha101.fx 3 h73
  have h106 := ha101.fx 4 h74
  have h107 := ha101.fx 5 h75
  have h108 := ha101.fx 6 h76
  have h109 := ha101.fx 7 h78
  have h110 := ha101.ge 2 48 rfl
  have h111 := ha101.ge 5 51 rfl
  obtain ⟨q113, h112, hq114, hb115⟩ : IsNew _ _ _ _ _ := ha101.got 6 8 rfl (by kernel_rfl)
  obtain ⟨q117, h116, hq118, hb119⟩ : IsNew _ _ _ _ _ := ha101.got 7 9 rfl (by kernel_rfl)
  have hb120 := hb95.new_ hn100
  have hb121 := hb96.new_ hn100
  have hb122 := hb90.new_ hn100
  have hne123 : q113 ≠ q117 := ha101.ne 6 7 8 9 h112 h116
  have hne124 : q8 ≠ q113 := by have h1 := hb95.lt; have h2 := hq114; omega
  have hne125 : q8 ≠ q117 := by have h1 := hb95.lt; have h2 := hq118; omega
  have hne126 : q12 ≠ q113 := by have h1 := hb96.lt; have h2 := hq114; omega
  have hne127 : q12 ≠ q117 := by have h1 := hb96.lt; have h2 := hq118; omega
  have hne128 : q79 ≠ q113 := by have h1 := hb90.lt; have h2 := hq114; omega
  have hne129 : q79 ≠ q117 := by have h1 := hb90.lt; have h2 := hq118; omega
  have hq130 := Nat.le_trans hN97.size hq114
  have hq131 := Nat.le_trans hN97.size hq118
  have hN132 := hN97.transNew hn100
  clear hs70 hd71 h72 h73 h74 h75 h76 h78 hb95 hb96 hb90 hq114 hq118 hN97 ha101 hn100
  obtain ⟨w133, -, hst134, hb135, hu136, hf137⟩ := s_two (v0 := iv ((bitM 1 a b).k)) (v1 := iv ((bitM 1 a b).n)) Tryd.sizeOf23 rfl rfl rfl hb115
  refine st_act rfl rfl fun K138 hL139 => a_store' rfl h112 h110 hst134 (hL139 _ _ trivial ?_)
  have hb140 := hf137 _ _ _ (hne124) hb120
  have hb141 := hf137 _ _ _ (hne126) hb121
  have hb142 := hf137 _ _ _ (hne128) hb122
  have hb143 := hf137 _ _ _ (fun h => hne123 h.symm) hb119
  have hN144 := hN132.trans hu136 (fun k hk hkb => by subst hkb; omega)
  clear hb115 hst134 K138 hL139 hN132 hb120 hb121 hb122 hb119 hu136 hf137
  obtain ⟨w145, -, hst146, hb147, hu148, hf149⟩ := s_two (v0 := iv ((bitM 2 a b).k)) (v1 := iv ((bitM 2 a b).n)) Tryd.sizeOf23 rfl rfl rfl hb143
  refine st_act rfl rfl fun K150 hL151 => a_store' rfl h116 h111 hst146 (hL151 _ _ trivial ?_)
  have hb152 := hf149 _ _ _ (hne125) hb140
  have hb153 := hf149 _ _ _ (hne127) hb141
  have hb154 := hf149 _ _ _ (hne129) hb142
  have hb155 := hf149 _ _ _ (hne123) hb135
  have hN156 := hN144.trans hu148 (fun k hk hkb => by subst hkb; omega)
  clear hb143 hst146 K150 hL151 hN144 hb140 hb141 hb142 hb135 hu148 hf149
  clear hne123
  clear hne124
  clear hne125
  clear hne126
  clear hne127
  clear hne128
  clear hne129
  refine st_nil ?_
  clear h110 h111
  refine hK _ _ ?_
  clear hK K
  refine wp_seq_k fun K hK => ?_
  refine wp_g [true, true, true, true, true, true, true, false, false] [5] [(7, false), (8, true)] 107
    [ve (nv (bitM 1 a b)),
     ve (nv (bitM 2 a b)),
     ve (.tuple #[nv ((addM (bitM 1 a b) (bitM 2 a b)).1), .bool ((addM (bitM 1 a b) (bitM 2 a b)).2)]),
     ve (.tuple #[nv ((addM (bitM 1 a b) (bitM 2 a b)).1), .bool ((addM (bitM 1 a b) (bitM 2 a b)).2)]),
     ve (nv ((addM (bitM 1 a b) (bitM 2 a b)).1)),
     ve (.bool ((addM (bitM 1 a b) (bitM 2 a b)).2)),
     IsNew w145 23 [iv 0, iv 0],
     vt,
     vt]
    [6] (newsCons (fun v w h => IsNew.old h) newsNil) hs102 (.eq (.eq (.eq (.eq (.eq (.eq (.nw (.tt (.tt (.nil)))))))))) ?_ ?_ ?_
  · skip
    refine .o1 (tk rfl rfl fun _ w hn k => ⟨_, v_load rfl (k.fx 8 h112) (l_two Tryd.isAgg23 Tryd.sizeOf23 (hb155.new_ hn)), rfl⟩) ?_
    refine .o1 (tk rfl rfl fun _ w hn k => ⟨_, v_load rfl (k.fx 9 h116) (l_two Tryd.isAgg23 Tryd.sizeOf23 (hb147.new_ hn)), rfl⟩) ?_
    refine .o1 (ck rfl rfl rfl (fun _ w hn k => ⟨#[nv (bitM 1 a b), nv (bitM 2 a b)], args2 (k.eq1 0 53 rfl) (k.eq1 1 54 rfl), fun _ => by kernel_rfl, add_c (bitM 1 a b) (bitM 2 a b) _⟩) fun _ => rfl) ?_
    refine .o1 (tk rfl rfl fun _ w hn k => ⟨_, v_move rfl (k.eq1 2 55 rfl), rfl⟩) ?_
    refine .o1 (tk rfl rfl fun _ w hn k => ⟨_, v_extract rfl (k.eq1 3 52 rfl) rfl, rfl⟩) ?_
    refine .o3 ?_
    refine .o2 (step_allocN (cs := [iv 0, iv 0]) (t := 23) rfl (noG rfl) (fun _ w hn k => rfl) (fun q _ hq hb => ⟨q, rfl, hq, hb⟩)) ?_
    refine .off ?_
    refine .off ?_
    exact .nil
  · skip
    intro i h
    simp only [List.contains_eq_mem, List.mem_cons, List.not_mem_nil, or_false, decide_eq_true_eq] at h
    subst h
    · exact eager_take rfl rfl fun _ w hn k => ⟨.bool ((addM (bitM 1 a b) (bitM 2 a b)).2), fun w => v_extract rfl (k.eq1 3 52 rfl) rfl, rfl⟩
  intro a157 w158 hn159 ha160
  have hs161 := ha160.size.trans hs102
  have hd162 := ha160.defers.trans hd103
  have h163 := ha160.fx 2 h104
  have h164 := ha160.fx 3 h105
  have h165 := ha160.fx 4 h106
  have h166 := ha160.fx 5 h107
  have h167 := ha160.fx 6 h108
  have h168 := ha160.fx 7 h109
  have h169 := ha160.ge 4 56 rfl
  have h170 := ha160.ge 5 57 rfl
  obtain ⟨q172, h171, hq173, hb174⟩ : IsNew _ _ _ _ _ := ha160.got 6 10 rfl (by kernel_rfl)
  have hb175 := hb152.new_ hn159
  have hb176 := hb153.new_ hn159
  have hb177 := hb154.new_ hn159
  have hne178 : q8 ≠ q172 := by have h1 := hb152.lt; have h2 := hq173; omega
  have hne179 : q12 ≠ q172 := by have h1 := hb153.lt; have h2 := hq173; omega
  have hne180 : q79 ≠ q172 := by have h1 := hb154.lt; have h2 := hq173; omega
  have hq181 := Nat.le_trans hN156.size hq173
  have hN182 := hN156.transNew hn159
  clear hs102 hd103 h104 h105 h106 h107 h108 h109 h112 h116 hb152 hb153 hb154 hb155 hq130 hb147 hq131 hq173 hN156 ha160 hn159
  obtain ⟨w183, -, hst184, hb185, hu186, hf187⟩ := s_two (v0 := iv ((addM (bitM 1 a b) (bitM 2 a b)).1.k)) (v1 := iv ((addM (bitM 1 a b) (bitM 2 a b)).1.n)) Tryd.sizeOf23 rfl rfl rfl hb174
  refine st_act rfl rfl fun K188 hL189 => a_store' rfl h171 h169 hst184 (hL189 _ _ trivial ?_)
  have hb190 := hf187 _ _ _ (hne178) hb175
  have hb191 := hf187 _ _ _ (hne179) hb176
  have hb192 := hf187 _ _ _ (hne180) hb177
  have hN193 := hN182.trans hu186 (fun k hk hkb => by subst hkb; omega)
  clear hb174 hst184 K188 hL189 hN182 hb175 hb176 hb177 hu186 hf187
  refine st_take rfl rfl (y_assign (v := .bool ((addM (bitM 1 a b) (bitM 2 a b)).2)) rfl h170) rfl ?_
  obtain ⟨a194, ha195⟩ : ∃ a', a' = a157.put (some 11) (.bool ((addM (bitM 1 a b) (bitM 2 a b)).2)) := ⟨_, rfl⟩
  have hs196 : a194.tmps.size = 107 := by rw [ha195, put_size]; exact hs161
  have hd197 : a194.defers = [] := by rw [ha195, put_defers]; exact hd162
  have h198 : a194.eval (.tmp 2) = pv q8 := by rw [ha195, put_ne _ _ _ _ (by decide)]; exact h163
  have h199 : a194.eval (.tmp 3) = pv q12 := by rw [ha195, put_ne _ _ _ _ (by decide)]; exact h164
  have h200 : a194.eval (.tmp 4) = .bool false := by rw [ha195, put_ne _ _ _ _ (by decide)]; exact h165
  have h201 : a194.eval (.tmp 5) = iv (i32M a) := by rw [ha195, put_ne _ _ _ _ (by decide)]; exact h166
  have h202 : a194.eval (.tmp 6) = iv (u32M a) := by rw [ha195, put_ne _ _ _ _ (by decide)]; exact h167
  have h203 : a194.eval (.tmp 7) = pv q79 := by rw [ha195, put_ne _ _ _ _ (by decide)]; exact h168
  have h204 : a194.eval (.tmp 56) = nv ((addM (bitM 1 a b) (bitM 2 a b)).1) := by rw [ha195, put_ne _ _ _ _ (by decide)]; exact h169
  have h205 : a194.eval (.tmp 57) = .bool ((addM (bitM 1 a b) (bitM 2 a b)).2) := by rw [ha195, put_ne _ _ _ _ (by decide)]; exact h170
  have h206 : a194.eval (.tmp 10) = pv q172 := by rw [ha195, put_ne _ _ _ _ (by decide)]; exact h171
  have h207 : a194.eval (.tmp 11) = .bool ((addM (bitM 1 a b) (bitM 2 a b)).2) := by rw [ha195]; exact put_same _ _ _ (by rw [hs161]; decide)
  show stepsTo _ _ _ _ _ (a157.put (some 11) (.bool ((addM (bitM 1 a b) (bitM 2 a b)).2))) _
  rw [← ha195]
  clear ha195 hs161 hd162 h163 h164 h165 h166 h167 h168 h169 h170 h171
  clear hne178
  clear hne179
  clear hne180
  refine st_nil ?_
  clear h204 h205
  refine hK _ _ ?_
  clear hK K
  refine wp_seq_k fun K hK => ?_
  refine wp_g [true, true, true, true, true, true, true, true, true, true, true, false, false] [9] [(11, false), (12, true)] 107
    [ve (nv a),
     ve (iv (i32M a)),
     ve (nv (Nm.mk 0 (i32M a))),
     ve (nv b),
     ve (iv (i32M b)),
     ve (nv (Nm.mk 0 (i32M b))),
     ve (.tuple #[nv ((addM (Nm.mk 0 (i32M a)) (Nm.mk 0 (i32M b))).1), .bool ((addM (Nm.mk 0 (i32M a)) (Nm.mk 0 (i32M b))).2)]),
     ve (.tuple #[nv ((addM (Nm.mk 0 (i32M a)) (Nm.mk 0 (i32M b))).1), .bool ((addM (Nm.mk 0 (i32M a)) (Nm.mk 0 (i32M b))).2)]),
     ve (nv ((addM (Nm.mk 0 (i32M a)) (Nm.mk 0 (i32M b))).1)),
     ve (.bool ((addM (Nm.mk 0 (i32M a)) (Nm.mk 0 (i32M b))).2)),
     IsNew w183 23 [iv 0, iv 0],
     vt,
     vt]
    [10] (newsCons (fun v w h => IsNew.old h) newsNil) hs196 (.eq (.eq (.eq (.eq (.eq (.eq (.eq (.eq (.eq (.eq (.nw (.tt (.tt (.nil)))))))))))))) ?_ ?_ ?_
  · skip
    refine .o1 (tk rfl rfl fun _ w hn k => ⟨_, v_load rfl (k.fx 2 h198) (l_two Tryd.isAgg23 Tryd.sizeOf23 (hb190.new_ hn)), rfl⟩) ?_
    refine .o1 (ck rfl rfl rfl (fun _ w hn k => ⟨#[nv a], args1 (k.eq1 0 59 rfl), fun _ => by kernel_rfl, i32_c a _⟩) fun _ => rfl) ?_
    refine .o1 (ck rfl rfl rfl (fun _ w hn k => ⟨#[iv (i32M a)], args1 (k.eq1 1 60 rfl), fun _ => by kernel_rfl, w_c (i32M a) _⟩) fun _ => rfl) ?_
    refine .o1 (tk rfl rfl fun _ w hn k => ⟨_, v_load rfl (k.fx 3 h199) (l_two Tryd.isAgg23 Tryd.sizeOf23 (hb191.new_ hn)), rfl⟩) ?_
    refine .o1 (ck rfl rfl rfl (fun _ w hn k => ⟨#[nv b], args1 (k.eq1 3 62 rfl), fun _ => by kernel_rfl, i32_c b _⟩) fun _ => rfl) ?_
    refine .o1 (ck rfl rfl rfl (fun _ w hn k => ⟨#[iv (i32M b)], args1 (k.eq1 4 63 rfl), fun _ => by kernel_rfl, w_c (i32M b) _⟩) fun _ => rfl) ?_
    refine .o1 (ck rfl rfl rfl (fun _ w hn k => ⟨#[nv (Nm.mk 0 (i32M a)), nv (Nm.mk 0 (i32M b))], args2 (k.eq1 2 61 rfl) (k.eq1 5 64 rfl), fun _ => by kernel_rfl, add_c (Nm.mk 0 (i32M a)) (Nm.mk 0 (i32M b)) _⟩) fun _ => rfl) ?_
    refine .o1 (tk rfl rfl fun _ w hn k => ⟨_, v_move rfl (k.eq1 6 65 rfl), rfl⟩) ?_
    refine .o1 (tk rfl rfl fun _ w hn k => ⟨_, v_extract rfl (k.eq1 7 58 rfl) rfl, rfl⟩) ?_
    refine .o3 ?_
    refine .o2 (step_allocN (cs := [iv 0, iv 0]) (t := 23) rfl (noG rfl) (fun _ w hn k => rfl) (fun q _ hq hb => ⟨q, rfl, hq, hb⟩)) ?_
    refine .off ?_
    refine .off ?_
    exact .nil
  · skip
    intro i h
    simp only [List.contains_eq_mem, List.mem_cons, List.not_mem_nil, or_false, decide_eq_true_eq] at h
    subst h
    · exact eager_take rfl rfl fun _ w hn k => ⟨.bool ((addM (Nm.mk 0 (i32M a)) (Nm.mk 0 (i32M b))).2), fun w => v_extract rfl (k.eq1 7 58 rfl) rfl, rfl⟩
  intro a208 w209 hn210 ha211
  have hs212 := ha211.size.trans hs196
  have hd213 := ha211.defers.trans hd197
  have h214 := ha211.fx 2 h198
  have h215 := ha211.fx 4 h200
  have h216 := ha211.fx 5 h201
  have h217 := ha211.fx 6 h202
  have h218 := ha211.fx 7 h203
  have h219 := ha211.fx 10 h206
  have h220 := ha211.fx 11 h207
  have h221 := ha211.ge 8 66 rfl
  have h222 := ha211.ge 9 67 rfl
  obtain ⟨q224, h223, hq225, hb226⟩ : IsNew _ _ _ _ _ := ha211.got 10 12 rfl (by kernel_rfl)
  have hb227 := hb190.new_ hn210
  have hb228 := hb192.new_ hn210
  have hb229 := hb185.new_ hn210
  have hne230 : q8 ≠ q224 := by have h1 := hb190.lt; have h2 := hq225; omega
  have hne231 : q79 ≠ q224 := by have h1 := hb192.lt; have h2 := hq225; omega
  have hne232 : q172 ≠ q224 := by have h1 := hb185.lt; have h2 := hq225; omega
  have hq233 := Nat.le_trans hN193.size hq225
  have hN234 := hN193.transNew hn210
  clear hs196 hd197 h198 h199 h200 h201 h202 h203 h206 h207 hb190 hb191 hq17 hb192 hb185 hq225 hN193 ha211 hn210
  have hi32_b : -2147483648 ≤ i32M b ∧ i32M b ≤ 2147483647 := i32_bd _
  obtain ⟨w235, -, hst236, hb237, hu238, hf239⟩ := s_two (v0 := iv ((addM (Nm.mk 0 (i32M a)) (Nm.mk 0 (i32M b))).1.k)) (v1 := iv ((addM (Nm.mk 0 (i32M a)) (Nm.mk 0 (i32M b))).1.n)) Tryd.sizeOf23 rfl rfl rfl hb226
  refine st_act rfl rfl fun K240 hL241 => a_store' rfl h223 h221 hst236 (hL241 _ _ trivial ?_)
  have hb242 := hf239 _ _ _ (hne230) hb227
  have hb243 := hf239 _ _ _ (hne231) hb228
  have hb244 := hf239 _ _ _ (hne232) hb229
  have hN245 := hN234.trans hu238 (fun k hk hkb => by subst hkb; omega)
  clear hb226 hst236 K240 hL241 hN234 hb227 hb228 hb229 hu238 hf239
  refine st_take rfl rfl (y_assign (v := .bool ((addM (Nm.mk 0 (i32M a)) (Nm.mk 0 (i32M b))).2)) rfl h222) rfl ?_
  obtain ⟨a246, ha247⟩ : ∃ a', a' = a208.put (some 13) (.bool ((addM (Nm.mk 0 (i32M a)) (Nm.mk 0 (i32M b))).2)) := ⟨_, rfl⟩
  have hs248 : a246.tmps.size = 107 := by rw [ha247, put_size]; exact hs212
  have hd249 : a246.defers = [] := by rw [ha247, put_defers]; exact hd213
  have h250 : a246.eval (.tmp 2) = pv q8 := by rw [ha247, put_ne _ _ _ _ (by decide)]; exact h214
  have h251 : a246.eval (.tmp 4) = .bool false := by rw [ha247, put_ne _ _ _ _ (by decide)]; exact h215
  have h252 : a246.eval (.tmp 5) = iv (i32M a) := by rw [ha247, put_ne _ _ _ _ (by decide)]; exact h216
  have h253 : a246.eval (.tmp 6) = iv (u32M a) := by rw [ha247, put_ne _ _ _ _ (by decide)]; exact h217
  have h254 : a246.eval (.tmp 7) = pv q79 := by rw [ha247, put_ne _ _ _ _ (by decide)]; exact h218
  have h255 : a246.eval (.tmp 10) = pv q172 := by rw [ha247, put_ne _ _ _ _ (by decide)]; exact h219
  have h256 : a246.eval (.tmp 11) = .bool ((addM (bitM 1 a b) (bitM 2 a b)).2) := by rw [ha247, put_ne _ _ _ _ (by decide)]; exact h220
  have h257 : a246.eval (.tmp 66) = nv ((addM (Nm.mk 0 (i32M a)) (Nm.mk 0 (i32M b))).1) := by rw [ha247, put_ne _ _ _ _ (by decide)]; exact h221
  have h258 : a246.eval (.tmp 67) = .bool ((addM (Nm.mk 0 (i32M a)) (Nm.mk 0 (i32M b))).2) := by rw [ha247, put_ne _ _ _ _ (by decide)]; exact h222
  have h259 : a246.eval (.tmp 12) = pv q224 := by rw [ha247, put_ne _ _ _ _ (by decide)]; exact h223
  have h260 : a246.eval (.tmp 13) = .bool ((addM (Nm.mk 0 (i32M a)) (Nm.mk 0 (i32M b))).2) := by rw [ha247]; exact put_same _ _ _ (by rw [hs212]; decide)
  show stepsTo _ _ _ _ _ (a208.put (some 13) (.bool ((addM (Nm.mk 0 (i32M a)) (Nm.mk 0 (i32M b))).2))) _
  rw [← ha247]
  clear ha247 hs212 hd213 h214 h215 h216 h217 h218 h219 h220 h221 h222 h223
  clear hne230
  clear hne231
  clear hne232
  refine st_nil ?_
  clear h257 h258
  refine hK _ _ ?_
  clear hK K
  refine wp_seq_k fun K hK => ?_
  have ht261 : (decide (((bitM 3 (bitM 3 a b) b).k) = 0)) = true := decide_eq_true (congrArg Nm.k (words a b).1)
  have ht261d := of_decide_eq_true ht261
  have ht262 : (decide (((bitM 3 (bitM 3 a b) b).n) = (i32M a))) = true := decide_eq_true (congrArg Nm.n (words a b).1)
  have ht262d := of_decide_eq_true ht262
  have ht263 : ((addM (bitM 1 a b) (bitM 2 a b)).2) = true := congrArg Prod.snd (words a b).2.1
  have hv264 : a246.eval (.tmp 11) = .bool true := h256.trans (congrArg Value.bool ht263)
  clear h256
  have ht265 : ((addM (Nm.mk 0 (i32M a)) (Nm.mk 0 (i32M b))).2) = true := congrArg Prod.snd (words a b).2.2
  have hv266 : a246.eval (.tmp 13) = .bool true := h260.trans (congrArg Value.bool ht265)
  clear h260
  have ht267 : (sameM ((addM (bitM 1 a b) (bitM 2 a b)).1) ((addM (Nm.mk 0 (i32M a)) (Nm.mk 0 (i32M b))).1)) = true := (by rw [(words a b).2.1, (words a b).2.2]; exact sameM_refl _)
  have ht268 : (sameM (bitM 5 a (Nm.mk 0 0)) (Nm.mk 0 (i32M a))) = true := (by rw [bit5_0]; exact sameM_refl _)
  refine wp_g0 [true, true, true, true, true, true, true, true, true, true, true, true, true, true, true, true, true, true, true, true, true, true, true, true, true, true, true, true, true, true, true, true, true, true, true, true, true, true, true, true] [] 107
    [ve (.bool true),
     ve (.bool true),
     ve (pv q79),
     ve (iv ((bitM 3 (bitM 3 a b) b).k)),
     ve (.bool true),
     ve (.bool true),
     ve (.bool true),
     ve (.pointer (some ⟨q79, 1, none⟩)),
     ve (iv ((bitM 3 (bitM 3 a b) b).n)),
     ve (iv (i32M a)),
     ve (.bool true),
     ve (.bool true),
     ve (.bool true),
     ve (.bool true),
     ve (.bool true),
     ve (.bool true),
     ve (.bool true),
     ve (.bool true),
     ve (.bool true),
     ve (nv ((addM (bitM 1 a b) (bitM 2 a b)).1)),
     ve (nv ((addM (Nm.mk 0 (i32M a)) (Nm.mk 0 (i32M b))).1)),
     ve (.bool true),
     ve (.bool true),
     ve (.bool true),
     ve (nv a),
     ve (nv (Nm.mk 0 0)),
     ve (nv (bitM 5 a (Nm.mk 0 0))),
     ve (iv (i32M a)),
     ve (nv (Nm.mk 0 (i32M a))),
     ve (.bool true),
     ve (.bool true),
     ve (.bool true),
     ve (nv a),
     ve (nv (Nm.mk 0 0)),
     ve (nv (bitM 6 a (Nm.mk 0 0))),
     ve (iv (u32M a)),
     ve (nv (Nm.mk 0 (u32M a))),
     ve (.bool (sameM (bitM 6 a (Nm.mk 0 0)) (Nm.mk 0 (u32M a)))),
     ve (.bool (sameM (bitM 6 a (Nm.mk 0 0)) (Nm.mk 0 (u32M a)))),
     ve (.bool (sameM (bitM 6 a (Nm.mk 0 0)) (Nm.mk 0 (u32M a))))] hs248 (.eq (.eq (.eq (.eq (.eq (.eq (.eq (.eq (.eq (.eq (.eq (.eq (.eq (.eq (.eq (.eq (.eq (.eq (.eq (.eq (.eq (.eq (.eq (.eq (.eq (.eq (.eq (.eq (.eq (.eq (.eq (.eq (.eq (.eq (.eq (.eq (.eq (.eq (.eq (.eq (.nil))))))))))))))))))))))))))))))))))))))))) ?_ ?_
  · skip
    refine .o1 (ck rfl rfl rfl (fun _ w hn k => ⟨#[], rfl, fun _ => by kernel_rfl, first_c  _⟩) fun _ => rfl) ?_
    refine .o1 (tk rfl rfl fun _ w hn k => ⟨_, v_move rfl (k.eq1 0 68 rfl), rfl⟩) ?_
    refine .o1 (tg rfl rfl rfl (fun _ _ k => k.eq1 1 69 rfl) fun _ w hn k => ⟨_, v_field rfl (k.fx 7 h254) (fun w => rfl), rfl⟩) ?_
    refine .o1 (tg rfl rfl rfl (fun _ _ k => k.eq1 1 69 rfl) fun _ w hn k => ⟨_, v_load rfl (k.eq1 2 70 rfl) (l_one Tryd.isAgg3 ((hb243.new_ hn).cell 0)), rfl⟩) ?_
    refine .o1 (tg rfl rfl rfl (fun _ _ k => k.eq1 1 69 rfl) fun _ w hn k => ⟨_, v_bin rfl (k.eq1 3 71 rfl) rfl (fun _ => rfl) (r_eql ht261), rfl⟩) ?_
    refine .o1 (tk rfl rfl fun _ w hn k => ⟨_, v_pickT rfl (k.eq1 1 69 rfl) (k.eq1 4 72 rfl), rfl⟩) ?_
    refine .o1 (tk rfl rfl fun _ w hn k => ⟨_, v_move rfl (k.eq1 5 73 rfl), rfl⟩) ?_
    refine .o1 (tg rfl rfl rfl (fun _ _ k => k.eq1 6 74 rfl) fun _ w hn k => ⟨_, v_field rfl (k.fx 7 h254) (fun w => rfl), rfl⟩) ?_
    refine .o1 (tg rfl rfl rfl (fun _ _ k => k.eq1 6 74 rfl) fun _ w hn k => ⟨_, v_load rfl (k.eq1 7 75 rfl) (l_one Tryd.isAgg3 ((hb243.new_ hn).cell 1)), rfl⟩) ?_
    refine .o1 (tg rfl rfl rfl (fun _ _ k => k.eq1 6 74 rfl) fun _ w hn k => ⟨_, v_move rfl (k.fx 5 h252), rfl⟩) ?_
    refine .o1 (tg rfl rfl rfl (fun _ _ k => k.eq1 6 74 rfl) fun _ w hn k => ⟨_, v_bin rfl (k.eq1 8 76 rfl) (k.eq1 9 77 rfl) (fun _ => rfl) (r_eql ht262), rfl⟩) ?_
    refine .o1 (tk rfl rfl fun _ w hn k => ⟨_, v_pickT rfl (k.eq1 6 74 rfl) (k.eq1 10 78 rfl), rfl⟩) ?_
    refine .o1 (tk rfl rfl fun _ w hn k => ⟨_, v_move rfl (k.eq1 11 79 rfl), rfl⟩) ?_
    refine .o1 (tg rfl rfl rfl (fun _ _ k => k.eq1 12 80 rfl) fun _ w hn k => ⟨_, v_move rfl (k.fx 11 hv264), rfl⟩) ?_
    refine .o1 (tk rfl rfl fun _ w hn k => ⟨_, v_pickT rfl (k.eq1 12 80 rfl) (k.eq1 13 81 rfl), rfl⟩) ?_
    refine .o1 (tk rfl rfl fun _ w hn k => ⟨_, v_move rfl (k.eq1 14 82 rfl), rfl⟩) ?_
    refine .o1 (tg rfl rfl rfl (fun _ _ k => k.eq1 15 83 rfl) fun _ w hn k => ⟨_, v_move rfl (k.fx 13 hv266), rfl⟩) ?_
    refine .o1 (tk rfl rfl fun _ w hn k => ⟨_, v_pickT rfl (k.eq1 15 83 rfl) (k.eq1 16 84 rfl), rfl⟩) ?_
    refine .o1 (tk rfl rfl fun _ w hn k => ⟨_, v_move rfl (k.eq1 17 85 rfl), rfl⟩) ?_
    refine .o1 (tg rfl rfl rfl (fun _ _ k => k.eq1 18 86 rfl) fun _ w hn k => ⟨_, v_load rfl (k.fx 10 h255) (l_two Tryd.isAgg23 Tryd.sizeOf23 (hb244.new_ hn)), rfl⟩) ?_
    refine .o1 (tg rfl rfl rfl (fun _ _ k => k.eq1 18 86 rfl) fun _ w hn k => ⟨_, v_load rfl (k.fx 12 h259) (l_two Tryd.isAgg23 Tryd.sizeOf23 (hb237.new_ hn)), rfl⟩) ?_
    refine .o1 (cg rfl rfl rfl (fun _ _ k => k.eq1 18 86 rfl) rfl (fun _ w hn k => ⟨#[nv ((addM (bitM 1 a b) (bitM 2 a b)).1), nv ((addM (Nm.mk 0 (i32M a)) (Nm.mk 0 (i32M b))).1)], args2 (k.eq1 19 87 rfl) (k.eq1 20 88 rfl), fun _ => by kernel_rfl, same_c ((addM (bitM 1 a b) (bitM 2 a b)).1) ((addM (Nm.mk 0 (i32M a)) (Nm.mk 0 (i32M b))).1) _⟩) fun _ => congrArg Value.bool ht267) ?_
    refine .o1 (tk rfl rfl fun _ w hn k => ⟨_, v_pickT rfl (k.eq1 18 86 rfl) (k.eq1 21 89 rfl), rfl⟩) ?_
    refine .o1 (tk rfl rfl fun _ w hn k => ⟨_, v_move rfl (k.eq1 22 90 rfl), rfl⟩) ?_
    refine .o1 (tg rfl rfl rfl (fun _ _ k => k.eq1 23 91 rfl) fun _ w hn k => ⟨_, v_load rfl (k.fx 2 h250) (l_two Tryd.isAgg23 Tryd.sizeOf23 (hb242.new_ hn)), rfl⟩) ?_
    refine .o1 (cg rfl rfl rfl (fun _ _ k => k.eq1 23 91 rfl) rfl (fun _ w hn k => ⟨#[iv 0], args1 rfl, fun _ => by kernel_rfl, w_c 0 _⟩) fun _ => rfl) ?_
    refine .o1 (cg rfl rfl rfl (fun _ _ k => k.eq1 23 91 rfl) rfl (fun _ w hn k => ⟨#[iv 5, nv a, nv (Nm.mk 0 0)], args3 rfl (k.eq1 24 92 rfl) (k.eq1 25 93 rfl), fun _ => by kernel_rfl, bit_c 5 a (Nm.mk 0 0) _⟩) fun _ => rfl) ?_
    refine .o1 (tg rfl rfl rfl (fun _ _ k => k.eq1 23 91 rfl) fun _ w hn k => ⟨_, v_move rfl (k.fx 5 h252), rfl⟩) ?_
    refine .o1 (cg rfl rfl rfl (fun _ _ k => k.eq1 23 91 rfl) rfl (fun _ w hn k => ⟨#[iv (i32M a)], args1 (k.eq1 27 95 rfl), fun _ => by kernel_rfl, w_c (i32M a) _⟩) fun _ => rfl) ?_
    refine .o1 (cg rfl rfl rfl (fun _ _ k => k.eq1 23 91 rfl) rfl (fun _ w hn k => ⟨#[nv (bitM 5 a (Nm.mk 0 0)), nv (Nm.mk 0 (i32M a))], args2 (k.eq1 26 94 rfl) (k.eq1 28 96 rfl), fun _ => by kernel_rfl, same_c (bitM 5 a (Nm.mk 0 0)) (Nm.mk 0 (i32M a)) _⟩) fun _ => congrArg Value.bool ht268) ?_
    refine .o1 (tk rfl rfl fun _ w hn k => ⟨_, v_pickT rfl (k.eq1 23 91 rfl) (k.eq1 29 97 rfl), rfl⟩) ?_
    refine .o1 (tk rfl rfl fun _ w hn k => ⟨_, v_move rfl (k.eq1 30 98 rfl), rfl⟩) ?_
    refine .o1 (tg rfl rfl rfl (fun _ _ k => k.eq1 31 99 rfl) fun _ w hn k => ⟨_, v_load rfl (k.fx 2 h250) (l_two Tryd.isAgg23 Tryd.sizeOf23 (hb242.new_ hn)), rfl⟩) ?_
    refine .o1 (cg rfl rfl rfl (fun _ _ k => k.eq1 31 99 rfl) rfl (fun _ w hn k => ⟨#[iv 0], args1 rfl, fun _ => by kernel_rfl, w_c 0 _⟩) fun _ => rfl) ?_
    refine .o1 (cg rfl rfl rfl (fun _ _ k => k.eq1 31 99 rfl) rfl (fun _ w hn k => ⟨#[iv 6, nv a, nv (Nm.mk 0 0)], args3 rfl (k.eq1 32 100 rfl) (k.eq1 33 101 rfl), fun _ => by kernel_rfl, bit_c 6 a (Nm.mk 0 0) _⟩) fun _ => rfl) ?_
    refine .o1 (tg rfl rfl rfl (fun _ _ k => k.eq1 31 99 rfl) fun _ w hn k => ⟨_, v_move rfl (k.fx 6 h253), rfl⟩) ?_
    refine .o1 (cg rfl rfl rfl (fun _ _ k => k.eq1 31 99 rfl) rfl (fun _ w hn k => ⟨#[iv (u32M a)], args1 (k.eq1 35 103 rfl), fun _ => by kernel_rfl, w_c (u32M a) _⟩) fun _ => rfl) ?_
    refine .o1 (cg rfl rfl rfl (fun _ _ k => k.eq1 31 99 rfl) rfl (fun _ w hn k => ⟨#[nv (bitM 6 a (Nm.mk 0 0)), nv (Nm.mk 0 (u32M a))], args2 (k.eq1 34 102 rfl) (k.eq1 36 104 rfl), fun _ => by kernel_rfl, same_c (bitM 6 a (Nm.mk 0 0)) (Nm.mk 0 (u32M a)) _⟩) fun _ => rfl) ?_
    refine .o1 (tk rfl rfl fun _ w hn k => ⟨_, v_pickT rfl (k.eq1 31 99 rfl) (k.eq1 37 105 rfl), rfl⟩) ?_
    refine .o1 (tk rfl rfl fun _ w hn k => ⟨_, v_assign rfl (k.eq1 38 106 rfl), rfl⟩) ?_
    exact .nil
  intro a269 w270 hn271 ha272
  have hs273 := ha272.size.trans hs248
  have hd274 := ha272.defers.trans hd249
  have h275 := ha272.ge 39 4 rfl
  have hN276 := hN245.transNew hn271
  clear hs248 hd249 h250 h251 h252 h253 h254 h255 hv264 h259 hv266 hb242 hq16 hb243 hq86 hb244 hq181 hb237 hq233 hN245 ha272 hn271
  refine st_nil ?_
  refine hK _ _ ?_
  clear hK K
  refine wp_ret (ret_k hd274 (v := .bool (sameM (bitM 6 a (Nm.mk 0 0)) (Nm.mk 0 (u32M a)))) (res_t rfl h275 _) ?_)
  exact ⟨congrArg (fun b => Ending.returned (.bool b)) ((by rw [bit6_0]; exact sameM_refl _)), hN276⟩
end Go.Proofs.YtldakajmhfdfgaaDoor
