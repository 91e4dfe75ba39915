import Derived.Test.YtecgdgjlmlpcnaaCia
namespace Go.Proofs.Ytecgdgjlmlpcnaa
open Go.RowKit
set_option linter.unusedSimpArgs false
set_option linter.unusedVariables false
set_option maxHeartbeats 4000000 in
set_option maxRecDepth 100000 in
theorem bCmp_c (a : Bool) (Aa : Option Addr) (ma : List Nat) (ca : Nat) (b : Bool) (Ab : Option Addr) (mb : List Nat) (cb : Nat) (w : World) (hra : SRow w .u32 Aa ma ca) (hrb : SRow w .u32 Ab mb cb) (ha : Limbs ma) (hb : Limbs mb) (hsa : ma.length ≤ 1000000) (hsb : mb.length ≤ 1000000) : Calls Try.prog 72 #[.agg #[.bool a, sv Aa ma ca], .agg #[.bool b, sv Ab mb cb]] w (IsRet (iv (cmpZ (goodI a ma) (goodI b mb))) w) := by
  refine enter_abs Try.func72 rfl fun a0 hs0 hd0 hp => ?_
  have hs0 : a0.tmps.size = 35 := hs0
  have hN0 : New w w := Upd.refl _ _
  have hp0 : a0.eval (.tmp 0) = .agg #[.bool a, sv Aa ma ca] := hp 0 _ rfl
  have hp1 : a0.eval (.tmp 1) = .agg #[.bool b, sv Ab mb cb] := hp 1 _ rfl
  refine wp_seq_k fun K1 hK1 => ?_
  refine wp_g [true, true, true] [] [] 35
    [IsNew w 26 [.bool a, sv Aa ma ca],
     IsNew w 26 [.bool b, sv Ab mb cb],
     ve (iv 0)]
    [0, 1] (newsCons (fun v w h => IsNew.old h) (newsCons (fun v w h => IsNew.old h) newsNil)) hs0 (.nw (.nw (.eq (.nil)))) ?_ (fun i h => by cases h) ?_
  refine .o2 (step_allocN (cs := [.bool a, sv Aa ma ca]) (t := 26) rfl (noG rfl) (fun _ w hn k => v_box rfl (k.fx 0 hp0) (fun w => rfl)) (fun q _ hq hb => ⟨q, rfl, hq, hb⟩)) ?_
  refine .o2 (step_allocN (cs := [.bool b, sv Ab mb cb]) (t := 26) rfl (noG rfl) (fun _ w hn k => v_box rfl (k.fx 1 hp1) (fun w => rfl)) (fun q _ hq hb => ⟨q, rfl, hq, hb⟩)) ?_
  refine .o1 (tk rfl rfl fun _ w hn k => ⟨_, v_assign rfl rfl, rfl⟩) ?_
  exact .nil
  intro a2 w3 hn4 ha5
  obtain ⟨hs6, hd7, hN18⟩ := aft ha5 hs0 hd0 hN0 hn4
  obtain ⟨q9, h8, hq10, hb11⟩ : IsNew _ _ _ _ _ := ha5.got 0 2 rfl (by kernel_rfl)
  obtain ⟨q13, h12, hq14, hb15⟩ : IsNew _ _ _ _ _ := ha5.got 1 3 rfl (by kernel_rfl)
  have hq16 := Nat.le_trans hN0.size hq10
  have hq17 := Nat.le_trans hN0.size hq14
  refine st_nil (hK1 _ _ ?_)
  refine wp_seq_k fun K19 hK19 => ?_
  refine wp_g0 [true, true, true, true, true, true] [] 35
    [ve (.agg #[.bool a, sv Aa ma ca]),
     ve (.bool (mayB a ma && a)),
     ve (.agg #[.bool b, sv Ab mb cb]),
     ve (.bool (mayB b mb && b)),
     ve (.bool (mayB a ma && a)),
     ve (.bool (mayB b mb && b))] hs6 (.eq (.eq (.eq (.eq (.eq (.eq (.nil))))))) ?_ ?_
  refine .o1 (tk rfl rfl fun _ w hn k => ⟨_, v_load rfl (k.fx 2 h8) (l_two Try.isAgg26 Try.sizeOf26 (hb11.new_ hn)), rfl⟩) ?_
  refine .o1 (ck rfl rfl rfl (fun _ w hn k => ⟨#[.agg #[.bool a, sv Aa ma ca]], args1 (k.eq1 0 7 rfl), fun _ => by kernel_rfl, bneg_c a _ ma _ _ (hra.new_ (hN18.transNew hn))⟩) fun _ => rfl) ?_
  refine .o1 (tk rfl rfl fun _ w hn k => ⟨_, v_load rfl (k.fx 3 h12) (l_two Try.isAgg26 Try.sizeOf26 (hb15.new_ hn)), rfl⟩) ?_
  refine .o1 (ck rfl rfl rfl (fun _ w hn k => ⟨#[.agg #[.bool b, sv Ab mb cb]], args1 (k.eq1 2 9 rfl), fun _ => by kernel_rfl, bneg_c b _ mb _ _ (hrb.new_ (hN18.transNew hn))⟩) fun _ => rfl) ?_
  refine .o1 (tk rfl rfl fun _ w hn k => ⟨_, v_assign rfl (k.eq1 1 8 rfl), rfl⟩) ?_
  refine .o1 (tk rfl rfl fun _ w hn k => ⟨_, v_assign rfl (k.eq1 3 10 rfl), rfl⟩) ?_
  exact .nil
  intro a20 w21 hn22 ha23
  obtain ⟨hs24, hd25, hN32⟩ := aft ha23 hs6 hd7 hN18 hn22
  have h26 := ha23.fx 2 h8
  have h27 := ha23.fx 3 h12
  have h28 := ha23.ge 4 5 rfl
  have h29 := ha23.ge 5 6 rfl
  have hb30 := hb11.new_ hn22
  have hb31 := hb15.new_ hn22
  refine st_nil (hK19 _ _ ?_)
  refine wp_seq_k fun K33 hK33 => ?_
  refine wp_block ?_
  refine wp_seq_k fun K34 hK34 => ?_
  rcases Bool.eq_false_or_eq_true ((mayB a ma && a)) with ht35 | ht35
  have hv36 := hB h28 ht35
  rcases Bool.eq_false_or_eq_true ((mayB b mb && b)) with ht37 | ht37
  have hv38 := hB h29 ht37
  refine wp_g0 [true, true, true, true, true, true] [] 35
    [ve (.bool true),
     ve (.bool true),
     ve (.bool true),
     ve (.bool false),
     ve (.bool false),
     ve (.bool false)] hs24 (.eq (.eq (.eq (.eq (.eq (.eq (.nil))))))) ?_ ?_
  refine .o1 (tk rfl rfl fun _ w hn k => ⟨_, v_move rfl (k.fx 5 hv36), rfl⟩) ?_
  refine .o1 (tk rfl rfl fun _ w hn k => ⟨_, v_move rfl (k.eq1 0 12 rfl), rfl⟩) ?_
  refine .o1 (tg rfl rfl rfl (fun _ _ k => k.eq1 1 13 rfl) fun _ w hn k => ⟨_, v_move rfl (k.fx 6 hv38), rfl⟩) ?_
  refine .o1 (tg rfl rfl rfl (fun _ _ k => k.eq1 1 13 rfl) fun _ w hn k => ⟨_, v_not rfl (k.eq1 2 14 rfl), rfl⟩) ?_
  refine .o1 (tk rfl rfl fun _ w hn k => ⟨_, v_pickT rfl (k.eq1 1 13 rfl) (k.eq1 3 15 rfl), rfl⟩) ?_
  refine .o1 (tk rfl rfl fun _ w hn k => ⟨_, v_assign rfl (k.eq1 4 16 rfl), rfl⟩) ?_
  exact .nil
  intro a39 w40 hn41 ha42
  obtain ⟨hs43, hd44, hN52⟩ := aft ha42 hs24 hd25 hN32 hn41
  have h45 := ha42.fx 2 h26
  have h46 := ha42.fx 3 h27
  have h47 := ha42.fx 5 hv36
  have h48 := ha42.fx 6 hv38
  have h49 := ha42.ge 5 11 rfl
  have hb50 := hb30.new_ hn41
  have hb51 := hb31.new_ hn41
  refine st_nil (hK34 _ _ ?_)
  refine wp_cond_false h49 ?_
  refine wp_seq_k fun K53 hK53 => ?_
  refine wp_g0 [true, true, true, true, true, true] [] 35
    [ve (.bool true),
     ve (.bool true),
     ve (.bool true),
     ve (.bool false),
     ve (.bool false),
     ve (.bool false)] hs43 (.eq (.eq (.eq (.eq (.eq (.eq (.nil))))))) ?_ ?_
  refine .o1 (tk rfl rfl fun _ w hn k => ⟨_, v_move rfl (k.fx 6 h48), rfl⟩) ?_
  refine .o1 (tk rfl rfl fun _ w hn k => ⟨_, v_move rfl (k.eq1 0 18 rfl), rfl⟩) ?_
  refine .o1 (tg rfl rfl rfl (fun _ _ k => k.eq1 1 19 rfl) fun _ w hn k => ⟨_, v_move rfl (k.fx 5 h47), rfl⟩) ?_
  refine .o1 (tg rfl rfl rfl (fun _ _ k => k.eq1 1 19 rfl) fun _ w hn k => ⟨_, v_not rfl (k.eq1 2 20 rfl), rfl⟩) ?_
  refine .o1 (tk rfl rfl fun _ w hn k => ⟨_, v_pickT rfl (k.eq1 1 19 rfl) (k.eq1 3 21 rfl), rfl⟩) ?_
  refine .o1 (tk rfl rfl fun _ w hn k => ⟨_, v_assign rfl (k.eq1 4 22 rfl), rfl⟩) ?_
  exact .nil
  intro a54 w55 hn56 ha57
  obtain ⟨hs58, hd59, hN66⟩ := aft ha57 hs43 hd44 hN52 hn56
  have h60 := ha57.fx 2 h45
  have h61 := ha57.fx 3 h46
  have h62 := ha57.fx 5 h47
  have h63 := ha57.ge 5 17 rfl
  have hb64 := hb50.new_ hn56
  have hb65 := hb51.new_ hn56
  refine st_nil (hK53 _ _ ?_)
  refine wp_cond_false h63 ?_
  refine wp_seq_k fun K67 hK67 => ?_
  refine wp_g0 [true, true] [] 35
    [ve (.bool true),
     ve (.bool true)] hs58 (.eq (.eq (.nil))) ?_ ?_
  refine .o1 (tk rfl rfl fun _ w hn k => ⟨_, v_move rfl (k.fx 5 h62), rfl⟩) ?_
  refine .o1 (tk rfl rfl fun _ w hn k => ⟨_, v_assign rfl (k.eq1 0 24 rfl), rfl⟩) ?_
  exact .nil
  intro a68 w69 hn70 ha71
  obtain ⟨hs72, hd73, hN79⟩ := aft ha71 hs58 hd59 hN66 hn70
  have h74 := ha71.fx 2 h60
  have h75 := ha71.fx 3 h61
  have h76 := ha71.ge 1 23 rfl
  have hb77 := hb64.new_ hn70
  have hb78 := hb65.new_ hn70
  refine st_nil (hK67 _ _ ?_)
  refine wp_cond_true h76 ?_
  refine wp_seq_k fun K80 hK80 => ?_
  refine wp_g0 [true, true, true, true, true, true] [] 35
    [ve (.agg #[.bool b, sv Ab mb cb]),
     (fun (v_ : Value) (W : World) => ∃ (A3 : Option Addr) (c4 : Nat), v_ = sv A3 (canon (goodI b mb).natAbs) c4 ∧ SOwn W w69.heap.size 56 .u32 A3 (canon (goodI b mb).natAbs) c4),
     ve (.agg #[.bool a, sv Aa ma ca]),
     (fun (v_ : Value) (W : World) => ∃ (A7 : Option Addr) (c8 : Nat), v_ = sv A7 (canon (goodI a ma).natAbs) c8 ∧ SOwn W w69.heap.size 56 .u32 A7 (canon (goodI a ma).natAbs) c8),
     ve (iv (cmpI (val (canon (goodI b mb).natAbs)) (val (canon (goodI a ma).natAbs)))),
     ve (iv (cmpI (val (canon (goodI b mb).natAbs)) (val (canon (goodI a ma).natAbs))))] hs72 (.eq (.cons (fun v W W' hn ⟨A3, c4, he, h0⟩ => ⟨A3, c4, he, h0.new_ hn⟩) (.eq (.cons (fun v W W' hn ⟨A7, c8, he, h0⟩ => ⟨A7, c8, he, h0.new_ hn⟩) (.eq (.eq (.nil))))))) ?_ ?_
  refine .o1 (tk rfl rfl fun _ w hn k => ⟨_, v_load rfl (k.fx 3 h75) (l_two Try.isAgg26 Try.sizeOf26 (hb78.new_ hn)), rfl⟩) ?_
  refine .o1 (tkC rfl (noG rfl) rfl fun _ w hn k => (by
        refine ⟨#[.agg #[.bool b, sv Ab mb cb]], _, args1 (k.eq1 0 25 rfl), fun w => by kernel_rfl, bmag_c b _ mb _ _ (hrb.new_ (hN79.transNew hn)) hb (by first | omega | (simp only [List.length_nil, List.length_take, List.length_drop]; omega) | (simp only [List.length_cons, List.length_nil]; omega)), ?_⟩
        rintro e w' ⟨A1, c2, rfl, hmo0, hm⟩
        exact ⟨_, rfl, hm, ⟨A1, c2, rfl, (hmo0.more hn.size)⟩⟩)) ?_
  refine .o1 (tk rfl rfl fun _ w hn k => ⟨_, v_load rfl (k.fx 2 h74) (l_two Try.isAgg26 Try.sizeOf26 (hb77.new_ hn)), rfl⟩) ?_
  refine .o1 (tkC rfl (noG rfl) rfl fun _ w hn k => (by
        refine ⟨#[.agg #[.bool a, sv Aa ma ca]], _, args1 (k.eq1 2 27 rfl), fun w => by kernel_rfl, bmag_c a _ ma _ _ (hra.new_ (hN79.transNew hn)) ha (by first | omega | (simp only [List.length_nil, List.length_take, List.length_drop]; omega) | (simp only [List.length_cons, List.length_nil]; omega)), ?_⟩
        rintro e w' ⟨A5, c6, rfl, hmo0, hm⟩
        exact ⟨_, rfl, hm, ⟨A5, c6, rfl, (hmo0.more hn.size)⟩⟩)) ?_
  refine .o1 (tkC rfl (noG rfl) rfl fun _ w hn k => (by
        obtain ⟨A9, c10, e11, hx12⟩ : (fun (v_ : Value) (W : World) => ∃ (A3 : Option Addr) (c4 : Nat), v_ = sv A3 (canon (goodI b mb).natAbs) c4 ∧ SOwn W w69.heap.size 56 .u32 A3 (canon (goodI b mb).natAbs) c4) _ _ := k.dep 1 26 (by kernel_rfl) (by kernel_rfl)
        obtain ⟨A13, c14, e15, hx16⟩ : (fun (v_ : Value) (W : World) => ∃ (A7 : Option Addr) (c8 : Nat), v_ = sv A7 (canon (goodI a ma).natAbs) c8 ∧ SOwn W w69.heap.size 56 .u32 A7 (canon (goodI a ma).natAbs) c8) _ _ := k.dep 3 28 (by kernel_rfl) (by kernel_rfl)
        refine ⟨#[sv A9 (canon (goodI b mb).natAbs) c10, sv A13 (canon (goodI a ma).natAbs) c14], _, args2 e11 e15, fun w => by kernel_rfl, bcmp_c _ (canon (goodI b mb).natAbs) _ _ (canon (goodI a ma).natAbs) _ _ hx12.row hx16.row (limbs_canon _) (limbs_canon _) (trim_canon _) (trim_canon _), ?_⟩
        rintro e w' ⟨rfl, hm⟩
        exact ⟨_, rfl, hm, rfl⟩)) ?_
  refine .o1 (tk rfl rfl fun _ w hn k => ⟨_, v_assign rfl (k.eq1 4 29 rfl), rfl⟩) ?_
  exact .nil
  intro a81 w82 hn83 ha84
  obtain ⟨hs85, hd86, hN88⟩ := aft ha84 hs72 hd73 hN79 hn83
  have h87 := ha84.ge 5 4 rfl
  refine st_nil (hK80 _ _ ?_)
  refine wp_ret (ret_k hd86 (v := iv (cmpI (val (canon (goodI b mb).natAbs)) (val (canon (goodI a ma).natAbs)))) (res_t rfl h87 _) ?_)
  rw [← neg_good ha] at ht35
  rw [← neg_good hb] at ht37
  exact ⟨congrArg (fun z => Ending.returned (iv z)) (by rw [val_canon, val_canon]; exact cmpZ_nn (of_decide_eq_true ht35) (of_decide_eq_true ht37)), hN88⟩
  have hv89 := hB h29 ht37
  refine wp_g0 [true, true, true, true, true, true] [] 35
    [ve (.bool true),
     ve (.bool true),
     ve (.bool false),
     ve (.bool true),
     ve (.bool true),
     ve (.bool true)] hs24 (.eq (.eq (.eq (.eq (.eq (.eq (.nil))))))) ?_ ?_
  refine .o1 (tk rfl rfl fun _ w hn k => ⟨_, v_move rfl (k.fx 5 hv36), rfl⟩) ?_
  refine .o1 (tk rfl rfl fun _ w hn k => ⟨_, v_move rfl (k.eq1 0 12 rfl), rfl⟩) ?_
  refine .o1 (tg rfl rfl rfl (fun _ _ k => k.eq1 1 13 rfl) fun _ w hn k => ⟨_, v_move rfl (k.fx 6 hv89), rfl⟩) ?_
  refine .o1 (tg rfl rfl rfl (fun _ _ k => k.eq1 1 13 rfl) fun _ w hn k => ⟨_, v_not rfl (k.eq1 2 14 rfl), rfl⟩) ?_
  refine .o1 (tk rfl rfl fun _ w hn k => ⟨_, v_pickT rfl (k.eq1 1 13 rfl) (k.eq1 3 15 rfl), rfl⟩) ?_
  refine .o1 (tk rfl rfl fun _ w hn k => ⟨_, v_assign rfl (k.eq1 4 16 rfl), rfl⟩) ?_
  exact .nil
  intro a90 w91 hn92 ha93
  obtain ⟨hs94, hd95, hN103⟩ := aft ha93 hs24 hd25 hN32 hn92
  have h96 := ha93.fx 2 h26
  have h97 := ha93.fx 3 h27
  have h98 := ha93.fx 5 hv36
  have h99 := ha93.fx 6 hv89
  have h100 := ha93.ge 5 11 rfl
  have hb101 := hb30.new_ hn92
  have hb102 := hb31.new_ hn92
  refine st_nil (hK34 _ _ ?_)
  refine wp_cond_true h100 ?_
  refine wp_seq_k fun K104 hK104 => ?_
  refine wp_g0 [true] [] 35
    [ve (iv (-1))] hs94 (.eq (.nil)) ?_ ?_
  refine .o1 (tk rfl rfl fun _ w hn k => ⟨_, v_assign rfl rfl, rfl⟩) ?_
  exact .nil
  intro a105 w106 hn107 ha108
  obtain ⟨hs109, hd110, hN112⟩ := aft ha108 hs94 hd95 hN103 hn107
  have h111 := ha108.ge 0 4 rfl
  refine st_nil (hK104 _ _ ?_)
  refine wp_ret (ret_k hd110 (v := iv (-1)) (res_t rfl h111 _) ?_)
  rw [← neg_good ha] at ht35
  rw [← neg_good hb] at ht37
  exact ⟨by rw [show cmpZ (goodI a ma) (goodI b mb) = -1 from cmpZ_np (of_decide_eq_true ht35) (of_decide_eq_false ht37)], hN112⟩
  have hv113 := hB h28 ht35
  refine wp_g0 [true, true, true, true, true, true] [] 35
    [ve (.bool false),
     ve (.bool false),
     ve undef,
     ve undef,
     ve (.bool false),
     ve (.bool false)] hs24 (.eq (.eq (.eq (.eq (.eq (.eq (.nil))))))) ?_ ?_
  refine .o1 (tk rfl rfl fun _ w hn k => ⟨_, v_move rfl (k.fx 5 hv113), rfl⟩) ?_
  refine .o1 (tk rfl rfl fun _ w hn k => ⟨_, v_move rfl (k.eq1 0 12 rfl), rfl⟩) ?_
  refine .o1 (sk rfl rfl rfl (fun _ _ _ k => k.eq1 1 13 rfl) (fun _ => rfl)) ?_
  refine .o1 (sk rfl rfl rfl (fun _ _ _ k => k.eq1 1 13 rfl) (fun _ => rfl)) ?_
  refine .o1 (tk rfl rfl fun _ w hn k => ⟨_, v_pickF rfl (k.eq1 1 13 rfl) rfl, rfl⟩) ?_
  refine .o1 (tk rfl rfl fun _ w hn k => ⟨_, v_assign rfl (k.eq1 4 16 rfl), rfl⟩) ?_
  exact .nil
  intro a114 w115 hn116 ha117
  obtain ⟨hs118, hd119, hN127⟩ := aft ha117 hs24 hd25 hN32 hn116
  have h120 := ha117.fx 2 h26
  have h121 := ha117.fx 3 h27
  have h122 := ha117.fx 5 hv113
  have h123 := ha117.fx 6 h29
  have h124 := ha117.ge 5 11 rfl
  have hb125 := hb30.new_ hn116
  have hb126 := hb31.new_ hn116
  refine st_nil (hK34 _ _ ?_)
  refine wp_cond_false h124 ?_
  refine wp_seq_k fun K128 hK128 => ?_
  rcases Bool.eq_false_or_eq_true ((mayB b mb && b)) with ht129 | ht129
  have hv130 := hB h123 ht129
  refine wp_g0 [true, true, true, true, true, true] [] 35
    [ve (.bool true),
     ve (.bool true),
     ve (.bool false),
     ve (.bool true),
     ve (.bool true),
     ve (.bool true)] hs118 (.eq (.eq (.eq (.eq (.eq (.eq (.nil))))))) ?_ ?_
  refine .o1 (tk rfl rfl fun _ w hn k => ⟨_, v_move rfl (k.fx 6 hv130), rfl⟩) ?_
  refine .o1 (tk rfl rfl fun _ w hn k => ⟨_, v_move rfl (k.eq1 0 18 rfl), rfl⟩) ?_
  refine .o1 (tg rfl rfl rfl (fun _ _ k => k.eq1 1 19 rfl) fun _ w hn k => ⟨_, v_move rfl (k.fx 5 h122), rfl⟩) ?_
  refine .o1 (tg rfl rfl rfl (fun _ _ k => k.eq1 1 19 rfl) fun _ w hn k => ⟨_, v_not rfl (k.eq1 2 20 rfl), rfl⟩) ?_
  refine .o1 (tk rfl rfl fun _ w hn k => ⟨_, v_pickT rfl (k.eq1 1 19 rfl) (k.eq1 3 21 rfl), rfl⟩) ?_
  refine .o1 (tk rfl rfl fun _ w hn k => ⟨_, v_assign rfl (k.eq1 4 22 rfl), rfl⟩) ?_
  exact .nil
  intro a131 w132 hn133 ha134
  obtain ⟨hs135, hd136, hN143⟩ := aft ha134 hs118 hd119 hN127 hn133
  have h137 := ha134.fx 2 h120
  have h138 := ha134.fx 3 h121
  have h139 := ha134.fx 5 h122
  have h140 := ha134.ge 5 17 rfl
  have hb141 := hb125.new_ hn133
  have hb142 := hb126.new_ hn133
  refine st_nil (hK128 _ _ ?_)
  refine wp_cond_true h140 ?_
  refine wp_seq_k fun K144 hK144 => ?_
  refine wp_g0 [true] [] 35
    [ve (iv 1)] hs135 (.eq (.nil)) ?_ ?_
  refine .o1 (tk rfl rfl fun _ w hn k => ⟨_, v_assign rfl rfl, rfl⟩) ?_
  exact .nil
  intro a145 w146 hn147 ha148
  obtain ⟨hs149, hd150, hN152⟩ := aft ha148 hs135 hd136 hN143 hn147
  have h151 := ha148.ge 0 4 rfl
  refine st_nil (hK144 _ _ ?_)
  refine wp_ret (ret_k hd150 (v := iv 1) (res_t rfl h151 _) ?_)
  rw [← neg_good ha] at ht35
  rw [← neg_good hb] at ht129
  exact ⟨by rw [show cmpZ (goodI a ma) (goodI b mb) = 1 from cmpZ_pn (of_decide_eq_false ht35) (of_decide_eq_true ht129)], hN152⟩
  have hv153 := hB h123 ht129
  refine wp_g0 [true, true, true, true, true, true] [] 35
    [ve (.bool false),
     ve (.bool false),
     ve undef,
     ve undef,
     ve (.bool false),
     ve (.bool false)] hs118 (.eq (.eq (.eq (.eq (.eq (.eq (.nil))))))) ?_ ?_
  refine .o1 (tk rfl rfl fun _ w hn k => ⟨_, v_move rfl (k.fx 6 hv153), rfl⟩) ?_
  refine .o1 (tk rfl rfl fun _ w hn k => ⟨_, v_move rfl (k.eq1 0 18 rfl), rfl⟩) ?_
  refine .o1 (sk rfl rfl rfl (fun _ _ _ k => k.eq1 1 19 rfl) (fun _ => rfl)) ?_
  refine .o1 (sk rfl rfl rfl (fun _ _ _ k => k.eq1 1 19 rfl) (fun _ => rfl)) ?_
  refine .o1 (tk rfl rfl fun _ w hn k => ⟨_, v_pickF rfl (k.eq1 1 19 rfl) rfl, rfl⟩) ?_
  refine .o1 (tk rfl rfl fun _ w hn k => ⟨_, v_assign rfl (k.eq1 4 22 rfl), rfl⟩) ?_
  exact .nil
  intro a154 w155 hn156 ha157
  obtain ⟨hs158, hd159, hN166⟩ := aft ha157 hs118 hd119 hN127 hn156
  have h160 := ha157.fx 2 h120
  have h161 := ha157.fx 3 h121
  have h162 := ha157.fx 5 h122
  have h163 := ha157.ge 5 17 rfl
  have hb164 := hb125.new_ hn156
  have hb165 := hb126.new_ hn156
  refine st_nil (hK128 _ _ ?_)
  refine wp_cond_false h163 ?_
  refine wp_seq_k fun K167 hK167 => ?_
  refine wp_g0 [true, true] [] 35
    [ve (.bool false),
     ve (.bool false)] hs158 (.eq (.eq (.nil))) ?_ ?_
  refine .o1 (tk rfl rfl fun _ w hn k => ⟨_, v_move rfl (k.fx 5 h162), rfl⟩) ?_
  refine .o1 (tk rfl rfl fun _ w hn k => ⟨_, v_assign rfl (k.eq1 0 24 rfl), rfl⟩) ?_
  exact .nil
  intro a168 w169 hn170 ha171
  obtain ⟨hs172, hd173, hN179⟩ := aft ha171 hs158 hd159 hN166 hn170
  have h174 := ha171.fx 2 h160
  have h175 := ha171.fx 3 h161
  have h176 := ha171.ge 1 23 rfl
  have hb177 := hb164.new_ hn170
  have hb178 := hb165.new_ hn170
  refine st_nil (hK167 _ _ ?_)
  refine wp_cond_false h176 ?_
  refine wp_skip ?_
  refine hK33 _ _ ?_
  refine wp_seq_k fun K180 hK180 => ?_
  refine wp_g0 [true, true, true, true, true, true] [] 35
    [ve (.agg #[.bool a, sv Aa ma ca]),
     (fun (v_ : Value) (W : World) => ∃ (A19 : Option Addr) (c20 : Nat), v_ = sv A19 (canon (goodI a ma).natAbs) c20 ∧ SOwn W w169.heap.size 56 .u32 A19 (canon (goodI a ma).natAbs) c20),
     ve (.agg #[.bool b, sv Ab mb cb]),
     (fun (v_ : Value) (W : World) => ∃ (A23 : Option Addr) (c24 : Nat), v_ = sv A23 (canon (goodI b mb).natAbs) c24 ∧ SOwn W w169.heap.size 56 .u32 A23 (canon (goodI b mb).natAbs) c24),
     ve (iv (cmpI (val (canon (goodI a ma).natAbs)) (val (canon (goodI b mb).natAbs)))),
     ve (iv (cmpI (val (canon (goodI a ma).natAbs)) (val (canon (goodI b mb).natAbs))))] hs172 (.eq (.cons (fun v W W' hn ⟨A19, c20, he, h0⟩ => ⟨A19, c20, he, h0.new_ hn⟩) (.eq (.cons (fun v W W' hn ⟨A23, c24, he, h0⟩ => ⟨A23, c24, he, h0.new_ hn⟩) (.eq (.eq (.nil))))))) ?_ ?_
  refine .o1 (tk rfl rfl fun _ w hn k => ⟨_, v_load rfl (k.fx 2 h174) (l_two Try.isAgg26 Try.sizeOf26 (hb177.new_ hn)), rfl⟩) ?_
  refine .o1 (tkC rfl (noG rfl) rfl fun _ w hn k => (by
        refine ⟨#[.agg #[.bool a, sv Aa ma ca]], _, args1 (k.eq1 0 30 rfl), fun w => by kernel_rfl, bmag_c a _ ma _ _ (hra.new_ (hN179.transNew hn)) ha (by first | omega | (simp only [List.length_nil, List.length_take, List.length_drop]; omega) | (simp only [List.length_cons, List.length_nil]; omega)), ?_⟩
        rintro e w' ⟨A17, c18, rfl, hmo0, hm⟩
        exact ⟨_, rfl, hm, ⟨A17, c18, rfl, (hmo0.more hn.size)⟩⟩)) ?_
  refine .o1 (tk rfl rfl fun _ w hn k => ⟨_, v_load rfl (k.fx 3 h175) (l_two Try.isAgg26 Try.sizeOf26 (hb178.new_ hn)), rfl⟩) ?_
  refine .o1 (tkC rfl (noG rfl) rfl fun _ w hn k => (by
        refine ⟨#[.agg #[.bool b, sv Ab mb cb]], _, args1 (k.eq1 2 32 rfl), fun w => by kernel_rfl, bmag_c b _ mb _ _ (hrb.new_ (hN179.transNew hn)) hb (by first | omega | (simp only [List.length_nil, List.length_take, List.length_drop]; omega) | (simp only [List.length_cons, List.length_nil]; omega)), ?_⟩
        rintro e w' ⟨A21, c22, rfl, hmo0, hm⟩
        exact ⟨_, rfl, hm, ⟨A21, c22, rfl, (hmo0.more hn.size)⟩⟩)) ?_
  refine .o1 (tkC rfl (noG rfl) rfl fun _ w hn k => (by
        obtain ⟨A25, c26, e27, hx28⟩ : (fun (v_ : Value) (W : World) => ∃ (A19 : Option Addr) (c20 : Nat), v_ = sv A19 (canon (goodI a ma).natAbs) c20 ∧ SOwn W w169.heap.size 56 .u32 A19 (canon (goodI a ma).natAbs) c20) _ _ := k.dep 1 31 (by kernel_rfl) (by kernel_rfl)
        obtain ⟨A29, c30, e31, hx32⟩ : (fun (v_ : Value) (W : World) => ∃ (A23 : Option Addr) (c24 : Nat), v_ = sv A23 (canon (goodI b mb).natAbs) c24 ∧ SOwn W w169.heap.size 56 .u32 A23 (canon (goodI b mb).natAbs) c24) _ _ := k.dep 3 33 (by kernel_rfl) (by kernel_rfl)
        refine ⟨#[sv A25 (canon (goodI a ma).natAbs) c26, sv A29 (canon (goodI b mb).natAbs) c30], _, args2 e27 e31, fun w => by kernel_rfl, bcmp_c _ (canon (goodI a ma).natAbs) _ _ (canon (goodI b mb).natAbs) _ _ hx28.row hx32.row (limbs_canon _) (limbs_canon _) (trim_canon _) (trim_canon _), ?_⟩
        rintro e w' ⟨rfl, hm⟩
        exact ⟨_, rfl, hm, rfl⟩)) ?_
  refine .o1 (tk rfl rfl fun _ w hn k => ⟨_, v_assign rfl (k.eq1 4 34 rfl), rfl⟩) ?_
  exact .nil
  intro a181 w182 hn183 ha184
  obtain ⟨hs185, hd186, hN188⟩ := aft ha184 hs172 hd173 hN179 hn183
  have h187 := ha184.ge 5 4 rfl
  refine st_nil (hK180 _ _ ?_)
  refine wp_ret (ret_k hd186 (v := iv (cmpI (val (canon (goodI a ma).natAbs)) (val (canon (goodI b mb).natAbs)))) (res_t rfl h187 _) ?_)
  rw [← neg_good ha] at ht35
  rw [← neg_good hb] at ht129
  exact ⟨congrArg (fun z => Ending.returned (iv z)) (by rw [val_canon, val_canon]; exact cmpZ_pp (of_decide_eq_false ht35) (of_decide_eq_false ht129)), hN188⟩
set_option maxHeartbeats 4000000 in
set_option maxRecDepth 100000 in
theorem bSame_c (a : Bool) (Aa : Option Addr) (ma : List Nat) (ca : Nat) (b : Bool) (Ab : Option Addr) (mb : List Nat) (cb : Nat) (w : World) (hra : SRow w .u32 Aa ma ca) (hrb : SRow w .u32 Ab mb cb) (ha : Limbs ma) (hb : Limbs mb) (hsa : ma.length ≤ 1000000) (hsb : mb.length ≤ 1000000) : Calls Try.prog 46 #[.agg #[.bool a, sv Aa ma ca], .agg #[.bool b, sv Ab mb cb]] w (IsRet (.bool (decide (goodI a ma = goodI b mb))) w) := by
  refine enter_abs Try.func46 rfl fun a0 hs0 hd0 hp => ?_
  have hs0 : a0.tmps.size = 9 := hs0
  have hN0 : New w w := Upd.refl _ _
  have hp0 : a0.eval (.tmp 0) = .agg #[.bool a, sv Aa ma ca] := hp 0 _ rfl
  have hp1 : a0.eval (.tmp 1) = .agg #[.bool b, sv Ab mb cb] := hp 1 _ rfl
  refine wp_seq_k fun K1 hK1 => ?_
  refine wp_g [true, true, true] [] [] 9
    [IsNew w 26 [.bool a, sv Aa ma ca],
     IsNew w 26 [.bool b, sv Ab mb cb],
     ve (.bool false)]
    [0, 1] (newsCons (fun v w h => IsNew.old h) (newsCons (fun v w h => IsNew.old h) newsNil)) hs0 (.nw (.nw (.eq (.nil)))) ?_ (fun i h => by cases h) ?_
  refine .o2 (step_allocN (cs := [.bool a, sv Aa ma ca]) (t := 26) rfl (noG rfl) (fun _ w hn k => v_box rfl (k.fx 0 hp0) (fun w => rfl)) (fun q _ hq hb => ⟨q, rfl, hq, hb⟩)) ?_
  refine .o2 (step_allocN (cs := [.bool b, sv Ab mb cb]) (t := 26) rfl (noG rfl) (fun _ w hn k => v_box rfl (k.fx 1 hp1) (fun w => rfl)) (fun q _ hq hb => ⟨q, rfl, hq, hb⟩)) ?_
  refine .o1 (tk rfl rfl fun _ w hn k => ⟨_, v_assign rfl rfl, rfl⟩) ?_
  exact .nil
  intro a2 w3 hn4 ha5
  obtain ⟨hs6, hd7, hN18⟩ := aft ha5 hs0 hd0 hN0 hn4
  obtain ⟨q9, h8, hq10, hb11⟩ : IsNew _ _ _ _ _ := ha5.got 0 2 rfl (by kernel_rfl)
  obtain ⟨q13, h12, hq14, hb15⟩ : IsNew _ _ _ _ _ := ha5.got 1 3 rfl (by kernel_rfl)
  have hq16 := Nat.le_trans hN0.size hq10
  have hq17 := Nat.le_trans hN0.size hq14
  refine st_nil (hK1 _ _ ?_)
  refine wp_seq_k fun K19 hK19 => ?_
  refine wp_g0 [true, true, true, true, true] [] 9
    [ve (.agg #[.bool a, sv Aa ma ca]),
     ve (.agg #[.bool b, sv Ab mb cb]),
     ve (iv (cmpZ (goodI a ma) (goodI b mb))),
     ve (.bool (decide ((cmpZ (goodI a ma) (goodI b mb)) = 0))),
     ve (.bool (decide ((cmpZ (goodI a ma) (goodI b mb)) = 0)))] hs6 (.eq (.eq (.eq (.eq (.eq (.nil)))))) ?_ ?_
  refine .o1 (tk rfl rfl fun _ w hn k => ⟨_, v_load rfl (k.fx 2 h8) (l_two Try.isAgg26 Try.sizeOf26 (hb11.new_ hn)), rfl⟩) ?_
  refine .o1 (tk rfl rfl fun _ w hn k => ⟨_, v_load rfl (k.fx 3 h12) (l_two Try.isAgg26 Try.sizeOf26 (hb15.new_ hn)), rfl⟩) ?_
  refine .o1 (ck rfl rfl rfl (fun _ w hn k => ⟨#[.agg #[.bool a, sv Aa ma ca], .agg #[.bool b, sv Ab mb cb]], args2 (k.eq1 0 5 rfl) (k.eq1 1 6 rfl), fun _ => by kernel_rfl, bCmp_c a _ ma _ b _ mb _ _ (hra.new_ (hN18.transNew hn)) (hrb.new_ (hN18.transNew hn)) ha hb (by first | omega | (simp only [List.length_nil, List.length_take, List.length_drop]; omega) | (simp only [List.length_cons, List.length_nil]; omega)) (by first | omega | (simp only [List.length_nil, List.length_take, List.length_drop]; omega) | (simp only [List.length_cons, List.length_nil]; omega))⟩) fun _ => rfl) ?_
  refine .o1 (tk rfl rfl fun _ w hn k => ⟨_, v_bin rfl (k.eq1 2 7 rfl) rfl (fun _ => rfl) (r_eql rfl), rfl⟩) ?_
  refine .o1 (tk rfl rfl fun _ w hn k => ⟨_, v_assign rfl (k.eq1 3 8 rfl), rfl⟩) ?_
  exact .nil
  intro a20 w21 hn22 ha23
  obtain ⟨hs24, hd25, hN27⟩ := aft ha23 hs6 hd7 hN18 hn22
  have h26 := ha23.ge 4 4 rfl
  refine st_nil (hK19 _ _ ?_)
  refine wp_ret (ret_k hd25 (v := .bool (decide ((cmpZ (goodI a ma) (goodI b mb)) = 0))) (res_t rfl h26 _) ?_)
  exact ⟨by rw [show (decide (cmpZ (goodI a ma) (goodI b mb) = 0)) = decide (goodI a ma = goodI b mb) from same_cmp _ _], hN27⟩
def bOf_c_P (n : Int) (w : World) (en : Ending) (w' : World) : Prop := ∃ (Ar0 : Option Addr) (cr0 : Nat), en = .returned (.agg #[.bool (decide (n < 0)), sv Ar0 (canon (n).natAbs) cr0]) ∧ SRow w' .u32 Ar0 (canon (n).natAbs) cr0 ∧ New w w'
set_option maxHeartbeats 4000000 in
set_option maxRecDepth 100000 in
theorem bOf_c (n : Int) (w : World) (hlo : -9223372036854775808 ≤ n) (hhi : n ≤ 9223372036854775807) : Calls Try.prog 47 #[iv n] w (bOf_c_P n w) := by
  refine enter_abs Try.func47 rfl fun a0 hs0 hd0 hp => ?_
  have hs0 : a0.tmps.size = 19 := hs0
  have hN0 : New w w := Upd.refl _ _
  have hp0 : a0.eval (.tmp 0) = iv n := hp 0 _ rfl
  have hmd : 0 ≤ n % 18446744073709551616 ∧ n % 18446744073709551616 < 18446744073709551616 := by omega
  refine wp_seq_k fun K1 hK1 => ?_
  refine wp_g [true] [] [] 19
    [IsNew w 26 [.bool false, sv none ([]) 0]]
    [0] (newsCons (fun v w h => IsNew.old h) newsNil) hs0 (.nw (.nil)) ?_ (fun i h => by cases h) ?_
  refine .o2 (step_allocN (cs := [.bool false, sv none ([]) 0]) (t := 26) rfl (noG rfl) (fun _ w hn k => rfl) (fun q _ hq hb => ⟨q, rfl, hq, hb⟩)) ?_
  exact .nil
  intro a2 w3 hn4 ha5
  obtain ⟨hs6, hd7, hN14⟩ := aft ha5 hs0 hd0 hN0 hn4
  have h8 := ha5.fx 0 hp0
  obtain ⟨q10, h9, hq11, hb12⟩ : IsNew _ _ _ _ _ := ha5.got 0 2 rfl (by kernel_rfl)
  have hq13 := Nat.le_trans hN0.size hq11
  refine st_nil (hK1 _ _ ?_)
  refine wp_seq_k fun K15 hK15 => ?_
  refine wp_g0 [true, true, true] [] 19
    [ve (iv n),
     ve (.int .u64 (((n % 18446744073709551616).toNat : Nat) : Int)),
     ve (.int .u64 (((n % 18446744073709551616).toNat : Nat) : Int))] hs6 (.eq (.eq (.eq (.nil)))) ?_ ?_
  refine .o1 (tk rfl rfl fun _ w hn k => ⟨_, v_move rfl (k.fx 0 h8), rfl⟩) ?_
  refine .o1 (tk rfl rfl fun _ w hn k => ⟨_, v_conv rfl (k.eq1 0 4 rfl) (n_conv (by kernel_rfl) (by kernel_rfl) (by kernel_rfl) (of_conv n)), rfl⟩) ?_
  refine .o1 (tk rfl rfl fun _ w hn k => ⟨_, v_assign rfl (k.eq1 1 5 rfl), rfl⟩) ?_
  exact .nil
  intro a16 w17 hn18 ha19
  obtain ⟨hs20, hd21, hN26⟩ := aft ha19 hs6 hd7 hN14 hn18
  have h22 := ha19.fx 0 h8
  have h23 := ha19.fx 2 h9
  have h24 := ha19.ge 2 3 rfl
  have hb25 := hb12.new_ hn18
  refine st_nil (hK15 _ _ ?_)
  refine wp_seq_k fun K27 hK27 => ?_
  refine wp_seq_k fun K28 hK28 => ?_
  refine wp_g0 [true, true] [] 19
    [ve (iv n),
     ve (.bool (decide (n < 0)))] hs20 (.eq (.eq (.nil))) ?_ ?_
  refine .o1 (tk rfl rfl fun _ w hn k => ⟨_, v_move rfl (k.fx 0 h22), rfl⟩) ?_
  refine .o1 (tk rfl rfl fun _ w hn k => ⟨_, v_bin rfl (k.eq1 0 6 rfl) rfl (fun _ => rfl) (r_lssK rfl), rfl⟩) ?_
  exact .nil
  intro a29 w30 hn31 ha32
  obtain ⟨hs33, hd34, hN40⟩ := aft ha32 hs20 hd21 hN26 hn31
  have h35 := ha32.fx 0 h22
  have h36 := ha32.fx 2 h23
  have h37 := ha32.fx 3 h24
  have h38 := ha32.ge 1 7 rfl
  have hb39 := hb25.new_ hn31
  refine st_nil (hK28 _ _ ?_)
  rcases Bool.eq_false_or_eq_true (decide (n < 0)) with ht41 | ht41
  have ht41d := of_decide_eq_true ht41
  have hv42 := hB h38 ht41
  refine wp_cond_true hv42 ?_
  refine wp_g0 [true, true, false] [(2, true)] 19
    [ve (.int .u64 (((n % 18446744073709551616).toNat : Nat) : Int)),
     ve (.int .u64 (((-n).toNat : Nat) : Int)),
     vt] hs33 (.eq (.eq (.tt (.nil)))) ?_ ?_
  refine .o1 (tk rfl rfl fun _ w hn k => ⟨_, v_move rfl (k.fx 3 h37), rfl⟩) ?_
  refine .o1 (tk rfl rfl fun _ w hn k => ⟨_, v_negU rfl (k.eq1 0 8 rfl) (of_neg hlo (of_decide_eq_true ht41)), rfl⟩) ?_
  refine .off ?_
  exact .nil
  intro a43 w44 hn45 ha46
  obtain ⟨hs47, hd48, hN54⟩ := aft ha46 hs33 hd34 hN40 hn45
  have h49 := ha46.fx 0 h35
  have h50 := ha46.fx 2 h36
  have h51 := ha46.fx 3 h37
  have h52 := ha46.ge 1 9 rfl
  have hb53 := hb39.new_ hn45
  refine st_take rfl rfl (y_assign (v := .int .u64 (((-n).toNat : Nat) : Int)) rfl h52) rfl ?_
  obtain ⟨a55, ha56⟩ : ∃ a', a' = a43.put (some 3) (.int .u64 (((-n).toNat : Nat) : Int)) := ⟨_, rfl⟩
  have hs57 : a55.tmps.size = 19 := by rw [ha56, put_size]; exact hs47
  have hd58 : a55.defers = [] := by rw [ha56, put_defers]; exact hd48
  have h59 := pn ha56 h49 (by decide)
  have h60 := pn ha56 h50 (by decide)
  have h61 := pn ha56 h52 (by decide)
  have h62 : a55.eval (.tmp 3) = .int .u64 (((-n).toNat : Nat) : Int) := by rw [ha56]; exact put_same _ _ _ (by rw [hs47]; decide)
  show stepsTo _ _ _ _ _ (a43.put (some 3) (.int .u64 (((-n).toNat : Nat) : Int))) _
  rw [← ha56]
  refine st_nil (hK27 _ _ ?_)
  refine wp_seq_k fun K63 hK63 => ?_
  refine wp_g0 [true, true, true, true, true, true, true, true, true, false] [(9, false)] 19
    [ve (.int .u64 (((-n).toNat : Nat) : Int)),
     ve (.int .u32 ((((-n).toNat) % 4294967296 : Nat) : Int)),
     ve (.int .u64 (((-n).toNat : Nat) : Int)),
     ve (.int .u64 ((((-n).toNat) / 4294967296 : Nat) : Int)),
     ve (.int .u32 (((((-n).toNat) / 4294967296) % 4294967296 : Nat) : Int)),
     (fun (v_ : Value) (W : World) => ∃ (A3 : Option Addr) (c4 : Nat), v_ = sv A3 ([(((-n).toNat) % 4294967296), ((((-n).toNat) / 4294967296) % 4294967296)]) c4 ∧ SOwn W w44.heap.size 56 .u32 A3 ([(((-n).toNat) % 4294967296), ((((-n).toNat) / 4294967296) % 4294967296)]) c4),
     ve (iv n),
     ve (.bool true),
     (fun (v_ : Value) (W : World) => ∃ (A11 : Option Addr) (c12 : Nat), v_ = .agg #[.bool (decide (sgn true (val ([(((-n).toNat) % 4294967296), ((((-n).toNat) / 4294967296) % 4294967296)])) < 0)), sv A11 (canon (sgn true (val ([(((-n).toNat) % 4294967296), ((((-n).toNat) / 4294967296) % 4294967296)]))).natAbs) c12] ∧ SRow W .u32 A11 (canon (sgn true (val ([(((-n).toNat) % 4294967296), ((((-n).toNat) / 4294967296) % 4294967296)]))).natAbs) c12),
     vt] hs57 (.eq (.eq (.eq (.eq (.eq (.cons (fun v W W' hn ⟨A3, c4, he, h0⟩ => ⟨A3, c4, he, h0.new_ hn⟩) (.eq (.eq (.cons (fun v W W' hn ⟨A11, c12, he, h0⟩ => ⟨A11, c12, he, h0.new_ hn⟩) (.tt (.nil))))))))))) ?_ ?_
  refine .o1 (tk rfl rfl fun _ w hn k => ⟨_, v_move rfl (k.fx 3 h62), rfl⟩) ?_
  refine .o1 (tk rfl rfl fun _ w hn k => ⟨_, v_conv rfl (k.eq1 0 10 rfl) (n_conv (by kernel_rfl) (by kernel_rfl) (by kernel_rfl) (n_wrap32 _)), rfl⟩) ?_
  refine .o1 (tk rfl rfl fun _ w hn k => ⟨_, v_move rfl (k.fx 3 h62), rfl⟩) ?_
  refine .o1 (tk rfl rfl fun _ w hn k => ⟨_, v_bin rfl (k.eq1 2 12 rfl) rfl (fun _ => rfl) (n_shr ((-n).toNat) 32 (by decide)), rfl⟩) ?_
  refine .o1 (tk rfl rfl fun _ w hn k => ⟨_, v_conv rfl (k.eq1 3 13 rfl) (n_conv (by kernel_rfl) (by kernel_rfl) (by kernel_rfl) (n_wrap32 _)), rfl⟩) ?_
  refine .o1 (tkA rfl (noG rfl) fun _ w hn k => (by
        exact x_bslice (k := .u32) (ps := [(0, .int .u32 ((((-n).toNat) % 4294967296 : Nat) : Int)), (1, .int .u32 (((((-n).toNat) / 4294967296) % 4294967296 : Nat) : Int))]) [(((-n).toNat) % 4294967296), ((((-n).toNat) / 4294967296) % 4294967296)] rfl (parts2 (k.eq1 1 11 rfl) (k.eq1 4 14 rfl)) elW rfl (by omega) (by omega) (by first | kernel_rfl | (simp only [enc, List.map_cons, List.map_nil, Int.toNat_natCast, Int.toNat_of_nonneg (by omega : (0 : Int) ≤ _)]; kernel_rfl)) fun A1 c2 W' hmo => ⟨A1, c2, rfl, (hmo.more hn.size)⟩)) ?_
  refine .o1 (tk rfl rfl fun _ w hn k => ⟨_, v_move rfl (k.fx 0 h59), rfl⟩) ?_
  refine .o1 (tk rfl rfl fun _ w hn k => ⟨_, v_bin rfl (k.eq1 6 16 rfl) rfl (fun _ => rfl) (r_lssK ht41), rfl⟩) ?_
  refine .o1 (tkC rfl (noG rfl) rfl fun _ w hn k => (by
        obtain ⟨A5, c6, e7, hx8⟩ : (fun (v_ : Value) (W : World) => ∃ (A3 : Option Addr) (c4 : Nat), v_ = sv A3 ([(((-n).toNat) % 4294967296), ((((-n).toNat) / 4294967296) % 4294967296)]) c4 ∧ SOwn W w44.heap.size 56 .u32 A3 ([(((-n).toNat) % 4294967296), ((((-n).toNat) / 4294967296) % 4294967296)]) c4) _ _ := k.dep 5 15 (by kernel_rfl) (by kernel_rfl)
        refine ⟨#[sv A5 ([(((-n).toNat) % 4294967296), ((((-n).toNat) / 4294967296) % 4294967296)]) c6, .bool true], _, args2 e7 (k.eq1 7 17 rfl), fun w => by kernel_rfl, bmade_c _ ([(((-n).toNat) % 4294967296), ((((-n).toNat) / 4294967296) % 4294967296)]) _ true _ hx8.row (two_limbs_m _), ?_⟩
        rintro e w' ⟨A9, c10, rfl, hmo0, hm⟩
        exact ⟨_, rfl, hm, ⟨A9, c10, rfl, hmo0⟩⟩)) ?_
  refine .off ?_
  exact .nil
  intro a64 w65 hn66 ha67
  obtain ⟨hs68, hd69, hN76⟩ := aft ha67 hs57 hd58 hN54 hn66
  have h70 := ha67.fx 2 h60
  obtain ⟨A72, cc73, h71, hr74⟩ : (fun (v_ : Value) (W : World) => ∃ (A11 : Option Addr) (c12 : Nat), v_ = .agg #[.bool (decide (sgn true (val ([(((-n).toNat) % 4294967296), ((((-n).toNat) / 4294967296) % 4294967296)])) < 0)), sv A11 (canon (sgn true (val ([(((-n).toNat) % 4294967296), ((((-n).toNat) / 4294967296) % 4294967296)]))).natAbs) c12] ∧ SRow W .u32 A11 (canon (sgn true (val ([(((-n).toNat) % 4294967296), ((((-n).toNat) / 4294967296) % 4294967296)]))).natAbs) c12) _ _ := ha67.got 8 18 rfl (by kernel_rfl)
  have h71 : a64.eval (.tmp 18) = .agg #[.bool (decide (sgn true (val ([(((-n).toNat) % 4294967296), ((((-n).toNat) / 4294967296) % 4294967296)])) < 0)), sv A72 (canon (sgn true (val ([(((-n).toNat) % 4294967296), ((((-n).toNat) / 4294967296) % 4294967296)]))).natAbs) cc73] := h71
  have hb75 := hb53.new_ hn66
  obtain ⟨w77, -, hst78, hb79, hu80, hf81⟩ := s_two (v0 := .bool (decide (sgn true (val ([(((-n).toNat) % 4294967296), ((((-n).toNat) / 4294967296) % 4294967296)])) < 0))) (v1 := sv A72 (canon (sgn true (val ([(((-n).toNat) % 4294967296), ((((-n).toNat) / 4294967296) % 4294967296)]))).natAbs) cc73) Try.sizeOf26 rfl rfl rfl hb75
  refine st_act rfl rfl fun K82 hL83 => a_store' rfl h70 h71 hst78 (hL83 _ _ trivial ?_)
  have hr84 := hr74.far hb75 hu80 (by first | rfl | decide | simp [notK])
  have hN85 := hN76.trans hu80 (fun k hk hkb => by subst hkb; omega)
  refine st_nil (hK63 _ _ ?_)
  refine wp_ret (ret_k hd69 (v := .agg #[.bool (decide (sgn true (val ([(((-n).toNat) % 4294967296), ((((-n).toNat) / 4294967296) % 4294967296)])) < 0)), sv A72 (canon (sgn true (val ([(((-n).toNat) % 4294967296), ((((-n).toNat) / 4294967296) % 4294967296)]))).natAbs) cc73]) (res_c rfl h70 (l_two Try.isAgg26 Try.sizeOf26 hb79)) ?_)
  have hz1 : sgn true (val ([(((-n).toNat) % 4294967296), ((((-n).toNat) / 4294967296) % 4294967296)])) = n := of_yes hlo ht41
  exact ⟨A72, cc73, congrArg (fun z : Int => Ending.returned (Value.agg #[.bool (decide (z < 0)), sv A72 (canon z.natAbs) cc73])) hz1, Eq.mp (congrArg (fun z : Int => SRow _ .u32 A72 (canon z.natAbs) cc73) hz1) hr84, hN85⟩
  have ht41d := of_decide_eq_false ht41
  have hv86 := hB h38 ht41
  refine wp_cond_false hv86 ?_
  refine wp_skip ?_
  refine hK27 _ _ ?_
  refine wp_seq_k fun K87 hK87 => ?_
  refine wp_g0 [true, true, true, true, true, true, true, true, true, false] [(9, false)] 19
    [ve (.int .u64 (((n % 18446744073709551616).toNat : Nat) : Int)),
     ve (.int .u32 ((((n % 18446744073709551616).toNat) % 4294967296 : Nat) : Int)),
     ve (.int .u64 (((n % 18446744073709551616).toNat : Nat) : Int)),
     ve (.int .u64 ((((n % 18446744073709551616).toNat) / 4294967296 : Nat) : Int)),
     ve (.int .u32 (((((n % 18446744073709551616).toNat) / 4294967296) % 4294967296 : Nat) : Int)),
     (fun (v_ : Value) (W : World) => ∃ (A19 : Option Addr) (c20 : Nat), v_ = sv A19 ([(((n % 18446744073709551616).toNat) % 4294967296), ((((n % 18446744073709551616).toNat) / 4294967296) % 4294967296)]) c20 ∧ SOwn W w30.heap.size 56 .u32 A19 ([(((n % 18446744073709551616).toNat) % 4294967296), ((((n % 18446744073709551616).toNat) / 4294967296) % 4294967296)]) c20),
     ve (iv n),
     ve (.bool false),
     (fun (v_ : Value) (W : World) => ∃ (A27 : Option Addr) (c28 : Nat), v_ = .agg #[.bool (decide (sgn false (val ([(((n % 18446744073709551616).toNat) % 4294967296), ((((n % 18446744073709551616).toNat) / 4294967296) % 4294967296)])) < 0)), sv A27 (canon (sgn false (val ([(((n % 18446744073709551616).toNat) % 4294967296), ((((n % 18446744073709551616).toNat) / 4294967296) % 4294967296)]))).natAbs) c28] ∧ SRow W .u32 A27 (canon (sgn false (val ([(((n % 18446744073709551616).toNat) % 4294967296), ((((n % 18446744073709551616).toNat) / 4294967296) % 4294967296)]))).natAbs) c28),
     vt] hs33 (.eq (.eq (.eq (.eq (.eq (.cons (fun v W W' hn ⟨A19, c20, he, h0⟩ => ⟨A19, c20, he, h0.new_ hn⟩) (.eq (.eq (.cons (fun v W W' hn ⟨A27, c28, he, h0⟩ => ⟨A27, c28, he, h0.new_ hn⟩) (.tt (.nil))))))))))) ?_ ?_
  refine .o1 (tk rfl rfl fun _ w hn k => ⟨_, v_move rfl (k.fx 3 h37), rfl⟩) ?_
  refine .o1 (tk rfl rfl fun _ w hn k => ⟨_, v_conv rfl (k.eq1 0 10 rfl) (n_conv (by kernel_rfl) (by kernel_rfl) (by kernel_rfl) (n_wrap32 _)), rfl⟩) ?_
  refine .o1 (tk rfl rfl fun _ w hn k => ⟨_, v_move rfl (k.fx 3 h37), rfl⟩) ?_
  refine .o1 (tk rfl rfl fun _ w hn k => ⟨_, v_bin rfl (k.eq1 2 12 rfl) rfl (fun _ => rfl) (n_shr ((n % 18446744073709551616).toNat) 32 (by decide)), rfl⟩) ?_
  refine .o1 (tk rfl rfl fun _ w hn k => ⟨_, v_conv rfl (k.eq1 3 13 rfl) (n_conv (by kernel_rfl) (by kernel_rfl) (by kernel_rfl) (n_wrap32 _)), rfl⟩) ?_
  refine .o1 (tkA rfl (noG rfl) fun _ w hn k => (by
        exact x_bslice (k := .u32) (ps := [(0, .int .u32 ((((n % 18446744073709551616).toNat) % 4294967296 : Nat) : Int)), (1, .int .u32 (((((n % 18446744073709551616).toNat) / 4294967296) % 4294967296 : Nat) : Int))]) [(((n % 18446744073709551616).toNat) % 4294967296), ((((n % 18446744073709551616).toNat) / 4294967296) % 4294967296)] rfl (parts2 (k.eq1 1 11 rfl) (k.eq1 4 14 rfl)) elW rfl (by omega) (by omega) (by first | kernel_rfl | (simp only [enc, List.map_cons, List.map_nil, Int.toNat_natCast, Int.toNat_of_nonneg (by omega : (0 : Int) ≤ _)]; kernel_rfl)) fun A17 c18 W' hmo => ⟨A17, c18, rfl, (hmo.more hn.size)⟩)) ?_
  refine .o1 (tk rfl rfl fun _ w hn k => ⟨_, v_move rfl (k.fx 0 h35), rfl⟩) ?_
  refine .o1 (tk rfl rfl fun _ w hn k => ⟨_, v_bin rfl (k.eq1 6 16 rfl) rfl (fun _ => rfl) (r_lssK ht41), rfl⟩) ?_
  refine .o1 (tkC rfl (noG rfl) rfl fun _ w hn k => (by
        obtain ⟨A21, c22, e23, hx24⟩ : (fun (v_ : Value) (W : World) => ∃ (A19 : Option Addr) (c20 : Nat), v_ = sv A19 ([(((n % 18446744073709551616).toNat) % 4294967296), ((((n % 18446744073709551616).toNat) / 4294967296) % 4294967296)]) c20 ∧ SOwn W w30.heap.size 56 .u32 A19 ([(((n % 18446744073709551616).toNat) % 4294967296), ((((n % 18446744073709551616).toNat) / 4294967296) % 4294967296)]) c20) _ _ := k.dep 5 15 (by kernel_rfl) (by kernel_rfl)
        refine ⟨#[sv A21 ([(((n % 18446744073709551616).toNat) % 4294967296), ((((n % 18446744073709551616).toNat) / 4294967296) % 4294967296)]) c22, .bool false], _, args2 e23 (k.eq1 7 17 rfl), fun w => by kernel_rfl, bmade_c _ ([(((n % 18446744073709551616).toNat) % 4294967296), ((((n % 18446744073709551616).toNat) / 4294967296) % 4294967296)]) _ false _ hx24.row (two_limbs_m _), ?_⟩
        rintro e w' ⟨A25, c26, rfl, hmo0, hm⟩
        exact ⟨_, rfl, hm, ⟨A25, c26, rfl, hmo0⟩⟩)) ?_
  refine .off ?_
  exact .nil
  intro a88 w89 hn90 ha91
  obtain ⟨hs92, hd93, hN100⟩ := aft ha91 hs33 hd34 hN40 hn90
  have h94 := ha91.fx 2 h36
  obtain ⟨A96, cc97, h95, hr98⟩ : (fun (v_ : Value) (W : World) => ∃ (A27 : Option Addr) (c28 : Nat), v_ = .agg #[.bool (decide (sgn false (val ([(((n % 18446744073709551616).toNat) % 4294967296), ((((n % 18446744073709551616).toNat) / 4294967296) % 4294967296)])) < 0)), sv A27 (canon (sgn false (val ([(((n % 18446744073709551616).toNat) % 4294967296), ((((n % 18446744073709551616).toNat) / 4294967296) % 4294967296)]))).natAbs) c28] ∧ SRow W .u32 A27 (canon (sgn false (val ([(((n % 18446744073709551616).toNat) % 4294967296), ((((n % 18446744073709551616).toNat) / 4294967296) % 4294967296)]))).natAbs) c28) _ _ := ha91.got 8 18 rfl (by kernel_rfl)
  have h95 : a88.eval (.tmp 18) = .agg #[.bool (decide (sgn false (val ([(((n % 18446744073709551616).toNat) % 4294967296), ((((n % 18446744073709551616).toNat) / 4294967296) % 4294967296)])) < 0)), sv A96 (canon (sgn false (val ([(((n % 18446744073709551616).toNat) % 4294967296), ((((n % 18446744073709551616).toNat) / 4294967296) % 4294967296)]))).natAbs) cc97] := h95
  have hb99 := hb39.new_ hn90
  obtain ⟨w101, -, hst102, hb103, hu104, hf105⟩ := s_two (v0 := .bool (decide (sgn false (val ([(((n % 18446744073709551616).toNat) % 4294967296), ((((n % 18446744073709551616).toNat) / 4294967296) % 4294967296)])) < 0))) (v1 := sv A96 (canon (sgn false (val ([(((n % 18446744073709551616).toNat) % 4294967296), ((((n % 18446744073709551616).toNat) / 4294967296) % 4294967296)]))).natAbs) cc97) Try.sizeOf26 rfl rfl rfl hb99
  refine st_act rfl rfl fun K106 hL107 => a_store' rfl h94 h95 hst102 (hL107 _ _ trivial ?_)
  have hr108 := hr98.far hb99 hu104 (by first | rfl | decide | simp [notK])
  have hN109 := hN100.trans hu104 (fun k hk hkb => by subst hkb; omega)
  refine st_nil (hK87 _ _ ?_)
  refine wp_ret (ret_k hd93 (v := .agg #[.bool (decide (sgn false (val ([(((n % 18446744073709551616).toNat) % 4294967296), ((((n % 18446744073709551616).toNat) / 4294967296) % 4294967296)])) < 0)), sv A96 (canon (sgn false (val ([(((n % 18446744073709551616).toNat) % 4294967296), ((((n % 18446744073709551616).toNat) / 4294967296) % 4294967296)]))).natAbs) cc97]) (res_c rfl h94 (l_two Try.isAgg26 Try.sizeOf26 hb103)) ?_)
  have hz1 : sgn false (val ([(((n % 18446744073709551616).toNat) % 4294967296), ((((n % 18446744073709551616).toNat) / 4294967296) % 4294967296)])) = n := of_no hhi ht41
  exact ⟨A96, cc97, congrArg (fun z : Int => Ending.returned (Value.agg #[.bool (decide (z < 0)), sv A96 (canon z.natAbs) cc97])) hz1, Eq.mp (congrArg (fun z : Int => SRow _ .u32 A96 (canon z.natAbs) cc97) hz1) hr108, hN109⟩
set_option maxHeartbeats 4000000 in
set_option maxRecDepth 100000 in
theorem sequal32_c (Aa : Option Addr) (a : List Nat) (ca : Nat) (Ab : Option Addr) (b : List Nat) (cb : Nat) (w : World) (hra : SRow w .u32 Aa a ca) (hrb : SRow w .u32 Ab b cb) : Calls Try.prog 54 #[sv Aa a ca, sv Ab b cb] w (IsRet (.bool (decide (a = b))) w) := by
  refine enter_abs Try.func54 rfl fun a0 hs0 hd0 hp => ?_
  have hs0 : a0.tmps.size = 26 := hs0
  have hN0 : New w w := Upd.refl _ _
  have hp0 : a0.eval (.tmp 0) = sv Aa a ca := hp 0 _ rfl
  have hp1 : a0.eval (.tmp 1) = sv Ab b cb := hp 1 _ rfl
  have hmx := hra.max
  have hmy := hrb.max
  refine wp_seq_k fun K1 hK1 => ?_
  refine wp_g0 [true] [] 26
    [ve (.bool false)] hs0 (.eq (.nil)) ?_ ?_
  refine .o1 (tk rfl rfl fun _ w hn k => ⟨_, v_assign rfl rfl, rfl⟩) ?_
  exact .nil
  intro a2 w3 hn4 ha5
  obtain ⟨hs6, hd7, hN10⟩ := aft ha5 hs0 hd0 hN0 hn4
  have h8 := ha5.fx 0 hp0
  have h9 := ha5.fx 1 hp1
  refine st_nil (hK1 _ _ ?_)
  refine wp_seq_k fun K11 hK11 => ?_
  refine wp_seq_k fun K12 hK12 => ?_
  rcases Bool.eq_false_or_eq_true (decide ((a.length : Int) = (b.length : Int))) with ht13 | ht13
  have ht13d := of_decide_eq_true ht13
  refine wp_g0 [true, true, true, true, true] [] 26
    [ve (sv Aa a ca),
     ve (iv (a.length : Int)),
     ve (sv Ab b cb),
     ve (iv (b.length : Int)),
     ve (.bool false)] hs6 (.eq (.eq (.eq (.eq (.eq (.nil)))))) ?_ ?_
  refine .o1 (tk rfl rfl fun _ w hn k => ⟨_, v_move rfl (k.fx 0 h8), rfl⟩) ?_
  refine .o1 (tk rfl rfl fun _ w hn k => ⟨_, v_lenR rfl elW (k.eq1 0 6 rfl), rfl⟩) ?_
  refine .o1 (tk rfl rfl fun _ w hn k => ⟨_, v_move rfl (k.fx 1 h9), rfl⟩) ?_
  refine .o1 (tk rfl rfl fun _ w hn k => ⟨_, v_lenR rfl elW (k.eq1 2 8 rfl), rfl⟩) ?_
  refine .o1 (tk rfl rfl fun _ w hn k => ⟨_, v_bin rfl (k.eq1 1 7 rfl) (k.eq1 3 9 rfl) (fun _ => rfl) (r_neq ht13), rfl⟩) ?_
  exact .nil
  intro a14 w15 hn16 ha17
  obtain ⟨hs18, hd19, hN23⟩ := aft ha17 hs6 hd7 hN10 hn16
  have h20 := ha17.fx 0 h8
  have h21 := ha17.fx 1 h9
  have h22 := ha17.ge 4 10 rfl
  refine st_nil (hK12 _ _ ?_)
  refine wp_cond_false h22 ?_
  refine wp_skip ?_
  refine hK11 _ _ ?_
  refine wp_seq_k fun K24 hK24 => ?_
  refine wp_seq_k fun K25 hK25 => ?_
  refine wp_g0 [true, true, true] [] 26
    [ve (sv Aa a ca),
     ve (iv (a.length : Int)),
     ve (iv 0)] hs18 (.eq (.eq (.eq (.nil)))) ?_ ?_
  refine .o1 (tk rfl rfl fun _ w hn k => ⟨_, v_move rfl (k.fx 0 h20), rfl⟩) ?_
  refine .o1 (tk rfl rfl fun _ w hn k => ⟨_, v_lenR rfl elW (k.eq1 0 11 rfl), rfl⟩) ?_
  refine .o1 (tk rfl rfl fun _ w hn k => ⟨_, v_move rfl rfl, rfl⟩) ?_
  exact .nil
  intro a26 w27 hn28 ha29
  obtain ⟨hs30, hd31, hN36⟩ := aft ha29 hs18 hd19 hN23 hn28
  have h32 := ha29.fx 0 h20
  have h33 := ha29.fx 1 h21
  have h34 := ha29.ge 1 12 rfl
  have h35 := ha29.ge 2 13 rfl
  refine st_nil (hK25 _ _ ?_)
  refine wp_block ?_
  refine wp_loopX (fun (mm : Nat) (aa : Act) (ww : World) => ∃ (i : Nat), mm = a.length - i ∧ aa.tmps.size = 26 ∧ aa.defers = [] ∧ New w ww ∧ aa.eval (.tmp 13) = iv (i : Int) ∧ aa.eval (.tmp 0) = sv Aa a ca ∧ aa.eval (.tmp 1) = sv Ab b cb ∧ aa.eval (.tmp 12) = iv (a.length : Int) ∧ (i ≤ a.length) ∧ (∀ j, j < i → a.getD j 0 = b.getD j 0)) (fun mm => mm) ⟨_, ⟨0, rfl, hs30, hd31, hN36, h35, h32, h33, h34, (Nat.zero_le _), (fun j h => absurd h (Nat.not_lt_zero _))⟩⟩ ?_
  rintro mm a37 w38 ⟨i, hmm, hs39, hd40, hN41, h42, h43, h44, h45, hi, heq⟩
  refine wp_seq_k fun K46 hK46 => ?_
  refine wp_g0 [true] [] 26
    [ve (.bool (decide ((i : Int) < (a.length : Int))))] hs39 (.eq (.nil)) ?_ ?_
  refine .o1 (tk rfl rfl fun _ w hn k => ⟨_, v_bin rfl (k.fx 13 h42) (k.fx 12 h45) (fun _ => rfl) (r_lssK rfl), rfl⟩) ?_
  exact .nil
  intro a47 w48 hn49 ha50
  obtain ⟨hs51, hd52, hN58⟩ := aft ha50 hs39 hd40 hN41 hn49
  have h53 := ha50.fx 13 h42
  have h54 := ha50.fx 0 h43
  have h55 := ha50.fx 1 h44
  have h56 := ha50.fx 12 h45
  have h57 := ha50.ge 0 14 rfl
  refine st_nil (hK46 _ _ ?_)
  refine wp_seq_k fun K59 hK59 => ?_
  rcases Bool.eq_false_or_eq_true (decide ((i : Int) < (a.length : Int))) with ht60 | ht60
  have ht60d := of_decide_eq_true ht60
  have hv61 := hB h57 ht60
  refine wp_cond_true hv61 ?_
  refine wp_skip ?_
  refine hK59 _ _ ?_
  refine wp_seq_k fun K62 hK62 => ?_
  refine wp_block ?_
  refine wp_seq_k fun K63 hK63 => ?_
  refine wp_g0 [true, true] [] 26
    [ve (iv (i : Int)),
     ve (iv (i : Int))] hs51 (.eq (.eq (.nil))) ?_ ?_
  refine .o1 (tk rfl rfl fun _ w hn k => ⟨_, v_move rfl (k.fx 13 h53), rfl⟩) ?_
  refine .o1 (tk rfl rfl fun _ w hn k => ⟨_, v_assign rfl (k.eq1 0 15 rfl), rfl⟩) ?_
  exact .nil
  intro a64 w65 hn66 ha67
  obtain ⟨hs68, hd69, hN75⟩ := aft ha67 hs51 hd52 hN58 hn66
  have h70 := ha67.fx 13 h53
  have h71 := ha67.fx 0 h54
  have h72 := ha67.fx 1 h55
  have h73 := ha67.fx 12 h56
  have h74 := ha67.ge 1 5 rfl
  refine st_nil (hK63 _ _ ?_)
  refine wp_seq_k fun K76 hK76 => ?_
  rcases Bool.eq_false_or_eq_true (decide (((a.getD i 0 : Nat) : Int) = ((b.getD i 0 : Nat) : Int))) with ht77 | ht77
  have ht77d := of_decide_eq_true ht77
  refine wp_g0 [true, true, true, true, true, true, true, true, true] [] 26
    [ve (sv Aa a ca),
     ve (iv (i : Int)),
     (fun (v_ : Value) (W : World) => ∃ (b19 : Nat) (o20 : Nat), v_ = .pointer (some ⟨b19, o20, none⟩) ∧ SElem W b19 o20 (.int .u32 ((a.getD i 0 : Nat) : Int))),
     ve (.int .u32 ((a.getD i 0 : Nat) : Int)),
     ve (sv Ab b cb),
     ve (iv (i : Int)),
     (fun (v_ : Value) (W : World) => ∃ (b27 : Nat) (o28 : Nat), v_ = .pointer (some ⟨b27, o28, none⟩) ∧ SElem W b27 o28 (.int .u32 ((b.getD i 0 : Nat) : Int))),
     ve (.int .u32 ((b.getD i 0 : Nat) : Int)),
     ve (.bool false)] hs68 (.eq (.eq (.cons (fun v W W' hn ⟨b19, o20, he, h0⟩ => ⟨b19, o20, he, h0.new_ hn⟩) (.eq (.eq (.eq (.cons (fun v W W' hn ⟨b27, o28, he, h0⟩ => ⟨b27, o28, he, h0.new_ hn⟩) (.eq (.eq (.nil)))))))))) ?_ ?_
  refine .o1 (tk rfl rfl fun _ w hn k => ⟨_, v_move rfl (k.fx 0 h71), rfl⟩) ?_
  refine .o1 (tk rfl rfl fun _ w hn k => ⟨_, v_move rfl (k.fx 5 h74), rfl⟩) ?_
  refine .o1 (tk rfl rfl fun _ w hn k => (by
        exact x_eaddr (k := .u32) rfl elW (k.eq1 0 16 rfl) (k.eq1 1 17 rfl) (hra.new_ (hN75.transNew hn)) (by omega) fun b17 o18 hme => ⟨b17, o18, rfl, hme⟩)) ?_
  refine .o1 (tk rfl rfl fun _ w hn k => (by
        obtain ⟨b21, o22, e23, hx24⟩ : (fun (v_ : Value) (W : World) => ∃ (b19 : Nat) (o20 : Nat), v_ = .pointer (some ⟨b19, o20, none⟩) ∧ SElem W b19 o20 (.int .u32 ((a.getD i 0 : Nat) : Int))) _ _ := k.dep 2 18 (by kernel_rfl) (by kernel_rfl)
        exact ⟨_, v_load rfl e23 (l_one Try.isAgg56 hx24.1), rfl⟩)) ?_
  refine .o1 (tk rfl rfl fun _ w hn k => ⟨_, v_move rfl (k.fx 1 h72), rfl⟩) ?_
  refine .o1 (tk rfl rfl fun _ w hn k => ⟨_, v_move rfl (k.fx 5 h74), rfl⟩) ?_
  refine .o1 (tk rfl rfl fun _ w hn k => (by
        exact x_eaddr (k := .u32) rfl elW (k.eq1 4 20 rfl) (k.eq1 5 21 rfl) (hrb.new_ (hN75.transNew hn)) (by omega) fun b25 o26 hme => ⟨b25, o26, rfl, hme⟩)) ?_
  refine .o1 (tk rfl rfl fun _ w hn k => (by
        obtain ⟨b29, o30, e31, hx32⟩ : (fun (v_ : Value) (W : World) => ∃ (b27 : Nat) (o28 : Nat), v_ = .pointer (some ⟨b27, o28, none⟩) ∧ SElem W b27 o28 (.int .u32 ((b.getD i 0 : Nat) : Int))) _ _ := k.dep 6 22 (by kernel_rfl) (by kernel_rfl)
        exact ⟨_, v_load rfl e31 (l_one Try.isAgg56 hx32.1), rfl⟩)) ?_
  refine .o1 (tk rfl rfl fun _ w hn k => ⟨_, v_bin rfl (k.eq1 3 19 rfl) (k.eq1 7 23 rfl) (fun _ => rfl) (r_neq ht77), rfl⟩) ?_
  exact .nil
  intro a78 w79 hn80 ha81
  obtain ⟨hs82, hd83, hN89⟩ := aft ha81 hs68 hd69 hN75 hn80
  have h84 := ha81.fx 13 h70
  have h85 := ha81.fx 0 h71
  have h86 := ha81.fx 1 h72
  have h87 := ha81.fx 12 h73
  have h88 := ha81.ge 8 24 rfl
  refine st_nil (hK76 _ _ ?_)
  refine wp_cond_false h88 ?_
  refine wp_skip ?_
  refine hK62 _ _ ?_
  refine wp_g0 [true, false] [(1, true)] 26
    [ve (iv ((i + 1 : Nat) : Int)),
     vt] hs82 (.eq (.tt (.nil))) ?_ ?_
  refine .o1 (tk rfl rfl fun _ w hn k => ⟨_, v_bin rfl (k.fx 13 h84) rfl (fun _ => rfl) (n_add (by omega) (IntWalk.i64_in _ (by omega))), rfl⟩) ?_
  refine .off ?_
  exact .nil
  intro a90 w91 hn92 ha93
  obtain ⟨hs94, hd95, hN101⟩ := aft ha93 hs82 hd83 hN89 hn92
  have h96 := ha93.fx 13 h84
  have h97 := ha93.fx 0 h85
  have h98 := ha93.fx 1 h86
  have h99 := ha93.fx 12 h87
  have h100 := ha93.ge 0 25 rfl
  refine st_take rfl rfl (y_move (v := iv ((i + 1 : Nat) : Int)) rfl h100) rfl ?_
  obtain ⟨a102, ha103⟩ : ∃ a', a' = a90.put (some 13) (iv ((i + 1 : Nat) : Int)) := ⟨_, rfl⟩
  have hs104 : a102.tmps.size = 26 := by rw [ha103, put_size]; exact hs94
  have hd105 : a102.defers = [] := by rw [ha103, put_defers]; exact hd95
  have h106 := pn ha103 h97 (by decide)
  have h107 := pn ha103 h98 (by decide)
  have h108 := pn ha103 h99 (by decide)
  have h109 := pn ha103 h100 (by decide)
  have h110 : a102.eval (.tmp 13) = iv ((i + 1 : Nat) : Int) := by rw [ha103]; exact put_same _ _ _ (by rw [hs94]; decide)
  show stepsTo _ _ _ _ _ (a90.put (some 13) (iv ((i + 1 : Nat) : Int))) _
  rw [← ha103]
  refine st_nil ?_
  refine then_n ?_
  exact ⟨_, ⟨i + 1, rfl, hs104, hd105, hN101, (h110.trans (congrArg (Value.int .i64) (by omega))), h106, h107, h108, (by omega), (eq_up heq (by omega) ht77)⟩, (by omega)⟩
  have ht77d := of_decide_eq_false ht77
  refine wp_g0 [true, true, true, true, true, true, true, true, true] [] 26
    [ve (sv Aa a ca),
     ve (iv (i : Int)),
     (fun (v_ : Value) (W : World) => ∃ (b35 : Nat) (o36 : Nat), v_ = .pointer (some ⟨b35, o36, none⟩) ∧ SElem W b35 o36 (.int .u32 ((a.getD i 0 : Nat) : Int))),
     ve (.int .u32 ((a.getD i 0 : Nat) : Int)),
     ve (sv Ab b cb),
     ve (iv (i : Int)),
     (fun (v_ : Value) (W : World) => ∃ (b43 : Nat) (o44 : Nat), v_ = .pointer (some ⟨b43, o44, none⟩) ∧ SElem W b43 o44 (.int .u32 ((b.getD i 0 : Nat) : Int))),
     ve (.int .u32 ((b.getD i 0 : Nat) : Int)),
     ve (.bool true)] hs68 (.eq (.eq (.cons (fun v W W' hn ⟨b35, o36, he, h0⟩ => ⟨b35, o36, he, h0.new_ hn⟩) (.eq (.eq (.eq (.cons (fun v W W' hn ⟨b43, o44, he, h0⟩ => ⟨b43, o44, he, h0.new_ hn⟩) (.eq (.eq (.nil)))))))))) ?_ ?_
  refine .o1 (tk rfl rfl fun _ w hn k => ⟨_, v_move rfl (k.fx 0 h71), rfl⟩) ?_
  refine .o1 (tk rfl rfl fun _ w hn k => ⟨_, v_move rfl (k.fx 5 h74), rfl⟩) ?_
  refine .o1 (tk rfl rfl fun _ w hn k => (by
        exact x_eaddr (k := .u32) rfl elW (k.eq1 0 16 rfl) (k.eq1 1 17 rfl) (hra.new_ (hN75.transNew hn)) (by omega) fun b33 o34 hme => ⟨b33, o34, rfl, hme⟩)) ?_
  refine .o1 (tk rfl rfl fun _ w hn k => (by
        obtain ⟨b37, o38, e39, hx40⟩ : (fun (v_ : Value) (W : World) => ∃ (b35 : Nat) (o36 : Nat), v_ = .pointer (some ⟨b35, o36, none⟩) ∧ SElem W b35 o36 (.int .u32 ((a.getD i 0 : Nat) : Int))) _ _ := k.dep 2 18 (by kernel_rfl) (by kernel_rfl)
        exact ⟨_, v_load rfl e39 (l_one Try.isAgg56 hx40.1), rfl⟩)) ?_
  refine .o1 (tk rfl rfl fun _ w hn k => ⟨_, v_move rfl (k.fx 1 h72), rfl⟩) ?_
  refine .o1 (tk rfl rfl fun _ w hn k => ⟨_, v_move rfl (k.fx 5 h74), rfl⟩) ?_
  refine .o1 (tk rfl rfl fun _ w hn k => (by
        exact x_eaddr (k := .u32) rfl elW (k.eq1 4 20 rfl) (k.eq1 5 21 rfl) (hrb.new_ (hN75.transNew hn)) (by omega) fun b41 o42 hme => ⟨b41, o42, rfl, hme⟩)) ?_
  refine .o1 (tk rfl rfl fun _ w hn k => (by
        obtain ⟨b45, o46, e47, hx48⟩ : (fun (v_ : Value) (W : World) => ∃ (b43 : Nat) (o44 : Nat), v_ = .pointer (some ⟨b43, o44, none⟩) ∧ SElem W b43 o44 (.int .u32 ((b.getD i 0 : Nat) : Int))) _ _ := k.dep 6 22 (by kernel_rfl) (by kernel_rfl)
        exact ⟨_, v_load rfl e47 (l_one Try.isAgg56 hx48.1), rfl⟩)) ?_
  refine .o1 (tk rfl rfl fun _ w hn k => ⟨_, v_bin rfl (k.eq1 3 19 rfl) (k.eq1 7 23 rfl) (fun _ => rfl) (r_neq ht77), rfl⟩) ?_
  exact .nil
  intro a111 w112 hn113 ha114
  obtain ⟨hs115, hd116, hN122⟩ := aft ha114 hs68 hd69 hN75 hn113
  have h117 := ha114.fx 13 h70
  have h118 := ha114.fx 0 h71
  have h119 := ha114.fx 1 h72
  have h120 := ha114.fx 12 h73
  have h121 := ha114.ge 8 24 rfl
  refine st_nil (hK76 _ _ ?_)
  refine wp_cond_true h121 ?_
  refine wp_seq_k fun K123 hK123 => ?_
  refine wp_g0 [true] [] 26
    [ve (.bool false)] hs115 (.eq (.nil)) ?_ ?_
  refine .o1 (tk rfl rfl fun _ w hn k => ⟨_, v_assign rfl rfl, rfl⟩) ?_
  exact .nil
  intro a124 w125 hn126 ha127
  obtain ⟨hs128, hd129, hN131⟩ := aft ha127 hs115 hd116 hN122 hn126
  have h130 := ha127.ge 0 4 rfl
  refine st_nil (hK123 _ _ ?_)
  refine wp_ret (ret_k hd129 (v := .bool false) (res_t rfl h130 _) ?_)
  exact ⟨by rw [decide_eq_false (fun e => by rw [e] at ht77d; exact ht77d rfl)], hN131⟩
  have ht60d := of_decide_eq_false ht60
  have hv132 := hB h57 ht60
  refine wp_cond_false hv132 ?_
  refine wp_exit ?_
  refine hK24 _ _ ?_
  refine wp_seq_k fun K133 hK133 => ?_
  refine wp_g0 [true] [] 26
    [ve (.bool true)] hs51 (.eq (.nil)) ?_ ?_
  refine .o1 (tk rfl rfl fun _ w hn k => ⟨_, v_assign rfl rfl, rfl⟩) ?_
  exact .nil
  intro a134 w135 hn136 ha137
  obtain ⟨hs138, hd139, hN141⟩ := aft ha137 hs51 hd52 hN58 hn136
  have h140 := ha137.ge 0 4 rfl
  refine st_nil (hK133 _ _ ?_)
  refine wp_ret (ret_k hd139 (v := .bool true) (res_t rfl h140 _) ?_)
  exact ⟨by rw [decide_eq_true (eq_all (by omega) (by omega : i = a.length) heq)], hN141⟩
  have ht13d := of_decide_eq_false ht13
  refine wp_g0 [true, true, true, true, true] [] 26
    [ve (sv Aa a ca),
     ve (iv (a.length : Int)),
     ve (sv Ab b cb),
     ve (iv (b.length : Int)),
     ve (.bool true)] hs6 (.eq (.eq (.eq (.eq (.eq (.nil)))))) ?_ ?_
  refine .o1 (tk rfl rfl fun _ w hn k => ⟨_, v_move rfl (k.fx 0 h8), rfl⟩) ?_
  refine .o1 (tk rfl rfl fun _ w hn k => ⟨_, v_lenR rfl elW (k.eq1 0 6 rfl), rfl⟩) ?_
  refine .o1 (tk rfl rfl fun _ w hn k => ⟨_, v_move rfl (k.fx 1 h9), rfl⟩) ?_
  refine .o1 (tk rfl rfl fun _ w hn k => ⟨_, v_lenR rfl elW (k.eq1 2 8 rfl), rfl⟩) ?_
  refine .o1 (tk rfl rfl fun _ w hn k => ⟨_, v_bin rfl (k.eq1 1 7 rfl) (k.eq1 3 9 rfl) (fun _ => rfl) (r_neq ht13), rfl⟩) ?_
  exact .nil
  intro a142 w143 hn144 ha145
  obtain ⟨hs146, hd147, hN151⟩ := aft ha145 hs6 hd7 hN10 hn144
  have h148 := ha145.fx 0 h8
  have h149 := ha145.fx 1 h9
  have h150 := ha145.ge 4 10 rfl
  refine st_nil (hK12 _ _ ?_)
  refine wp_cond_true h150 ?_
  refine wp_seq_k fun K152 hK152 => ?_
  refine wp_g0 [true] [] 26
    [ve (.bool false)] hs146 (.eq (.nil)) ?_ ?_
  refine .o1 (tk rfl rfl fun _ w hn k => ⟨_, v_assign rfl rfl, rfl⟩) ?_
  exact .nil
  intro a153 w154 hn155 ha156
  obtain ⟨hs157, hd158, hN160⟩ := aft ha156 hs146 hd147 hN151 hn155
  have h159 := ha156.ge 0 4 rfl
  refine st_nil (hK152 _ _ ?_)
  refine wp_ret (ret_k hd158 (v := .bool false) (res_t rfl h159 _) ?_)
  exact ⟨by rw [decide_eq_false (fun e => by rw [e] at ht13d; exact ht13d rfl)], hN160⟩
set_option maxHeartbeats 4000000 in
set_option maxRecDepth 100000 in
theorem sequal16_c (Aa : Option Addr) (a : List Nat) (ca : Nat) (Ab : Option Addr) (b : List Nat) (cb : Nat) (w : World) (hra : SRow w .u16 Aa a ca) (hrb : SRow w .u16 Ab b cb) : Calls Try.prog 55 #[sv Aa a ca, sv Ab b cb] w (IsRet (.bool (decide (a = b))) w) := by
  refine enter_abs Try.func55 rfl fun a0 hs0 hd0 hp => ?_
  have hs0 : a0.tmps.size = 26 := hs0
  have hN0 : New w w := Upd.refl _ _
  have hp0 : a0.eval (.tmp 0) = sv Aa a ca := hp 0 _ rfl
  have hp1 : a0.eval (.tmp 1) = sv Ab b cb := hp 1 _ rfl
  have hmx := hra.max
  have hmy := hrb.max
  refine wp_seq_k fun K1 hK1 => ?_
  refine wp_g0 [true] [] 26
    [ve (.bool false)] hs0 (.eq (.nil)) ?_ ?_
  refine .o1 (tk rfl rfl fun _ w hn k => ⟨_, v_assign rfl rfl, rfl⟩) ?_
  exact .nil
  intro a2 w3 hn4 ha5
  obtain ⟨hs6, hd7, hN10⟩ := aft ha5 hs0 hd0 hN0 hn4
  have h8 := ha5.fx 0 hp0
  have h9 := ha5.fx 1 hp1
  refine st_nil (hK1 _ _ ?_)
  refine wp_seq_k fun K11 hK11 => ?_
  refine wp_seq_k fun K12 hK12 => ?_
  rcases Bool.eq_false_or_eq_true (decide ((a.length : Int) = (b.length : Int))) with ht13 | ht13
  have ht13d := of_decide_eq_true ht13
  refine wp_g0 [true, true, true, true, true] [] 26
    [ve (sv Aa a ca),
     ve (iv (a.length : Int)),
     ve (sv Ab b cb),
     ve (iv (b.length : Int)),
     ve (.bool false)] hs6 (.eq (.eq (.eq (.eq (.eq (.nil)))))) ?_ ?_
  refine .o1 (tk rfl rfl fun _ w hn k => ⟨_, v_move rfl (k.fx 0 h8), rfl⟩) ?_
  refine .o1 (tk rfl rfl fun _ w hn k => ⟨_, v_lenR rfl elU (k.eq1 0 6 rfl), rfl⟩) ?_
  refine .o1 (tk rfl rfl fun _ w hn k => ⟨_, v_move rfl (k.fx 1 h9), rfl⟩) ?_
  refine .o1 (tk rfl rfl fun _ w hn k => ⟨_, v_lenR rfl elU (k.eq1 2 8 rfl), rfl⟩) ?_
  refine .o1 (tk rfl rfl fun _ w hn k => ⟨_, v_bin rfl (k.eq1 1 7 rfl) (k.eq1 3 9 rfl) (fun _ => rfl) (r_neq ht13), rfl⟩) ?_
  exact .nil
  intro a14 w15 hn16 ha17
  obtain ⟨hs18, hd19, hN23⟩ := aft ha17 hs6 hd7 hN10 hn16
  have h20 := ha17.fx 0 h8
  have h21 := ha17.fx 1 h9
  have h22 := ha17.ge 4 10 rfl
  refine st_nil (hK12 _ _ ?_)
  refine wp_cond_false h22 ?_
  refine wp_skip ?_
  refine hK11 _ _ ?_
  refine wp_seq_k fun K24 hK24 => ?_
  refine wp_seq_k fun K25 hK25 => ?_
  refine wp_g0 [true, true, true] [] 26
    [ve (sv Aa a ca),
     ve (iv (a.length : Int)),
     ve (iv 0)] hs18 (.eq (.eq (.eq (.nil)))) ?_ ?_
  refine .o1 (tk rfl rfl fun _ w hn k => ⟨_, v_move rfl (k.fx 0 h20), rfl⟩) ?_
  refine .o1 (tk rfl rfl fun _ w hn k => ⟨_, v_lenR rfl elU (k.eq1 0 11 rfl), rfl⟩) ?_
  refine .o1 (tk rfl rfl fun _ w hn k => ⟨_, v_move rfl rfl, rfl⟩) ?_
  exact .nil
  intro a26 w27 hn28 ha29
  obtain ⟨hs30, hd31, hN36⟩ := aft ha29 hs18 hd19 hN23 hn28
  have h32 := ha29.fx 0 h20
  have h33 := ha29.fx 1 h21
  have h34 := ha29.ge 1 12 rfl
  have h35 := ha29.ge 2 13 rfl
  refine st_nil (hK25 _ _ ?_)
  refine wp_block ?_
  refine wp_loopX (fun (mm : Nat) (aa : Act) (ww : World) => ∃ (i : Nat), mm = a.length - i ∧ aa.tmps.size = 26 ∧ aa.defers = [] ∧ New w ww ∧ aa.eval (.tmp 13) = iv (i : Int) ∧ aa.eval (.tmp 0) = sv Aa a ca ∧ aa.eval (.tmp 1) = sv Ab b cb ∧ aa.eval (.tmp 12) = iv (a.length : Int) ∧ (i ≤ a.length) ∧ (∀ j, j < i → a.getD j 0 = b.getD j 0)) (fun mm => mm) ⟨_, ⟨0, rfl, hs30, hd31, hN36, h35, h32, h33, h34, (Nat.zero_le _), (fun j h => absurd h (Nat.not_lt_zero _))⟩⟩ ?_
  rintro mm a37 w38 ⟨i, hmm, hs39, hd40, hN41, h42, h43, h44, h45, hi, heq⟩
  refine wp_seq_k fun K46 hK46 => ?_
  refine wp_g0 [true] [] 26
    [ve (.bool (decide ((i : Int) < (a.length : Int))))] hs39 (.eq (.nil)) ?_ ?_
  refine .o1 (tk rfl rfl fun _ w hn k => ⟨_, v_bin rfl (k.fx 13 h42) (k.fx 12 h45) (fun _ => rfl) (r_lssK rfl), rfl⟩) ?_
  exact .nil
  intro a47 w48 hn49 ha50
  obtain ⟨hs51, hd52, hN58⟩ := aft ha50 hs39 hd40 hN41 hn49
  have h53 := ha50.fx 13 h42
  have h54 := ha50.fx 0 h43
  have h55 := ha50.fx 1 h44
  have h56 := ha50.fx 12 h45
  have h57 := ha50.ge 0 14 rfl
  refine st_nil (hK46 _ _ ?_)
  refine wp_seq_k fun K59 hK59 => ?_
  rcases Bool.eq_false_or_eq_true (decide ((i : Int) < (a.length : Int))) with ht60 | ht60
  have ht60d := of_decide_eq_true ht60
  have hv61 := hB h57 ht60
  refine wp_cond_true hv61 ?_
  refine wp_skip ?_
  refine hK59 _ _ ?_
  refine wp_seq_k fun K62 hK62 => ?_
  refine wp_block ?_
  refine wp_seq_k fun K63 hK63 => ?_
  refine wp_g0 [true, true] [] 26
    [ve (iv (i : Int)),
     ve (iv (i : Int))] hs51 (.eq (.eq (.nil))) ?_ ?_
  refine .o1 (tk rfl rfl fun _ w hn k => ⟨_, v_move rfl (k.fx 13 h53), rfl⟩) ?_
  refine .o1 (tk rfl rfl fun _ w hn k => ⟨_, v_assign rfl (k.eq1 0 15 rfl), rfl⟩) ?_
  exact .nil
  intro a64 w65 hn66 ha67
  obtain ⟨hs68, hd69, hN75⟩ := aft ha67 hs51 hd52 hN58 hn66
  have h70 := ha67.fx 13 h53
  have h71 := ha67.fx 0 h54
  have h72 := ha67.fx 1 h55
  have h73 := ha67.fx 12 h56
  have h74 := ha67.ge 1 5 rfl
  refine st_nil (hK63 _ _ ?_)
  refine wp_seq_k fun K76 hK76 => ?_
  rcases Bool.eq_false_or_eq_true (decide (((a.getD i 0 : Nat) : Int) = ((b.getD i 0 : Nat) : Int))) with ht77 | ht77
  have ht77d := of_decide_eq_true ht77
  refine wp_g0 [true, true, true, true, true, true, true, true, true] [] 26
    [ve (sv Aa a ca),
     ve (iv (i : Int)),
     (fun (v_ : Value) (W : World) => ∃ (b19 : Nat) (o20 : Nat), v_ = .pointer (some ⟨b19, o20, none⟩) ∧ SElem W b19 o20 (.int .u16 ((a.getD i 0 : Nat) : Int))),
     ve (.int .u16 ((a.getD i 0 : Nat) : Int)),
     ve (sv Ab b cb),
     ve (iv (i : Int)),
     (fun (v_ : Value) (W : World) => ∃ (b27 : Nat) (o28 : Nat), v_ = .pointer (some ⟨b27, o28, none⟩) ∧ SElem W b27 o28 (.int .u16 ((b.getD i 0 : Nat) : Int))),
     ve (.int .u16 ((b.getD i 0 : Nat) : Int)),
     ve (.bool false)] hs68 (.eq (.eq (.cons (fun v W W' hn ⟨b19, o20, he, h0⟩ => ⟨b19, o20, he, h0.new_ hn⟩) (.eq (.eq (.eq (.cons (fun v W W' hn ⟨b27, o28, he, h0⟩ => ⟨b27, o28, he, h0.new_ hn⟩) (.eq (.eq (.nil)))))))))) ?_ ?_
  refine .o1 (tk rfl rfl fun _ w hn k => ⟨_, v_move rfl (k.fx 0 h71), rfl⟩) ?_
  refine .o1 (tk rfl rfl fun _ w hn k => ⟨_, v_move rfl (k.fx 5 h74), rfl⟩) ?_
  refine .o1 (tk rfl rfl fun _ w hn k => (by
        exact x_eaddr (k := .u16) rfl elU (k.eq1 0 16 rfl) (k.eq1 1 17 rfl) (hra.new_ (hN75.transNew hn)) (by omega) fun b17 o18 hme => ⟨b17, o18, rfl, hme⟩)) ?_
  refine .o1 (tk rfl rfl fun _ w hn k => (by
        obtain ⟨b21, o22, e23, hx24⟩ : (fun (v_ : Value) (W : World) => ∃ (b19 : Nat) (o20 : Nat), v_ = .pointer (some ⟨b19, o20, none⟩) ∧ SElem W b19 o20 (.int .u16 ((a.getD i 0 : Nat) : Int))) _ _ := k.dep 2 18 (by kernel_rfl) (by kernel_rfl)
        exact ⟨_, v_load rfl e23 (l_one Try.isAgg66 hx24.1), rfl⟩)) ?_
  refine .o1 (tk rfl rfl fun _ w hn k => ⟨_, v_move rfl (k.fx 1 h72), rfl⟩) ?_
  refine .o1 (tk rfl rfl fun _ w hn k => ⟨_, v_move rfl (k.fx 5 h74), rfl⟩) ?_
  refine .o1 (tk rfl rfl fun _ w hn k => (by
        exact x_eaddr (k := .u16) rfl elU (k.eq1 4 20 rfl) (k.eq1 5 21 rfl) (hrb.new_ (hN75.transNew hn)) (by omega) fun b25 o26 hme => ⟨b25, o26, rfl, hme⟩)) ?_
  refine .o1 (tk rfl rfl fun _ w hn k => (by
        obtain ⟨b29, o30, e31, hx32⟩ : (fun (v_ : Value) (W : World) => ∃ (b27 : Nat) (o28 : Nat), v_ = .pointer (some ⟨b27, o28, none⟩) ∧ SElem W b27 o28 (.int .u16 ((b.getD i 0 : Nat) : Int))) _ _ := k.dep 6 22 (by kernel_rfl) (by kernel_rfl)
        exact ⟨_, v_load rfl e31 (l_one Try.isAgg66 hx32.1), rfl⟩)) ?_
  refine .o1 (tk rfl rfl fun _ w hn k => ⟨_, v_bin rfl (k.eq1 3 19 rfl) (k.eq1 7 23 rfl) (fun _ => rfl) (r_neq ht77), rfl⟩) ?_
  exact .nil
  intro a78 w79 hn80 ha81
  obtain ⟨hs82, hd83, hN89⟩ := aft ha81 hs68 hd69 hN75 hn80
  have h84 := ha81.fx 13 h70
  have h85 := ha81.fx 0 h71
  have h86 := ha81.fx 1 h72
  have h87 := ha81.fx 12 h73
  have h88 := ha81.ge 8 24 rfl
  refine st_nil (hK76 _ _ ?_)
  refine wp_cond_false h88 ?_
  refine wp_skip ?_
  refine hK62 _ _ ?_
  refine wp_g0 [true, false] [(1, true)] 26
    [ve (iv ((i + 1 : Nat) : Int)),
     vt] hs82 (.eq (.tt (.nil))) ?_ ?_
  refine .o1 (tk rfl rfl fun _ w hn k => ⟨_, v_bin rfl (k.fx 13 h84) rfl (fun _ => rfl) (n_add (by omega) (IntWalk.i64_in _ (by omega))), rfl⟩) ?_
  refine .off ?_
  exact .nil
  intro a90 w91 hn92 ha93
  obtain ⟨hs94, hd95, hN101⟩ := aft ha93 hs82 hd83 hN89 hn92
  have h96 := ha93.fx 13 h84
  have h97 := ha93.fx 0 h85
  have h98 := ha93.fx 1 h86
  have h99 := ha93.fx 12 h87
  have h100 := ha93.ge 0 25 rfl
  refine st_take rfl rfl (y_move (v := iv ((i + 1 : Nat) : Int)) rfl h100) rfl ?_
  obtain ⟨a102, ha103⟩ : ∃ a', a' = a90.put (some 13) (iv ((i + 1 : Nat) : Int)) := ⟨_, rfl⟩
  have hs104 : a102.tmps.size = 26 := by rw [ha103, put_size]; exact hs94
  have hd105 : a102.defers = [] := by rw [ha103, put_defers]; exact hd95
  have h106 := pn ha103 h97 (by decide)
  have h107 := pn ha103 h98 (by decide)
  have h108 := pn ha103 h99 (by decide)
  have h109 := pn ha103 h100 (by decide)
  have h110 : a102.eval (.tmp 13) = iv ((i + 1 : Nat) : Int) := by rw [ha103]; exact put_same _ _ _ (by rw [hs94]; decide)
  show stepsTo _ _ _ _ _ (a90.put (some 13) (iv ((i + 1 : Nat) : Int))) _
  rw [← ha103]
  refine st_nil ?_
  refine then_n ?_
  exact ⟨_, ⟨i + 1, rfl, hs104, hd105, hN101, (h110.trans (congrArg (Value.int .i64) (by omega))), h106, h107, h108, (by omega), (eq_up heq (by omega) ht77)⟩, (by omega)⟩
  have ht77d := of_decide_eq_false ht77
  refine wp_g0 [true, true, true, true, true, true, true, true, true] [] 26
    [ve (sv Aa a ca),
     ve (iv (i : Int)),
     (fun (v_ : Value) (W : World) => ∃ (b35 : Nat) (o36 : Nat), v_ = .pointer (some ⟨b35, o36, none⟩) ∧ SElem W b35 o36 (.int .u16 ((a.getD i 0 : Nat) : Int))),
     ve (.int .u16 ((a.getD i 0 : Nat) : Int)),
     ve (sv Ab b cb),
     ve (iv (i : Int)),
     (fun (v_ : Value) (W : World) => ∃ (b43 : Nat) (o44 : Nat), v_ = .pointer (some ⟨b43, o44, none⟩) ∧ SElem W b43 o44 (.int .u16 ((b.getD i 0 : Nat) : Int))),
     ve (.int .u16 ((b.getD i 0 : Nat) : Int)),
     ve (.bool true)] hs68 (.eq (.eq (.cons (fun v W W' hn ⟨b35, o36, he, h0⟩ => ⟨b35, o36, he, h0.new_ hn⟩) (.eq (.eq (.eq (.cons (fun v W W' hn ⟨b43, o44, he, h0⟩ => ⟨b43, o44, he, h0.new_ hn⟩) (.eq (.eq (.nil)))))))))) ?_ ?_
  refine .o1 (tk rfl rfl fun _ w hn k => ⟨_, v_move rfl (k.fx 0 h71), rfl⟩) ?_
  refine .o1 (tk rfl rfl fun _ w hn k => ⟨_, v_move rfl (k.fx 5 h74), rfl⟩) ?_
  refine .o1 (tk rfl rfl fun _ w hn k => (by
        exact x_eaddr (k := .u16) rfl elU (k.eq1 0 16 rfl) (k.eq1 1 17 rfl) (hra.new_ (hN75.transNew hn)) (by omega) fun b33 o34 hme => ⟨b33, o34, rfl, hme⟩)) ?_
  refine .o1 (tk rfl rfl fun _ w hn k => (by
        obtain ⟨b37, o38, e39, hx40⟩ : (fun (v_ : Value) (W : World) => ∃ (b35 : Nat) (o36 : Nat), v_ = .pointer (some ⟨b35, o36, none⟩) ∧ SElem W b35 o36 (.int .u16 ((a.getD i 0 : Nat) : Int))) _ _ := k.dep 2 18 (by kernel_rfl) (by kernel_rfl)
        exact ⟨_, v_load rfl e39 (l_one Try.isAgg66 hx40.1), rfl⟩)) ?_
  refine .o1 (tk rfl rfl fun _ w hn k => ⟨_, v_move rfl (k.fx 1 h72), rfl⟩) ?_
  refine .o1 (tk rfl rfl fun _ w hn k => ⟨_, v_move rfl (k.fx 5 h74), rfl⟩) ?_
  refine .o1 (tk rfl rfl fun _ w hn k => (by
        exact x_eaddr (k := .u16) rfl elU (k.eq1 4 20 rfl) (k.eq1 5 21 rfl) (hrb.new_ (hN75.transNew hn)) (by omega) fun b41 o42 hme => ⟨b41, o42, rfl, hme⟩)) ?_
  refine .o1 (tk rfl rfl fun _ w hn k => (by
        obtain ⟨b45, o46, e47, hx48⟩ : (fun (v_ : Value) (W : World) => ∃ (b43 : Nat) (o44 : Nat), v_ = .pointer (some ⟨b43, o44, none⟩) ∧ SElem W b43 o44 (.int .u16 ((b.getD i 0 : Nat) : Int))) _ _ := k.dep 6 22 (by kernel_rfl) (by kernel_rfl)
        exact ⟨_, v_load rfl e47 (l_one Try.isAgg66 hx48.1), rfl⟩)) ?_
  refine .o1 (tk rfl rfl fun _ w hn k => ⟨_, v_bin rfl (k.eq1 3 19 rfl) (k.eq1 7 23 rfl) (fun _ => rfl) (r_neq ht77), rfl⟩) ?_
  exact .nil
  intro a111 w112 hn113 ha114
  obtain ⟨hs115, hd116, hN122⟩ := aft ha114 hs68 hd69 hN75 hn113
  have h117 := ha114.fx 13 h70
  have h118 := ha114.fx 0 h71
  have h119 := ha114.fx 1 h72
  have h120 := ha114.fx 12 h73
  have h121 := ha114.ge 8 24 rfl
  refine st_nil (hK76 _ _ ?_)
  refine wp_cond_true h121 ?_
  refine wp_seq_k fun K123 hK123 => ?_
  refine wp_g0 [true] [] 26
    [ve (.bool false)] hs115 (.eq (.nil)) ?_ ?_
  refine .o1 (tk rfl rfl fun _ w hn k => ⟨_, v_assign rfl rfl, rfl⟩) ?_
  exact .nil
  intro a124 w125 hn126 ha127
  obtain ⟨hs128, hd129, hN131⟩ := aft ha127 hs115 hd116 hN122 hn126
  have h130 := ha127.ge 0 4 rfl
  refine st_nil (hK123 _ _ ?_)
  refine wp_ret (ret_k hd129 (v := .bool false) (res_t rfl h130 _) ?_)
  exact ⟨by rw [decide_eq_false (fun e => by rw [e] at ht77d; exact ht77d rfl)], hN131⟩
  have ht60d := of_decide_eq_false ht60
  have hv132 := hB h57 ht60
  refine wp_cond_false hv132 ?_
  refine wp_exit ?_
  refine hK24 _ _ ?_
  refine wp_seq_k fun K133 hK133 => ?_
  refine wp_g0 [true] [] 26
    [ve (.bool true)] hs51 (.eq (.nil)) ?_ ?_
  refine .o1 (tk rfl rfl fun _ w hn k => ⟨_, v_assign rfl rfl, rfl⟩) ?_
  exact .nil
  intro a134 w135 hn136 ha137
  obtain ⟨hs138, hd139, hN141⟩ := aft ha137 hs51 hd52 hN58 hn136
  have h140 := ha137.ge 0 4 rfl
  refine st_nil (hK133 _ _ ?_)
  refine wp_ret (ret_k hd139 (v := .bool true) (res_t rfl h140 _) ?_)
  exact ⟨by rw [decide_eq_true (eq_all (by omega) (by omega : i = a.length) heq)], hN141⟩
  have ht13d := of_decide_eq_false ht13
  refine wp_g0 [true, true, true, true, true] [] 26
    [ve (sv Aa a ca),
     ve (iv (a.length : Int)),
     ve (sv Ab b cb),
     ve (iv (b.length : Int)),
     ve (.bool true)] hs6 (.eq (.eq (.eq (.eq (.eq (.nil)))))) ?_ ?_
  refine .o1 (tk rfl rfl fun _ w hn k => ⟨_, v_move rfl (k.fx 0 h8), rfl⟩) ?_
  refine .o1 (tk rfl rfl fun _ w hn k => ⟨_, v_lenR rfl elU (k.eq1 0 6 rfl), rfl⟩) ?_
  refine .o1 (tk rfl rfl fun _ w hn k => ⟨_, v_move rfl (k.fx 1 h9), rfl⟩) ?_
  refine .o1 (tk rfl rfl fun _ w hn k => ⟨_, v_lenR rfl elU (k.eq1 2 8 rfl), rfl⟩) ?_
  refine .o1 (tk rfl rfl fun _ w hn k => ⟨_, v_bin rfl (k.eq1 1 7 rfl) (k.eq1 3 9 rfl) (fun _ => rfl) (r_neq ht13), rfl⟩) ?_
  exact .nil
  intro a142 w143 hn144 ha145
  obtain ⟨hs146, hd147, hN151⟩ := aft ha145 hs6 hd7 hN10 hn144
  have h148 := ha145.fx 0 h8
  have h149 := ha145.fx 1 h9
  have h150 := ha145.ge 4 10 rfl
  refine st_nil (hK12 _ _ ?_)
  refine wp_cond_true h150 ?_
  refine wp_seq_k fun K152 hK152 => ?_
  refine wp_g0 [true] [] 26
    [ve (.bool false)] hs146 (.eq (.nil)) ?_ ?_
  refine .o1 (tk rfl rfl fun _ w hn k => ⟨_, v_assign rfl rfl, rfl⟩) ?_
  exact .nil
  intro a153 w154 hn155 ha156
  obtain ⟨hs157, hd158, hN160⟩ := aft ha156 hs146 hd147 hN151 hn155
  have h159 := ha156.ge 0 4 rfl
  refine st_nil (hK152 _ _ ?_)
  refine wp_ret (ret_k hd158 (v := .bool false) (res_t rfl h159 _) ?_)
  exact ⟨by rw [decide_eq_false (fun e => by rw [e] at ht13d; exact ht13d rfl)], hN160⟩
set_option maxHeartbeats 8000000 in
set_option maxRecDepth 100000 in
theorem vsame_c (v : Vl) (Av : Option Addr) (cv : Nat) (Bv : Option Addr) (dv : Nat) (u : Vl) (Au : Option Addr) (cu : Nat) (Bu : Option Addr) (du : Nat) (w : World) (hmv : SRow w .u32 Av v.mag cv) (hsv : SRow w .u16 Bv v.s dv) (hmu : SRow w .u32 Au u.mag cu) (hsu : SRow w .u16 Bu u.s du) : Calls Try.prog 35 #[vv v Av cv Bv dv, vv u Au cu Bu du] w (IsRet (.bool (sameV v u)) w) := by
  refine enter_abs Try.func35 rfl fun a0 hs0 hd0 hp => ?_
  have hs0 : a0.tmps.size = 49 := hs0
  have hN0 : New w w := Upd.refl _ _
  have hp0 : a0.eval (.tmp 0) = vv v Av cv Bv dv := hp 0 _ rfl
  have hp1 : a0.eval (.tmp 1) = vv u Au cu Bu du := hp 1 _ rfl
  refine wp_seq_k fun K1 hK1 => ?_
  refine wp_g [true, true, true] [] [] 49
    [IsNew w 29 [iv v.k, iv v.nk, iv v.nn, .bool v.neg, sv Av v.mag cv, sv Bv v.s dv, iv v.ref],
     IsNew w 29 [iv u.k, iv u.nk, iv u.nn, .bool u.neg, sv Au u.mag cu, sv Bu u.s du, iv u.ref],
     ve (.bool false)]
    [0, 1] (newsCons (fun v w h => IsNew.old h) (newsCons (fun v w h => IsNew.old h) newsNil)) hs0 (.nw (.nw (.eq (.nil)))) ?_ (fun i h => by cases h) ?_
  refine .o2 (step_allocN (cs := [iv v.k, iv v.nk, iv v.nn, .bool v.neg, sv Av v.mag cv, sv Bv v.s dv, iv v.ref]) (t := 29) rfl (noG rfl) (fun _ w hn k => v_box rfl (k.fx 0 hp0) (fun w => rfl)) (fun q _ hq hb => ⟨q, rfl, hq, hb⟩)) ?_
  refine .o2 (step_allocN (cs := [iv u.k, iv u.nk, iv u.nn, .bool u.neg, sv Au u.mag cu, sv Bu u.s du, iv u.ref]) (t := 29) rfl (noG rfl) (fun _ w hn k => v_box rfl (k.fx 1 hp1) (fun w => rfl)) (fun q _ hq hb => ⟨q, rfl, hq, hb⟩)) ?_
  refine .o1 (tk rfl rfl fun _ w hn k => ⟨_, v_assign rfl rfl, rfl⟩) ?_
  exact .nil
  intro a2 w3 hn4 ha5
  obtain ⟨hs6, hd7, hN18⟩ := aft ha5 hs0 hd0 hN0 hn4
  obtain ⟨q9, h8, hq10, hb11⟩ : IsNew _ _ _ _ _ := ha5.got 0 2 rfl (by kernel_rfl)
  obtain ⟨q13, h12, hq14, hb15⟩ : IsNew _ _ _ _ _ := ha5.got 1 3 rfl (by kernel_rfl)
  have hq16 := Nat.le_trans hN0.size hq10
  have hq17 := Nat.le_trans hN0.size hq14
  refine st_nil (hK1 _ _ ?_)
  refine wp_seq_k fun K19 hK19 => ?_
  rcases Bool.eq_false_or_eq_true (decide (v.k = u.k)) with ht20 | ht20
  have ht20d := of_decide_eq_true ht20
  rcases Bool.eq_false_or_eq_true (decide (v.nk = u.nk)) with ht21 | ht21
  have ht21d := of_decide_eq_true ht21
  rcases Bool.eq_false_or_eq_true (decide (v.nn = u.nn)) with ht22 | ht22
  have ht22d := of_decide_eq_true ht22
  rcases Bool.eq_false_or_eq_true (v.neg) with ht23 | ht23
  rcases Bool.eq_false_or_eq_true (u.neg) with ht24 | ht24
  rcases Bool.eq_false_or_eq_true (decide (v.mag = u.mag)) with ht25 | ht25
  have ht25d := of_decide_eq_true ht25
  rcases Bool.eq_false_or_eq_true (decide (v.s = u.s)) with ht26 | ht26
  have ht26d := of_decide_eq_true ht26
  refine wp_g0 [true, true, true, true, true, true, true, true, true, true, true, true, true, true, true, true, true, true, true, true, true, true, true, true, true, true, true, true, true, true, true, true, true, true, true, true, true, true, true, true, true, true, true, true, true] [] 49
    [ve (pv q9),
     ve (iv v.k),
     ve (pv q13),
     ve (iv u.k),
     ve (.bool true),
     ve (.bool true),
     ve (.pointer (some ⟨q9, 1, none⟩)),
     ve (nv (Nm.mk v.nk v.nn)),
     ve (.pointer (some ⟨q13, 1, none⟩)),
     ve (nv (Nm.mk u.nk u.nn)),
     ve (.bool true),
     ve (.bool true),
     ve (.bool true),
     ve (.pointer (some ⟨q9, 3, none⟩)),
     ve (.pointer (some ⟨q9, 3, none⟩)),
     ve (.bool true),
     ve (.pointer (some ⟨q13, 3, none⟩)),
     ve (.pointer (some ⟨q13, 3, none⟩)),
     ve (.bool true),
     ve (.bool true),
     ve (.bool true),
     ve (.bool true),
     ve (.pointer (some ⟨q9, 3, none⟩)),
     ve (.pointer (some ⟨q9, 4, none⟩)),
     ve (sv Av v.mag cv),
     ve (.pointer (some ⟨q13, 3, none⟩)),
     ve (.pointer (some ⟨q13, 4, none⟩)),
     ve (sv Au u.mag cu),
     ve (.bool true),
     ve (.bool true),
     ve (.bool true),
     ve (.pointer (some ⟨q9, 5, none⟩)),
     ve (sv Bv v.s dv),
     ve (.pointer (some ⟨q13, 5, none⟩)),
     ve (sv Bu u.s du),
     ve (.bool true),
     ve (.bool true),
     ve (.bool true),
     ve (.pointer (some ⟨q9, 6, none⟩)),
     ve (iv v.ref),
     ve (.pointer (some ⟨q13, 6, none⟩)),
     ve (iv u.ref),
     ve (.bool (decide (v.ref = u.ref))),
     ve (.bool (decide (v.ref = u.ref))),
     ve (.bool (decide (v.ref = u.ref)))] hs6 (.eq (.eq (.eq (.eq (.eq (.eq (.eq (.eq (.eq (.eq (.eq (.eq (.eq (.eq (.eq (.eq (.eq (.eq (.eq (.eq (.eq (.eq (.eq (.eq (.eq (.eq (.eq (.eq (.eq (.eq (.eq (.eq (.eq (.eq (.eq (.eq (.eq (.eq (.eq (.eq (.eq (.eq (.eq (.eq (.eq (.nil)))))))))))))))))))))))))))))))))))))))))))))) ?_ ?_
  refine .o1 (tk rfl rfl fun _ w hn k => ⟨_, v_field rfl (k.fx 2 h8) (fun w => rfl), rfl⟩) ?_
  refine .o1 (tk rfl rfl fun _ w hn k => ⟨_, v_load rfl (k.eq1 0 5 rfl) (l_one Try.isAgg3 ((hb11.new_ hn).cell 0)), rfl⟩) ?_
  refine .o1 (tk rfl rfl fun _ w hn k => ⟨_, v_field rfl (k.fx 3 h12) (fun w => rfl), rfl⟩) ?_
  refine .o1 (tk rfl rfl fun _ w hn k => ⟨_, v_load rfl (k.eq1 2 7 rfl) (l_one Try.isAgg3 ((hb15.new_ hn).cell 0)), rfl⟩) ?_
  refine .o1 (tk rfl rfl fun _ w hn k => ⟨_, v_bin rfl (k.eq1 1 6 rfl) (k.eq1 3 8 rfl) (fun _ => rfl) (r_eql ht20), rfl⟩) ?_
  refine .o1 (tk rfl rfl fun _ w hn k => ⟨_, v_move rfl (k.eq1 4 9 rfl), rfl⟩) ?_
  refine .o1 (tg rfl rfl rfl (fun _ _ k => k.eq1 5 10 rfl) fun _ w hn k => ⟨_, v_field rfl (k.fx 2 h8) (fun w => rfl), rfl⟩) ?_
  refine .o1 (tg rfl rfl rfl (fun _ _ k => k.eq1 5 10 rfl) fun _ w hn k => ⟨_, v_load rfl (k.eq1 6 11 rfl) (l_part Try.isAgg23 Try.sizeOf23 (hb11.new_ hn) (Nat.le_of_ble_eq_true rfl)), rfl⟩) ?_
  refine .o1 (tg rfl rfl rfl (fun _ _ k => k.eq1 5 10 rfl) fun _ w hn k => ⟨_, v_field rfl (k.fx 3 h12) (fun w => rfl), rfl⟩) ?_
  refine .o1 (tg rfl rfl rfl (fun _ _ k => k.eq1 5 10 rfl) fun _ w hn k => ⟨_, v_load rfl (k.eq1 8 13 rfl) (l_part Try.isAgg23 Try.sizeOf23 (hb15.new_ hn) (Nat.le_of_ble_eq_true rfl)), rfl⟩) ?_
  refine .o1 (tg rfl rfl rfl (fun _ _ k => k.eq1 5 10 rfl) fun _ w hn k => ⟨_, v_bin rfl (k.eq1 7 12 rfl) (k.eq1 9 14 rfl) (gNum _ _ _ _) (eqlNum _ _ _ _ (by show (decide (v.nk = u.nk) && decide (v.nn = u.nn)) = true; simp [ht21, ht22])), rfl⟩) ?_
  refine .o1 (tk rfl rfl fun _ w hn k => ⟨_, v_pickT rfl (k.eq1 5 10 rfl) (k.eq1 10 15 rfl), rfl⟩) ?_
  refine .o1 (tk rfl rfl fun _ w hn k => ⟨_, v_move rfl (k.eq1 11 16 rfl), rfl⟩) ?_
  refine .o1 (tg rfl rfl rfl (fun _ _ k => k.eq1 12 17 rfl) fun _ w hn k => ⟨_, v_field rfl (k.fx 2 h8) (fun w => rfl), rfl⟩) ?_
  refine .o1 (tg rfl rfl rfl (fun _ _ k => k.eq1 12 17 rfl) fun _ w hn k => ⟨_, v_field rfl (k.eq1 13 18 rfl) (fun w => rfl), rfl⟩) ?_
  refine .o1 (tg rfl rfl rfl (fun _ _ k => k.eq1 12 17 rfl) fun _ w hn k => ⟨_, v_load rfl (k.eq1 14 19 rfl) (l_one Try.isAgg4 ((hb11.new_ hn).cell 3)), congrArg Value.bool ht23⟩) ?_
  refine .o1 (tg rfl rfl rfl (fun _ _ k => k.eq1 12 17 rfl) fun _ w hn k => ⟨_, v_field rfl (k.fx 3 h12) (fun w => rfl), rfl⟩) ?_
  refine .o1 (tg rfl rfl rfl (fun _ _ k => k.eq1 12 17 rfl) fun _ w hn k => ⟨_, v_field rfl (k.eq1 16 21 rfl) (fun w => rfl), rfl⟩) ?_
  refine .o1 (tg rfl rfl rfl (fun _ _ k => k.eq1 12 17 rfl) fun _ w hn k => ⟨_, v_load rfl (k.eq1 17 22 rfl) (l_one Try.isAgg4 ((hb15.new_ hn).cell 3)), congrArg Value.bool ht24⟩) ?_
  refine .o1 (tg rfl rfl rfl (fun _ _ k => k.eq1 12 17 rfl) fun _ w hn k => ⟨_, v_bin rfl (k.eq1 15 20 rfl) (k.eq1 18 23 rfl) (fun _ => rfl) (fun w => by kernel_rfl), rfl⟩) ?_
  refine .o1 (tk rfl rfl fun _ w hn k => ⟨_, v_pickT rfl (k.eq1 12 17 rfl) (k.eq1 19 24 rfl), rfl⟩) ?_
  refine .o1 (tk rfl rfl fun _ w hn k => ⟨_, v_move rfl (k.eq1 20 25 rfl), rfl⟩) ?_
  refine .o1 (tg rfl rfl rfl (fun _ _ k => k.eq1 21 26 rfl) fun _ w hn k => ⟨_, v_field rfl (k.fx 2 h8) (fun w => rfl), rfl⟩) ?_
  refine .o1 (tg rfl rfl rfl (fun _ _ k => k.eq1 21 26 rfl) fun _ w hn k => ⟨_, v_field rfl (k.eq1 22 27 rfl) (fun w => rfl), rfl⟩) ?_
  refine .o1 (tg rfl rfl rfl (fun _ _ k => k.eq1 21 26 rfl) fun _ w hn k => ⟨_, v_load rfl (k.eq1 23 28 rfl) (l_one Try.isAgg24 ((hb11.new_ hn).cell 4)), rfl⟩) ?_
  refine .o1 (tg rfl rfl rfl (fun _ _ k => k.eq1 21 26 rfl) fun _ w hn k => ⟨_, v_field rfl (k.fx 3 h12) (fun w => rfl), rfl⟩) ?_
  refine .o1 (tg rfl rfl rfl (fun _ _ k => k.eq1 21 26 rfl) fun _ w hn k => ⟨_, v_field rfl (k.eq1 25 30 rfl) (fun w => rfl), rfl⟩) ?_
  refine .o1 (tg rfl rfl rfl (fun _ _ k => k.eq1 21 26 rfl) fun _ w hn k => ⟨_, v_load rfl (k.eq1 26 31 rfl) (l_one Try.isAgg24 ((hb15.new_ hn).cell 4)), rfl⟩) ?_
  refine .o1 (cg rfl rfl rfl (fun _ _ k => k.eq1 21 26 rfl) rfl (fun _ w hn k => ⟨#[sv Av v.mag cv, sv Au u.mag cu], args2 (k.eq1 24 29 rfl) (k.eq1 27 32 rfl), fun _ => by kernel_rfl, sequal32_c _ v.mag _ _ u.mag _ _ (hmv.new_ (hN18.transNew hn)) (hmu.new_ (hN18.transNew hn))⟩) fun _ => congrArg Value.bool ht25) ?_
  refine .o1 (tk rfl rfl fun _ w hn k => ⟨_, v_pickT rfl (k.eq1 21 26 rfl) (k.eq1 28 33 rfl), rfl⟩) ?_
  refine .o1 (tk rfl rfl fun _ w hn k => ⟨_, v_move rfl (k.eq1 29 34 rfl), rfl⟩) ?_
  refine .o1 (tg rfl rfl rfl (fun _ _ k => k.eq1 30 35 rfl) fun _ w hn k => ⟨_, v_field rfl (k.fx 2 h8) (fun w => rfl), rfl⟩) ?_
  refine .o1 (tg rfl rfl rfl (fun _ _ k => k.eq1 30 35 rfl) fun _ w hn k => ⟨_, v_load rfl (k.eq1 31 36 rfl) (l_one Try.isAgg27 ((hb11.new_ hn).cell 5)), rfl⟩) ?_
  refine .o1 (tg rfl rfl rfl (fun _ _ k => k.eq1 30 35 rfl) fun _ w hn k => ⟨_, v_field rfl (k.fx 3 h12) (fun w => rfl), rfl⟩) ?_
  refine .o1 (tg rfl rfl rfl (fun _ _ k => k.eq1 30 35 rfl) fun _ w hn k => ⟨_, v_load rfl (k.eq1 33 38 rfl) (l_one Try.isAgg27 ((hb15.new_ hn).cell 5)), rfl⟩) ?_
  refine .o1 (cg rfl rfl rfl (fun _ _ k => k.eq1 30 35 rfl) rfl (fun _ w hn k => ⟨#[sv Bv v.s dv, sv Bu u.s du], args2 (k.eq1 32 37 rfl) (k.eq1 34 39 rfl), fun _ => by kernel_rfl, sequal16_c _ v.s _ _ u.s _ _ (hsv.new_ (hN18.transNew hn)) (hsu.new_ (hN18.transNew hn))⟩) fun _ => congrArg Value.bool ht26) ?_
  refine .o1 (tk rfl rfl fun _ w hn k => ⟨_, v_pickT rfl (k.eq1 30 35 rfl) (k.eq1 35 40 rfl), rfl⟩) ?_
  refine .o1 (tk rfl rfl fun _ w hn k => ⟨_, v_move rfl (k.eq1 36 41 rfl), rfl⟩) ?_
  refine .o1 (tg rfl rfl rfl (fun _ _ k => k.eq1 37 42 rfl) fun _ w hn k => ⟨_, v_field rfl (k.fx 2 h8) (fun w => rfl), rfl⟩) ?_
  refine .o1 (tg rfl rfl rfl (fun _ _ k => k.eq1 37 42 rfl) fun _ w hn k => ⟨_, v_load rfl (k.eq1 38 43 rfl) (l_one Try.isAgg3 ((hb11.new_ hn).cell 6)), rfl⟩) ?_
  refine .o1 (tg rfl rfl rfl (fun _ _ k => k.eq1 37 42 rfl) fun _ w hn k => ⟨_, v_field rfl (k.fx 3 h12) (fun w => rfl), rfl⟩) ?_
  refine .o1 (tg rfl rfl rfl (fun _ _ k => k.eq1 37 42 rfl) fun _ w hn k => ⟨_, v_load rfl (k.eq1 40 45 rfl) (l_one Try.isAgg3 ((hb15.new_ hn).cell 6)), rfl⟩) ?_
  refine .o1 (tg rfl rfl rfl (fun _ _ k => k.eq1 37 42 rfl) fun _ w hn k => ⟨_, v_bin rfl (k.eq1 39 44 rfl) (k.eq1 41 46 rfl) (fun _ => rfl) (r_eql rfl), rfl⟩) ?_
  refine .o1 (tk rfl rfl fun _ w hn k => ⟨_, v_pickT rfl (k.eq1 37 42 rfl) (k.eq1 42 47 rfl), rfl⟩) ?_
  refine .o1 (tk rfl rfl fun _ w hn k => ⟨_, v_assign rfl (k.eq1 43 48 rfl), rfl⟩) ?_
  exact .nil
  intro a27 w28 hn29 ha30
  obtain ⟨hs31, hd32, hN34⟩ := aft ha30 hs6 hd7 hN18 hn29
  have h33 := ha30.ge 44 4 rfl
  refine st_nil (hK19 _ _ ?_)
  refine wp_ret (ret_k hd32 (v := .bool (decide (v.ref = u.ref))) (res_t rfl h33 _) ?_)
  refine ⟨?_, hN34⟩
  show Ending.returned (.bool (decide (v.ref = u.ref))) = Ending.returned (.bool (sameV v u))
  first | rfl | (simp only [sameV, ht20, ht21, ht22, ht23, ht24, ht25, ht26, bsm] <;> rfl) | (simp [sameV, ht20, ht21, ht22, ht23, ht24, ht25, ht26]; done) | (exfalso; omega)
  have ht26d := of_decide_eq_false ht26
  refine wp_g0 [true, true, true, true, true, true, true, true, true, true, true, true, true, true, true, true, true, true, true, true, true, true, true, true, true, true, true, true, true, true, true, true, true, true, true, true, true, true, true, true, true, true, true, true, true] [] 49
    [ve (pv q9),
     ve (iv v.k),
     ve (pv q13),
     ve (iv u.k),
     ve (.bool true),
     ve (.bool true),
     ve (.pointer (some ⟨q9, 1, none⟩)),
     ve (nv (Nm.mk v.nk v.nn)),
     ve (.pointer (some ⟨q13, 1, none⟩)),
     ve (nv (Nm.mk u.nk u.nn)),
     ve (.bool true),
     ve (.bool true),
     ve (.bool true),
     ve (.pointer (some ⟨q9, 3, none⟩)),
     ve (.pointer (some ⟨q9, 3, none⟩)),
     ve (.bool true),
     ve (.pointer (some ⟨q13, 3, none⟩)),
     ve (.pointer (some ⟨q13, 3, none⟩)),
     ve (.bool true),
     ve (.bool true),
     ve (.bool true),
     ve (.bool true),
     ve (.pointer (some ⟨q9, 3, none⟩)),
     ve (.pointer (some ⟨q9, 4, none⟩)),
     ve (sv Av v.mag cv),
     ve (.pointer (some ⟨q13, 3, none⟩)),
     ve (.pointer (some ⟨q13, 4, none⟩)),
     ve (sv Au u.mag cu),
     ve (.bool true),
     ve (.bool true),
     ve (.bool true),
     ve (.pointer (some ⟨q9, 5, none⟩)),
     ve (sv Bv v.s dv),
     ve (.pointer (some ⟨q13, 5, none⟩)),
     ve (sv Bu u.s du),
     ve (.bool false),
     ve (.bool false),
     ve (.bool false),
     ve undef,
     ve undef,
     ve undef,
     ve undef,
     ve undef,
     ve (.bool false),
     ve (.bool false)] hs6 (.eq (.eq (.eq (.eq (.eq (.eq (.eq (.eq (.eq (.eq (.eq (.eq (.eq (.eq (.eq (.eq (.eq (.eq (.eq (.eq (.eq (.eq (.eq (.eq (.eq (.eq (.eq (.eq (.eq (.eq (.eq (.eq (.eq (.eq (.eq (.eq (.eq (.eq (.eq (.eq (.eq (.eq (.eq (.eq (.eq (.nil)))))))))))))))))))))))))))))))))))))))))))))) ?_ ?_
  refine .o1 (tk rfl rfl fun _ w hn k => ⟨_, v_field rfl (k.fx 2 h8) (fun w => rfl), rfl⟩) ?_
  refine .o1 (tk rfl rfl fun _ w hn k => ⟨_, v_load rfl (k.eq1 0 5 rfl) (l_one Try.isAgg3 ((hb11.new_ hn).cell 0)), rfl⟩) ?_
  refine .o1 (tk rfl rfl fun _ w hn k => ⟨_, v_field rfl (k.fx 3 h12) (fun w => rfl), rfl⟩) ?_
  refine .o1 (tk rfl rfl fun _ w hn k => ⟨_, v_load rfl (k.eq1 2 7 rfl) (l_one Try.isAgg3 ((hb15.new_ hn).cell 0)), rfl⟩) ?_
  refine .o1 (tk rfl rfl fun _ w hn k => ⟨_, v_bin rfl (k.eq1 1 6 rfl) (k.eq1 3 8 rfl) (fun _ => rfl) (r_eql ht20), rfl⟩) ?_
  refine .o1 (tk rfl rfl fun _ w hn k => ⟨_, v_move rfl (k.eq1 4 9 rfl), rfl⟩) ?_
  refine .o1 (tg rfl rfl rfl (fun _ _ k => k.eq1 5 10 rfl) fun _ w hn k => ⟨_, v_field rfl (k.fx 2 h8) (fun w => rfl), rfl⟩) ?_
  refine .o1 (tg rfl rfl rfl (fun _ _ k => k.eq1 5 10 rfl) fun _ w hn k => ⟨_, v_load rfl (k.eq1 6 11 rfl) (l_part Try.isAgg23 Try.sizeOf23 (hb11.new_ hn) (Nat.le_of_ble_eq_true rfl)), rfl⟩) ?_
  refine .o1 (tg rfl rfl rfl (fun _ _ k => k.eq1 5 10 rfl) fun _ w hn k => ⟨_, v_field rfl (k.fx 3 h12) (fun w => rfl), rfl⟩) ?_
  refine .o1 (tg rfl rfl rfl (fun _ _ k => k.eq1 5 10 rfl) fun _ w hn k => ⟨_, v_load rfl (k.eq1 8 13 rfl) (l_part Try.isAgg23 Try.sizeOf23 (hb15.new_ hn) (Nat.le_of_ble_eq_true rfl)), rfl⟩) ?_
  refine .o1 (tg rfl rfl rfl (fun _ _ k => k.eq1 5 10 rfl) fun _ w hn k => ⟨_, v_bin rfl (k.eq1 7 12 rfl) (k.eq1 9 14 rfl) (gNum _ _ _ _) (eqlNum _ _ _ _ (by show (decide (v.nk = u.nk) && decide (v.nn = u.nn)) = true; simp [ht21, ht22])), rfl⟩) ?_
  refine .o1 (tk rfl rfl fun _ w hn k => ⟨_, v_pickT rfl (k.eq1 5 10 rfl) (k.eq1 10 15 rfl), rfl⟩) ?_
  refine .o1 (tk rfl rfl fun _ w hn k => ⟨_, v_move rfl (k.eq1 11 16 rfl), rfl⟩) ?_
  refine .o1 (tg rfl rfl rfl (fun _ _ k => k.eq1 12 17 rfl) fun _ w hn k => ⟨_, v_field rfl (k.fx 2 h8) (fun w => rfl), rfl⟩) ?_
  refine .o1 (tg rfl rfl rfl (fun _ _ k => k.eq1 12 17 rfl) fun _ w hn k => ⟨_, v_field rfl (k.eq1 13 18 rfl) (fun w => rfl), rfl⟩) ?_
  refine .o1 (tg rfl rfl rfl (fun _ _ k => k.eq1 12 17 rfl) fun _ w hn k => ⟨_, v_load rfl (k.eq1 14 19 rfl) (l_one Try.isAgg4 ((hb11.new_ hn).cell 3)), congrArg Value.bool ht23⟩) ?_
  refine .o1 (tg rfl rfl rfl (fun _ _ k => k.eq1 12 17 rfl) fun _ w hn k => ⟨_, v_field rfl (k.fx 3 h12) (fun w => rfl), rfl⟩) ?_
  refine .o1 (tg rfl rfl rfl (fun _ _ k => k.eq1 12 17 rfl) fun _ w hn k => ⟨_, v_field rfl (k.eq1 16 21 rfl) (fun w => rfl), rfl⟩) ?_
  refine .o1 (tg rfl rfl rfl (fun _ _ k => k.eq1 12 17 rfl) fun _ w hn k => ⟨_, v_load rfl (k.eq1 17 22 rfl) (l_one Try.isAgg4 ((hb15.new_ hn).cell 3)), congrArg Value.bool ht24⟩) ?_
  refine .o1 (tg rfl rfl rfl (fun _ _ k => k.eq1 12 17 rfl) fun _ w hn k => ⟨_, v_bin rfl (k.eq1 15 20 rfl) (k.eq1 18 23 rfl) (fun _ => rfl) (fun w => by kernel_rfl), rfl⟩) ?_
  refine .o1 (tk rfl rfl fun _ w hn k => ⟨_, v_pickT rfl (k.eq1 12 17 rfl) (k.eq1 19 24 rfl), rfl⟩) ?_
  refine .o1 (tk rfl rfl fun _ w hn k => ⟨_, v_move rfl (k.eq1 20 25 rfl), rfl⟩) ?_
  refine .o1 (tg rfl rfl rfl (fun _ _ k => k.eq1 21 26 rfl) fun _ w hn k => ⟨_, v_field rfl (k.fx 2 h8) (fun w => rfl), rfl⟩) ?_
  refine .o1 (tg rfl rfl rfl (fun _ _ k => k.eq1 21 26 rfl) fun _ w hn k => ⟨_, v_field rfl (k.eq1 22 27 rfl) (fun w => rfl), rfl⟩) ?_
  refine .o1 (tg rfl rfl rfl (fun _ _ k => k.eq1 21 26 rfl) fun _ w hn k => ⟨_, v_load rfl (k.eq1 23 28 rfl) (l_one Try.isAgg24 ((hb11.new_ hn).cell 4)), rfl⟩) ?_
  refine .o1 (tg rfl rfl rfl (fun _ _ k => k.eq1 21 26 rfl) fun _ w hn k => ⟨_, v_field rfl (k.fx 3 h12) (fun w => rfl), rfl⟩) ?_
  refine .o1 (tg rfl rfl rfl (fun _ _ k => k.eq1 21 26 rfl) fun _ w hn k => ⟨_, v_field rfl (k.eq1 25 30 rfl) (fun w => rfl), rfl⟩) ?_
  refine .o1 (tg rfl rfl rfl (fun _ _ k => k.eq1 21 26 rfl) fun _ w hn k => ⟨_, v_load rfl (k.eq1 26 31 rfl) (l_one Try.isAgg24 ((hb15.new_ hn).cell 4)), rfl⟩) ?_
  refine .o1 (cg rfl rfl rfl (fun _ _ k => k.eq1 21 26 rfl) rfl (fun _ w hn k => ⟨#[sv Av v.mag cv, sv Au u.mag cu], args2 (k.eq1 24 29 rfl) (k.eq1 27 32 rfl), fun _ => by kernel_rfl, sequal32_c _ v.mag _ _ u.mag _ _ (hmv.new_ (hN18.transNew hn)) (hmu.new_ (hN18.transNew hn))⟩) fun _ => congrArg Value.bool ht25) ?_
  refine .o1 (tk rfl rfl fun _ w hn k => ⟨_, v_pickT rfl (k.eq1 21 26 rfl) (k.eq1 28 33 rfl), rfl⟩) ?_
  refine .o1 (tk rfl rfl fun _ w hn k => ⟨_, v_move rfl (k.eq1 29 34 rfl), rfl⟩) ?_
  refine .o1 (tg rfl rfl rfl (fun _ _ k => k.eq1 30 35 rfl) fun _ w hn k => ⟨_, v_field rfl (k.fx 2 h8) (fun w => rfl), rfl⟩) ?_
  refine .o1 (tg rfl rfl rfl (fun _ _ k => k.eq1 30 35 rfl) fun _ w hn k => ⟨_, v_load rfl (k.eq1 31 36 rfl) (l_one Try.isAgg27 ((hb11.new_ hn).cell 5)), rfl⟩) ?_
  refine .o1 (tg rfl rfl rfl (fun _ _ k => k.eq1 30 35 rfl) fun _ w hn k => ⟨_, v_field rfl (k.fx 3 h12) (fun w => rfl), rfl⟩) ?_
  refine .o1 (tg rfl rfl rfl (fun _ _ k => k.eq1 30 35 rfl) fun _ w hn k => ⟨_, v_load rfl (k.eq1 33 38 rfl) (l_one Try.isAgg27 ((hb15.new_ hn).cell 5)), rfl⟩) ?_
  refine .o1 (cg rfl rfl rfl (fun _ _ k => k.eq1 30 35 rfl) rfl (fun _ w hn k => ⟨#[sv Bv v.s dv, sv Bu u.s du], args2 (k.eq1 32 37 rfl) (k.eq1 34 39 rfl), fun _ => by kernel_rfl, sequal16_c _ v.s _ _ u.s _ _ (hsv.new_ (hN18.transNew hn)) (hsu.new_ (hN18.transNew hn))⟩) fun _ => congrArg Value.bool ht26) ?_
  refine .o1 (tk rfl rfl fun _ w hn k => ⟨_, v_pickT rfl (k.eq1 30 35 rfl) (k.eq1 35 40 rfl), rfl⟩) ?_
  refine .o1 (tk rfl rfl fun _ w hn k => ⟨_, v_move rfl (k.eq1 36 41 rfl), rfl⟩) ?_
  refine .o1 (sk rfl rfl rfl (fun _ _ _ k => k.eq1 37 42 rfl) (fun _ => rfl)) ?_
  refine .o1 (sk rfl rfl rfl (fun _ _ _ k => k.eq1 37 42 rfl) (fun _ => rfl)) ?_
  refine .o1 (sk rfl rfl rfl (fun _ _ _ k => k.eq1 37 42 rfl) (fun _ => rfl)) ?_
  refine .o1 (sk rfl rfl rfl (fun _ _ _ k => k.eq1 37 42 rfl) (fun _ => rfl)) ?_
  refine .o1 (sk rfl rfl rfl (fun _ _ _ k => k.eq1 37 42 rfl) (fun _ => rfl)) ?_
  refine .o1 (tk rfl rfl fun _ w hn k => ⟨_, v_pickF rfl (k.eq1 37 42 rfl) rfl, rfl⟩) ?_
  refine .o1 (tk rfl rfl fun _ w hn k => ⟨_, v_assign rfl (k.eq1 43 48 rfl), rfl⟩) ?_
  exact .nil
  intro a35 w36 hn37 ha38
  obtain ⟨hs39, hd40, hN42⟩ := aft ha38 hs6 hd7 hN18 hn37
  have h41 := ha38.ge 44 4 rfl
  refine st_nil (hK19 _ _ ?_)
  refine wp_ret (ret_k hd40 (v := .bool false) (res_t rfl h41 _) ?_)
  refine ⟨?_, hN42⟩
  show Ending.returned (.bool false) = Ending.returned (.bool (sameV v u))
  first | rfl | (simp only [sameV, ht20, ht21, ht22, ht23, ht24, ht25, ht26, bsm] <;> rfl) | (simp [sameV, ht20, ht21, ht22, ht23, ht24, ht25, ht26]; done) | (exfalso; omega)
  have ht25d := of_decide_eq_false ht25
  refine wp_g0 [true, true, true, true, true, true, true, true, true, true, true, true, true, true, true, true, true, true, true, true, true, true, true, true, true, true, true, true, true, true, true, true, true, true, true, true, true, true, true, true, true, true, true, true, true] [] 49
    [ve (pv q9),
     ve (iv v.k),
     ve (pv q13),
     ve (iv u.k),
     ve (.bool true),
     ve (.bool true),
     ve (.pointer (some ⟨q9, 1, none⟩)),
     ve (nv (Nm.mk v.nk v.nn)),
     ve (.pointer (some ⟨q13, 1, none⟩)),
     ve (nv (Nm.mk u.nk u.nn)),
     ve (.bool true),
     ve (.bool true),
     ve (.bool true),
     ve (.pointer (some ⟨q9, 3, none⟩)),
     ve (.pointer (some ⟨q9, 3, none⟩)),
     ve (.bool true),
     ve (.pointer (some ⟨q13, 3, none⟩)),
     ve (.pointer (some ⟨q13, 3, none⟩)),
     ve (.bool true),
     ve (.bool true),
     ve (.bool true),
     ve (.bool true),
     ve (.pointer (some ⟨q9, 3, none⟩)),
     ve (.pointer (some ⟨q9, 4, none⟩)),
     ve (sv Av v.mag cv),
     ve (.pointer (some ⟨q13, 3, none⟩)),
     ve (.pointer (some ⟨q13, 4, none⟩)),
     ve (sv Au u.mag cu),
     ve (.bool false),
     ve (.bool false),
     ve (.bool false),
     ve undef,
     ve undef,
     ve undef,
     ve undef,
     ve undef,
     ve (.bool false),
     ve (.bool false),
     ve undef,
     ve undef,
     ve undef,
     ve undef,
     ve undef,
     ve (.bool false),
     ve (.bool false)] hs6 (.eq (.eq (.eq (.eq (.eq (.eq (.eq (.eq (.eq (.eq (.eq (.eq (.eq (.eq (.eq (.eq (.eq (.eq (.eq (.eq (.eq (.eq (.eq (.eq (.eq (.eq (.eq (.eq (.eq (.eq (.eq (.eq (.eq (.eq (.eq (.eq (.eq (.eq (.eq (.eq (.eq (.eq (.eq (.eq (.eq (.nil)))))))))))))))))))))))))))))))))))))))))))))) ?_ ?_
  refine .o1 (tk rfl rfl fun _ w hn k => ⟨_, v_field rfl (k.fx 2 h8) (fun w => rfl), rfl⟩) ?_
  refine .o1 (tk rfl rfl fun _ w hn k => ⟨_, v_load rfl (k.eq1 0 5 rfl) (l_one Try.isAgg3 ((hb11.new_ hn).cell 0)), rfl⟩) ?_
  refine .o1 (tk rfl rfl fun _ w hn k => ⟨_, v_field rfl (k.fx 3 h12) (fun w => rfl), rfl⟩) ?_
  refine .o1 (tk rfl rfl fun _ w hn k => ⟨_, v_load rfl (k.eq1 2 7 rfl) (l_one Try.isAgg3 ((hb15.new_ hn).cell 0)), rfl⟩) ?_
  refine .o1 (tk rfl rfl fun _ w hn k => ⟨_, v_bin rfl (k.eq1 1 6 rfl) (k.eq1 3 8 rfl) (fun _ => rfl) (r_eql ht20), rfl⟩) ?_
  refine .o1 (tk rfl rfl fun _ w hn k => ⟨_, v_move rfl (k.eq1 4 9 rfl), rfl⟩) ?_
  refine .o1 (tg rfl rfl rfl (fun _ _ k => k.eq1 5 10 rfl) fun _ w hn k => ⟨_, v_field rfl (k.fx 2 h8) (fun w => rfl), rfl⟩) ?_
  refine .o1 (tg rfl rfl rfl (fun _ _ k => k.eq1 5 10 rfl) fun _ w hn k => ⟨_, v_load rfl (k.eq1 6 11 rfl) (l_part Try.isAgg23 Try.sizeOf23 (hb11.new_ hn) (Nat.le_of_ble_eq_true rfl)), rfl⟩) ?_
  refine .o1 (tg rfl rfl rfl (fun _ _ k => k.eq1 5 10 rfl) fun _ w hn k => ⟨_, v_field rfl (k.fx 3 h12) (fun w => rfl), rfl⟩) ?_
  refine .o1 (tg rfl rfl rfl (fun _ _ k => k.eq1 5 10 rfl) fun _ w hn k => ⟨_, v_load rfl (k.eq1 8 13 rfl) (l_part Try.isAgg23 Try.sizeOf23 (hb15.new_ hn) (Nat.le_of_ble_eq_true rfl)), rfl⟩) ?_
  refine .o1 (tg rfl rfl rfl (fun _ _ k => k.eq1 5 10 rfl) fun _ w hn k => ⟨_, v_bin rfl (k.eq1 7 12 rfl) (k.eq1 9 14 rfl) (gNum _ _ _ _) (eqlNum _ _ _ _ (by show (decide (v.nk = u.nk) && decide (v.nn = u.nn)) = true; simp [ht21, ht22])), rfl⟩) ?_
  refine .o1 (tk rfl rfl fun _ w hn k => ⟨_, v_pickT rfl (k.eq1 5 10 rfl) (k.eq1 10 15 rfl), rfl⟩) ?_
  refine .o1 (tk rfl rfl fun _ w hn k => ⟨_, v_move rfl (k.eq1 11 16 rfl), rfl⟩) ?_
  refine .o1 (tg rfl rfl rfl (fun _ _ k => k.eq1 12 17 rfl) fun _ w hn k => ⟨_, v_field rfl (k.fx 2 h8) (fun w => rfl), rfl⟩) ?_
  refine .o1 (tg rfl rfl rfl (fun _ _ k => k.eq1 12 17 rfl) fun _ w hn k => ⟨_, v_field rfl (k.eq1 13 18 rfl) (fun w => rfl), rfl⟩) ?_
  refine .o1 (tg rfl rfl rfl (fun _ _ k => k.eq1 12 17 rfl) fun _ w hn k => ⟨_, v_load rfl (k.eq1 14 19 rfl) (l_one Try.isAgg4 ((hb11.new_ hn).cell 3)), congrArg Value.bool ht23⟩) ?_
  refine .o1 (tg rfl rfl rfl (fun _ _ k => k.eq1 12 17 rfl) fun _ w hn k => ⟨_, v_field rfl (k.fx 3 h12) (fun w => rfl), rfl⟩) ?_
  refine .o1 (tg rfl rfl rfl (fun _ _ k => k.eq1 12 17 rfl) fun _ w hn k => ⟨_, v_field rfl (k.eq1 16 21 rfl) (fun w => rfl), rfl⟩) ?_
  refine .o1 (tg rfl rfl rfl (fun _ _ k => k.eq1 12 17 rfl) fun _ w hn k => ⟨_, v_load rfl (k.eq1 17 22 rfl) (l_one Try.isAgg4 ((hb15.new_ hn).cell 3)), congrArg Value.bool ht24⟩) ?_
  refine .o1 (tg rfl rfl rfl (fun _ _ k => k.eq1 12 17 rfl) fun _ w hn k => ⟨_, v_bin rfl (k.eq1 15 20 rfl) (k.eq1 18 23 rfl) (fun _ => rfl) (fun w => by kernel_rfl), rfl⟩) ?_
  refine .o1 (tk rfl rfl fun _ w hn k => ⟨_, v_pickT rfl (k.eq1 12 17 rfl) (k.eq1 19 24 rfl), rfl⟩) ?_
  refine .o1 (tk rfl rfl fun _ w hn k => ⟨_, v_move rfl (k.eq1 20 25 rfl), rfl⟩) ?_
  refine .o1 (tg rfl rfl rfl (fun _ _ k => k.eq1 21 26 rfl) fun _ w hn k => ⟨_, v_field rfl (k.fx 2 h8) (fun w => rfl), rfl⟩) ?_
  refine .o1 (tg rfl rfl rfl (fun _ _ k => k.eq1 21 26 rfl) fun _ w hn k => ⟨_, v_field rfl (k.eq1 22 27 rfl) (fun w => rfl), rfl⟩) ?_
  refine .o1 (tg rfl rfl rfl (fun _ _ k => k.eq1 21 26 rfl) fun _ w hn k => ⟨_, v_load rfl (k.eq1 23 28 rfl) (l_one Try.isAgg24 ((hb11.new_ hn).cell 4)), rfl⟩) ?_
  refine .o1 (tg rfl rfl rfl (fun _ _ k => k.eq1 21 26 rfl) fun _ w hn k => ⟨_, v_field rfl (k.fx 3 h12) (fun w => rfl), rfl⟩) ?_
  refine .o1 (tg rfl rfl rfl (fun _ _ k => k.eq1 21 26 rfl) fun _ w hn k => ⟨_, v_field rfl (k.eq1 25 30 rfl) (fun w => rfl), rfl⟩) ?_
  refine .o1 (tg rfl rfl rfl (fun _ _ k => k.eq1 21 26 rfl) fun _ w hn k => ⟨_, v_load rfl (k.eq1 26 31 rfl) (l_one Try.isAgg24 ((hb15.new_ hn).cell 4)), rfl⟩) ?_
  refine .o1 (cg rfl rfl rfl (fun _ _ k => k.eq1 21 26 rfl) rfl (fun _ w hn k => ⟨#[sv Av v.mag cv, sv Au u.mag cu], args2 (k.eq1 24 29 rfl) (k.eq1 27 32 rfl), fun _ => by kernel_rfl, sequal32_c _ v.mag _ _ u.mag _ _ (hmv.new_ (hN18.transNew hn)) (hmu.new_ (hN18.transNew hn))⟩) fun _ => congrArg Value.bool ht25) ?_
  refine .o1 (tk rfl rfl fun _ w hn k => ⟨_, v_pickT rfl (k.eq1 21 26 rfl) (k.eq1 28 33 rfl), rfl⟩) ?_
  refine .o1 (tk rfl rfl fun _ w hn k => ⟨_, v_move rfl (k.eq1 29 34 rfl), rfl⟩) ?_
  refine .o1 (sk rfl rfl rfl (fun _ _ _ k => k.eq1 30 35 rfl) (fun _ => rfl)) ?_
  refine .o1 (sk rfl rfl rfl (fun _ _ _ k => k.eq1 30 35 rfl) (fun _ => rfl)) ?_
  refine .o1 (sk rfl rfl rfl (fun _ _ _ k => k.eq1 30 35 rfl) (fun _ => rfl)) ?_
  refine .o1 (sk rfl rfl rfl (fun _ _ _ k => k.eq1 30 35 rfl) (fun _ => rfl)) ?_
  refine .o1 (sk rfl rfl rfl (fun _ _ _ k => k.eq1 30 35 rfl) (fun _ => rfl)) ?_
  refine .o1 (tk rfl rfl fun _ w hn k => ⟨_, v_pickF rfl (k.eq1 30 35 rfl) rfl, rfl⟩) ?_
  refine .o1 (tk rfl rfl fun _ w hn k => ⟨_, v_move rfl (k.eq1 36 41 rfl), rfl⟩) ?_
  refine .o1 (sk rfl rfl rfl (fun _ _ _ k => k.eq1 37 42 rfl) (fun _ => rfl)) ?_
  refine .o1 (sk rfl rfl rfl (fun _ _ _ k => k.eq1 37 42 rfl) (fun _ => rfl)) ?_
  refine .o1 (sk rfl rfl rfl (fun _ _ _ k => k.eq1 37 42 rfl) (fun _ => rfl)) ?_
  refine .o1 (sk rfl rfl rfl (fun _ _ _ k => k.eq1 37 42 rfl) (fun _ => rfl)) ?_
  refine .o1 (sk rfl rfl rfl (fun _ _ _ k => k.eq1 37 42 rfl) (fun _ => rfl)) ?_
  refine .o1 (tk rfl rfl fun _ w hn k => ⟨_, v_pickF rfl (k.eq1 37 42 rfl) rfl, rfl⟩) ?_
  refine .o1 (tk rfl rfl fun _ w hn k => ⟨_, v_assign rfl (k.eq1 43 48 rfl), rfl⟩) ?_
  exact .nil
  intro a43 w44 hn45 ha46
  obtain ⟨hs47, hd48, hN50⟩ := aft ha46 hs6 hd7 hN18 hn45
  have h49 := ha46.ge 44 4 rfl
  refine st_nil (hK19 _ _ ?_)
  refine wp_ret (ret_k hd48 (v := .bool false) (res_t rfl h49 _) ?_)
  refine ⟨?_, hN50⟩
  show Ending.returned (.bool false) = Ending.returned (.bool (sameV v u))
  first | rfl | (simp only [sameV, ht20, ht21, ht22, ht23, ht24, ht25, bsm] <;> rfl) | (simp [sameV, ht20, ht21, ht22, ht23, ht24, ht25]; done) | (exfalso; omega)
  refine wp_g0 [true, true, true, true, true, true, true, true, true, true, true, true, true, true, true, true, true, true, true, true, true, true, true, true, true, true, true, true, true, true, true, true, true, true, true, true, true, true, true, true, true, true, true, true, true] [] 49
    [ve (pv q9),
     ve (iv v.k),
     ve (pv q13),
     ve (iv u.k),
     ve (.bool true),
     ve (.bool true),
     ve (.pointer (some ⟨q9, 1, none⟩)),
     ve (nv (Nm.mk v.nk v.nn)),
     ve (.pointer (some ⟨q13, 1, none⟩)),
     ve (nv (Nm.mk u.nk u.nn)),
     ve (.bool true),
     ve (.bool true),
     ve (.bool true),
     ve (.pointer (some ⟨q9, 3, none⟩)),
     ve (.pointer (some ⟨q9, 3, none⟩)),
     ve (.bool true),
     ve (.pointer (some ⟨q13, 3, none⟩)),
     ve (.pointer (some ⟨q13, 3, none⟩)),
     ve (.bool false),
     ve (.bool false),
     ve (.bool false),
     ve (.bool false),
     ve undef,
     ve undef,
     ve undef,
     ve undef,
     ve undef,
     ve undef,
     ve undef,
     ve (.bool false),
     ve (.bool false),
     ve undef,
     ve undef,
     ve undef,
     ve undef,
     ve undef,
     ve (.bool false),
     ve (.bool false),
     ve undef,
     ve undef,
     ve undef,
     ve undef,
     ve undef,
     ve (.bool false),
     ve (.bool false)] hs6 (.eq (.eq (.eq (.eq (.eq (.eq (.eq (.eq (.eq (.eq (.eq (.eq (.eq (.eq (.eq (.eq (.eq (.eq (.eq (.eq (.eq (.eq (.eq (.eq (.eq (.eq (.eq (.eq (.eq (.eq (.eq (.eq (.eq (.eq (.eq (.eq (.eq (.eq (.eq (.eq (.eq (.eq (.eq (.eq (.eq (.nil)))))))))))))))))))))))))))))))))))))))))))))) ?_ ?_
  refine .o1 (tk rfl rfl fun _ w hn k => ⟨_, v_field rfl (k.fx 2 h8) (fun w => rfl), rfl⟩) ?_
  refine .o1 (tk rfl rfl fun _ w hn k => ⟨_, v_load rfl (k.eq1 0 5 rfl) (l_one Try.isAgg3 ((hb11.new_ hn).cell 0)), rfl⟩) ?_
  refine .o1 (tk rfl rfl fun _ w hn k => ⟨_, v_field rfl (k.fx 3 h12) (fun w => rfl), rfl⟩) ?_
  refine .o1 (tk rfl rfl fun _ w hn k => ⟨_, v_load rfl (k.eq1 2 7 rfl) (l_one Try.isAgg3 ((hb15.new_ hn).cell 0)), rfl⟩) ?_
  refine .o1 (tk rfl rfl fun _ w hn k => ⟨_, v_bin rfl (k.eq1 1 6 rfl) (k.eq1 3 8 rfl) (fun _ => rfl) (r_eql ht20), rfl⟩) ?_
  refine .o1 (tk rfl rfl fun _ w hn k => ⟨_, v_move rfl (k.eq1 4 9 rfl), rfl⟩) ?_
  refine .o1 (tg rfl rfl rfl (fun _ _ k => k.eq1 5 10 rfl) fun _ w hn k => ⟨_, v_field rfl (k.fx 2 h8) (fun w => rfl), rfl⟩) ?_
  refine .o1 (tg rfl rfl rfl (fun _ _ k => k.eq1 5 10 rfl) fun _ w hn k => ⟨_, v_load rfl (k.eq1 6 11 rfl) (l_part Try.isAgg23 Try.sizeOf23 (hb11.new_ hn) (Nat.le_of_ble_eq_true rfl)), rfl⟩) ?_
  refine .o1 (tg rfl rfl rfl (fun _ _ k => k.eq1 5 10 rfl) fun _ w hn k => ⟨_, v_field rfl (k.fx 3 h12) (fun w => rfl), rfl⟩) ?_
  refine .o1 (tg rfl rfl rfl (fun _ _ k => k.eq1 5 10 rfl) fun _ w hn k => ⟨_, v_load rfl (k.eq1 8 13 rfl) (l_part Try.isAgg23 Try.sizeOf23 (hb15.new_ hn) (Nat.le_of_ble_eq_true rfl)), rfl⟩) ?_
  refine .o1 (tg rfl rfl rfl (fun _ _ k => k.eq1 5 10 rfl) fun _ w hn k => ⟨_, v_bin rfl (k.eq1 7 12 rfl) (k.eq1 9 14 rfl) (gNum _ _ _ _) (eqlNum _ _ _ _ (by show (decide (v.nk = u.nk) && decide (v.nn = u.nn)) = true; simp [ht21, ht22])), rfl⟩) ?_
  refine .o1 (tk rfl rfl fun _ w hn k => ⟨_, v_pickT rfl (k.eq1 5 10 rfl) (k.eq1 10 15 rfl), rfl⟩) ?_
  refine .o1 (tk rfl rfl fun _ w hn k => ⟨_, v_move rfl (k.eq1 11 16 rfl), rfl⟩) ?_
  refine .o1 (tg rfl rfl rfl (fun _ _ k => k.eq1 12 17 rfl) fun _ w hn k => ⟨_, v_field rfl (k.fx 2 h8) (fun w => rfl), rfl⟩) ?_
  refine .o1 (tg rfl rfl rfl (fun _ _ k => k.eq1 12 17 rfl) fun _ w hn k => ⟨_, v_field rfl (k.eq1 13 18 rfl) (fun w => rfl), rfl⟩) ?_
  refine .o1 (tg rfl rfl rfl (fun _ _ k => k.eq1 12 17 rfl) fun _ w hn k => ⟨_, v_load rfl (k.eq1 14 19 rfl) (l_one Try.isAgg4 ((hb11.new_ hn).cell 3)), congrArg Value.bool ht23⟩) ?_
  refine .o1 (tg rfl rfl rfl (fun _ _ k => k.eq1 12 17 rfl) fun _ w hn k => ⟨_, v_field rfl (k.fx 3 h12) (fun w => rfl), rfl⟩) ?_
  refine .o1 (tg rfl rfl rfl (fun _ _ k => k.eq1 12 17 rfl) fun _ w hn k => ⟨_, v_field rfl (k.eq1 16 21 rfl) (fun w => rfl), rfl⟩) ?_
  refine .o1 (tg rfl rfl rfl (fun _ _ k => k.eq1 12 17 rfl) fun _ w hn k => ⟨_, v_load rfl (k.eq1 17 22 rfl) (l_one Try.isAgg4 ((hb15.new_ hn).cell 3)), congrArg Value.bool ht24⟩) ?_
  refine .o1 (tg rfl rfl rfl (fun _ _ k => k.eq1 12 17 rfl) fun _ w hn k => ⟨_, v_bin rfl (k.eq1 15 20 rfl) (k.eq1 18 23 rfl) (fun _ => rfl) (fun w => by kernel_rfl), rfl⟩) ?_
  refine .o1 (tk rfl rfl fun _ w hn k => ⟨_, v_pickT rfl (k.eq1 12 17 rfl) (k.eq1 19 24 rfl), rfl⟩) ?_
  refine .o1 (tk rfl rfl fun _ w hn k => ⟨_, v_move rfl (k.eq1 20 25 rfl), rfl⟩) ?_
  refine .o1 (sk rfl rfl rfl (fun _ _ _ k => k.eq1 21 26 rfl) (fun _ => rfl)) ?_
  refine .o1 (sk rfl rfl rfl (fun _ _ _ k => k.eq1 21 26 rfl) (fun _ => rfl)) ?_
  refine .o1 (sk rfl rfl rfl (fun _ _ _ k => k.eq1 21 26 rfl) (fun _ => rfl)) ?_
  refine .o1 (sk rfl rfl rfl (fun _ _ _ k => k.eq1 21 26 rfl) (fun _ => rfl)) ?_
  refine .o1 (sk rfl rfl rfl (fun _ _ _ k => k.eq1 21 26 rfl) (fun _ => rfl)) ?_
  refine .o1 (sk rfl rfl rfl (fun _ _ _ k => k.eq1 21 26 rfl) (fun _ => rfl)) ?_
  refine .o1 (sk rfl rfl rfl (fun _ _ _ k => k.eq1 21 26 rfl) (fun _ => rfl)) ?_
  refine .o1 (tk rfl rfl fun _ w hn k => ⟨_, v_pickF rfl (k.eq1 21 26 rfl) rfl, rfl⟩) ?_
  refine .o1 (tk rfl rfl fun _ w hn k => ⟨_, v_move rfl (k.eq1 29 34 rfl), rfl⟩) ?_
  refine .o1 (sk rfl rfl rfl (fun _ _ _ k => k.eq1 30 35 rfl) (fun _ => rfl)) ?_
  refine .o1 (sk rfl rfl rfl (fun _ _ _ k => k.eq1 30 35 rfl) (fun _ => rfl)) ?_
  refine .o1 (sk rfl rfl rfl (fun _ _ _ k => k.eq1 30 35 rfl) (fun _ => rfl)) ?_
  refine .o1 (sk rfl rfl rfl (fun _ _ _ k => k.eq1 30 35 rfl) (fun _ => rfl)) ?_
  refine .o1 (sk rfl rfl rfl (fun _ _ _ k => k.eq1 30 35 rfl) (fun _ => rfl)) ?_
  refine .o1 (tk rfl rfl fun _ w hn k => ⟨_, v_pickF rfl (k.eq1 30 35 rfl) rfl, rfl⟩) ?_
  refine .o1 (tk rfl rfl fun _ w hn k => ⟨_, v_move rfl (k.eq1 36 41 rfl), rfl⟩) ?_
  refine .o1 (sk rfl rfl rfl (fun _ _ _ k => k.eq1 37 42 rfl) (fun _ => rfl)) ?_
  refine .o1 (sk rfl rfl rfl (fun _ _ _ k => k.eq1 37 42 rfl) (fun _ => rfl)) ?_
  refine .o1 (sk rfl rfl rfl (fun _ _ _ k => k.eq1 37 42 rfl) (fun _ => rfl)) ?_
  refine .o1 (sk rfl rfl rfl (fun _ _ _ k => k.eq1 37 42 rfl) (fun _ => rfl)) ?_
  refine .o1 (sk rfl rfl rfl (fun _ _ _ k => k.eq1 37 42 rfl) (fun _ => rfl)) ?_
  refine .o1 (tk rfl rfl fun _ w hn k => ⟨_, v_pickF rfl (k.eq1 37 42 rfl) rfl, rfl⟩) ?_
  refine .o1 (tk rfl rfl fun _ w hn k => ⟨_, v_assign rfl (k.eq1 43 48 rfl), rfl⟩) ?_
  exact .nil
  intro a51 w52 hn53 ha54
  obtain ⟨hs55, hd56, hN58⟩ := aft ha54 hs6 hd7 hN18 hn53
  have h57 := ha54.ge 44 4 rfl
  refine st_nil (hK19 _ _ ?_)
  refine wp_ret (ret_k hd56 (v := .bool false) (res_t rfl h57 _) ?_)
  refine ⟨?_, hN58⟩
  show Ending.returned (.bool false) = Ending.returned (.bool (sameV v u))
  first | rfl | (simp only [sameV, ht20, ht21, ht22, ht23, ht24, bsm] <;> rfl) | (simp [sameV, ht20, ht21, ht22, ht23, ht24]; done) | (exfalso; omega)
  rcases Bool.eq_false_or_eq_true (u.neg) with ht59 | ht59
  refine wp_g0 [true, true, true, true, true, true, true, true, true, true, true, true, true, true, true, true, true, true, true, true, true, true, true, true, true, true, true, true, true, true, true, true, true, true, true, true, true, true, true, true, true, true, true, true, true] [] 49
    [ve (pv q9),
     ve (iv v.k),
     ve (pv q13),
     ve (iv u.k),
     ve (.bool true),
     ve (.bool true),
     ve (.pointer (some ⟨q9, 1, none⟩)),
     ve (nv (Nm.mk v.nk v.nn)),
     ve (.pointer (some ⟨q13, 1, none⟩)),
     ve (nv (Nm.mk u.nk u.nn)),
     ve (.bool true),
     ve (.bool true),
     ve (.bool true),
     ve (.pointer (some ⟨q9, 3, none⟩)),
     ve (.pointer (some ⟨q9, 3, none⟩)),
     ve (.bool false),
     ve (.pointer (some ⟨q13, 3, none⟩)),
     ve (.pointer (some ⟨q13, 3, none⟩)),
     ve (.bool true),
     ve (.bool false),
     ve (.bool false),
     ve (.bool false),
     ve undef,
     ve undef,
     ve undef,
     ve undef,
     ve undef,
     ve undef,
     ve undef,
     ve (.bool false),
     ve (.bool false),
     ve undef,
     ve undef,
     ve undef,
     ve undef,
     ve undef,
     ve (.bool false),
     ve (.bool false),
     ve undef,
     ve undef,
     ve undef,
     ve undef,
     ve undef,
     ve (.bool false),
     ve (.bool false)] hs6 (.eq (.eq (.eq (.eq (.eq (.eq (.eq (.eq (.eq (.eq (.eq (.eq (.eq (.eq (.eq (.eq (.eq (.eq (.eq (.eq (.eq (.eq (.eq (.eq (.eq (.eq (.eq (.eq (.eq (.eq (.eq (.eq (.eq (.eq (.eq (.eq (.eq (.eq (.eq (.eq (.eq (.eq (.eq (.eq (.eq (.nil)))))))))))))))))))))))))))))))))))))))))))))) ?_ ?_
  refine .o1 (tk rfl rfl fun _ w hn k => ⟨_, v_field rfl (k.fx 2 h8) (fun w => rfl), rfl⟩) ?_
  refine .o1 (tk rfl rfl fun _ w hn k => ⟨_, v_load rfl (k.eq1 0 5 rfl) (l_one Try.isAgg3 ((hb11.new_ hn).cell 0)), rfl⟩) ?_
  refine .o1 (tk rfl rfl fun _ w hn k => ⟨_, v_field rfl (k.fx 3 h12) (fun w => rfl), rfl⟩) ?_
  refine .o1 (tk rfl rfl fun _ w hn k => ⟨_, v_load rfl (k.eq1 2 7 rfl) (l_one Try.isAgg3 ((hb15.new_ hn).cell 0)), rfl⟩) ?_
  refine .o1 (tk rfl rfl fun _ w hn k => ⟨_, v_bin rfl (k.eq1 1 6 rfl) (k.eq1 3 8 rfl) (fun _ => rfl) (r_eql ht20), rfl⟩) ?_
  refine .o1 (tk rfl rfl fun _ w hn k => ⟨_, v_move rfl (k.eq1 4 9 rfl), rfl⟩) ?_
  refine .o1 (tg rfl rfl rfl (fun _ _ k => k.eq1 5 10 rfl) fun _ w hn k => ⟨_, v_field rfl (k.fx 2 h8) (fun w => rfl), rfl⟩) ?_
  refine .o1 (tg rfl rfl rfl (fun _ _ k => k.eq1 5 10 rfl) fun _ w hn k => ⟨_, v_load rfl (k.eq1 6 11 rfl) (l_part Try.isAgg23 Try.sizeOf23 (hb11.new_ hn) (Nat.le_of_ble_eq_true rfl)), rfl⟩) ?_
  refine .o1 (tg rfl rfl rfl (fun _ _ k => k.eq1 5 10 rfl) fun _ w hn k => ⟨_, v_field rfl (k.fx 3 h12) (fun w => rfl), rfl⟩) ?_
  refine .o1 (tg rfl rfl rfl (fun _ _ k => k.eq1 5 10 rfl) fun _ w hn k => ⟨_, v_load rfl (k.eq1 8 13 rfl) (l_part Try.isAgg23 Try.sizeOf23 (hb15.new_ hn) (Nat.le_of_ble_eq_true rfl)), rfl⟩) ?_
  refine .o1 (tg rfl rfl rfl (fun _ _ k => k.eq1 5 10 rfl) fun _ w hn k => ⟨_, v_bin rfl (k.eq1 7 12 rfl) (k.eq1 9 14 rfl) (gNum _ _ _ _) (eqlNum _ _ _ _ (by show (decide (v.nk = u.nk) && decide (v.nn = u.nn)) = true; simp [ht21, ht22])), rfl⟩) ?_
  refine .o1 (tk rfl rfl fun _ w hn k => ⟨_, v_pickT rfl (k.eq1 5 10 rfl) (k.eq1 10 15 rfl), rfl⟩) ?_
  refine .o1 (tk rfl rfl fun _ w hn k => ⟨_, v_move rfl (k.eq1 11 16 rfl), rfl⟩) ?_
  refine .o1 (tg rfl rfl rfl (fun _ _ k => k.eq1 12 17 rfl) fun _ w hn k => ⟨_, v_field rfl (k.fx 2 h8) (fun w => rfl), rfl⟩) ?_
  refine .o1 (tg rfl rfl rfl (fun _ _ k => k.eq1 12 17 rfl) fun _ w hn k => ⟨_, v_field rfl (k.eq1 13 18 rfl) (fun w => rfl), rfl⟩) ?_
  refine .o1 (tg rfl rfl rfl (fun _ _ k => k.eq1 12 17 rfl) fun _ w hn k => ⟨_, v_load rfl (k.eq1 14 19 rfl) (l_one Try.isAgg4 ((hb11.new_ hn).cell 3)), congrArg Value.bool ht23⟩) ?_
  refine .o1 (tg rfl rfl rfl (fun _ _ k => k.eq1 12 17 rfl) fun _ w hn k => ⟨_, v_field rfl (k.fx 3 h12) (fun w => rfl), rfl⟩) ?_
  refine .o1 (tg rfl rfl rfl (fun _ _ k => k.eq1 12 17 rfl) fun _ w hn k => ⟨_, v_field rfl (k.eq1 16 21 rfl) (fun w => rfl), rfl⟩) ?_
  refine .o1 (tg rfl rfl rfl (fun _ _ k => k.eq1 12 17 rfl) fun _ w hn k => ⟨_, v_load rfl (k.eq1 17 22 rfl) (l_one Try.isAgg4 ((hb15.new_ hn).cell 3)), congrArg Value.bool ht59⟩) ?_
  refine .o1 (tg rfl rfl rfl (fun _ _ k => k.eq1 12 17 rfl) fun _ w hn k => ⟨_, v_bin rfl (k.eq1 15 20 rfl) (k.eq1 18 23 rfl) (fun _ => rfl) (fun w => by kernel_rfl), rfl⟩) ?_
  refine .o1 (tk rfl rfl fun _ w hn k => ⟨_, v_pickT rfl (k.eq1 12 17 rfl) (k.eq1 19 24 rfl), rfl⟩) ?_
  refine .o1 (tk rfl rfl fun _ w hn k => ⟨_, v_move rfl (k.eq1 20 25 rfl), rfl⟩) ?_
  refine .o1 (sk rfl rfl rfl (fun _ _ _ k => k.eq1 21 26 rfl) (fun _ => rfl)) ?_
  refine .o1 (sk rfl rfl rfl (fun _ _ _ k => k.eq1 21 26 rfl) (fun _ => rfl)) ?_
  refine .o1 (sk rfl rfl rfl (fun _ _ _ k => k.eq1 21 26 rfl) (fun _ => rfl)) ?_
  refine .o1 (sk rfl rfl rfl (fun _ _ _ k => k.eq1 21 26 rfl) (fun _ => rfl)) ?_
  refine .o1 (sk rfl rfl rfl (fun _ _ _ k => k.eq1 21 26 rfl) (fun _ => rfl)) ?_
  refine .o1 (sk rfl rfl rfl (fun _ _ _ k => k.eq1 21 26 rfl) (fun _ => rfl)) ?_
  refine .o1 (sk rfl rfl rfl (fun _ _ _ k => k.eq1 21 26 rfl) (fun _ => rfl)) ?_
  refine .o1 (tk rfl rfl fun _ w hn k => ⟨_, v_pickF rfl (k.eq1 21 26 rfl) rfl, rfl⟩) ?_
  refine .o1 (tk rfl rfl fun _ w hn k => ⟨_, v_move rfl (k.eq1 29 34 rfl), rfl⟩) ?_
  refine .o1 (sk rfl rfl rfl (fun _ _ _ k => k.eq1 30 35 rfl) (fun _ => rfl)) ?_
  refine .o1 (sk rfl rfl rfl (fun _ _ _ k => k.eq1 30 35 rfl) (fun _ => rfl)) ?_
  refine .o1 (sk rfl rfl rfl (fun _ _ _ k => k.eq1 30 35 rfl) (fun _ => rfl)) ?_
  refine .o1 (sk rfl rfl rfl (fun _ _ _ k => k.eq1 30 35 rfl) (fun _ => rfl)) ?_
  refine .o1 (sk rfl rfl rfl (fun _ _ _ k => k.eq1 30 35 rfl) (fun _ => rfl)) ?_
  refine .o1 (tk rfl rfl fun _ w hn k => ⟨_, v_pickF rfl (k.eq1 30 35 rfl) rfl, rfl⟩) ?_
  refine .o1 (tk rfl rfl fun _ w hn k => ⟨_, v_move rfl (k.eq1 36 41 rfl), rfl⟩) ?_
  refine .o1 (sk rfl rfl rfl (fun _ _ _ k => k.eq1 37 42 rfl) (fun _ => rfl)) ?_
  refine .o1 (sk rfl rfl rfl (fun _ _ _ k => k.eq1 37 42 rfl) (fun _ => rfl)) ?_
  refine .o1 (sk rfl rfl rfl (fun _ _ _ k => k.eq1 37 42 rfl) (fun _ => rfl)) ?_
  refine .o1 (sk rfl rfl rfl (fun _ _ _ k => k.eq1 37 42 rfl) (fun _ => rfl)) ?_
  refine .o1 (sk rfl rfl rfl (fun _ _ _ k => k.eq1 37 42 rfl) (fun _ => rfl)) ?_
  refine .o1 (tk rfl rfl fun _ w hn k => ⟨_, v_pickF rfl (k.eq1 37 42 rfl) rfl, rfl⟩) ?_
  refine .o1 (tk rfl rfl fun _ w hn k => ⟨_, v_assign rfl (k.eq1 43 48 rfl), rfl⟩) ?_
  exact .nil
  intro a60 w61 hn62 ha63
  obtain ⟨hs64, hd65, hN67⟩ := aft ha63 hs6 hd7 hN18 hn62
  have h66 := ha63.ge 44 4 rfl
  refine st_nil (hK19 _ _ ?_)
  refine wp_ret (ret_k hd65 (v := .bool false) (res_t rfl h66 _) ?_)
  refine ⟨?_, hN67⟩
  show Ending.returned (.bool false) = Ending.returned (.bool (sameV v u))
  first | rfl | (simp only [sameV, ht20, ht21, ht22, ht23, ht59, bsm] <;> rfl) | (simp [sameV, ht20, ht21, ht22, ht23, ht59]; done) | (exfalso; omega)
  rcases Bool.eq_false_or_eq_true (decide (v.mag = u.mag)) with ht68 | ht68
  have ht68d := of_decide_eq_true ht68
  rcases Bool.eq_false_or_eq_true (decide (v.s = u.s)) with ht69 | ht69
  have ht69d := of_decide_eq_true ht69
  refine wp_g0 [true, true, true, true, true, true, true, true, true, true, true, true, true, true, true, true, true, true, true, true, true, true, true, true, true, true, true, true, true, true, true, true, true, true, true, true, true, true, true, true, true, true, true, true, true] [] 49
    [ve (pv q9),
     ve (iv v.k),
     ve (pv q13),
     ve (iv u.k),
     ve (.bool true),
     ve (.bool true),
     ve (.pointer (some ⟨q9, 1, none⟩)),
     ve (nv (Nm.mk v.nk v.nn)),
     ve (.pointer (some ⟨q13, 1, none⟩)),
     ve (nv (Nm.mk u.nk u.nn)),
     ve (.bool true),
     ve (.bool true),
     ve (.bool true),
     ve (.pointer (some ⟨q9, 3, none⟩)),
     ve (.pointer (some ⟨q9, 3, none⟩)),
     ve (.bool false),
     ve (.pointer (some ⟨q13, 3, none⟩)),
     ve (.pointer (some ⟨q13, 3, none⟩)),
     ve (.bool false),
     ve (.bool true),
     ve (.bool true),
     ve (.bool true),
     ve (.pointer (some ⟨q9, 3, none⟩)),
     ve (.pointer (some ⟨q9, 4, none⟩)),
     ve (sv Av v.mag cv),
     ve (.pointer (some ⟨q13, 3, none⟩)),
     ve (.pointer (some ⟨q13, 4, none⟩)),
     ve (sv Au u.mag cu),
     ve (.bool true),
     ve (.bool true),
     ve (.bool true),
     ve (.pointer (some ⟨q9, 5, none⟩)),
     ve (sv Bv v.s dv),
     ve (.pointer (some ⟨q13, 5, none⟩)),
     ve (sv Bu u.s du),
     ve (.bool true),
     ve (.bool true),
     ve (.bool true),
     ve (.pointer (some ⟨q9, 6, none⟩)),
     ve (iv v.ref),
     ve (.pointer (some ⟨q13, 6, none⟩)),
     ve (iv u.ref),
     ve (.bool (decide (v.ref = u.ref))),
     ve (.bool (decide (v.ref = u.ref))),
     ve (.bool (decide (v.ref = u.ref)))] hs6 (.eq (.eq (.eq (.eq (.eq (.eq (.eq (.eq (.eq (.eq (.eq (.eq (.eq (.eq (.eq (.eq (.eq (.eq (.eq (.eq (.eq (.eq (.eq (.eq (.eq (.eq (.eq (.eq (.eq (.eq (.eq (.eq (.eq (.eq (.eq (.eq (.eq (.eq (.eq (.eq (.eq (.eq (.eq (.eq (.eq (.nil)))))))))))))))))))))))))))))))))))))))))))))) ?_ ?_
  refine .o1 (tk rfl rfl fun _ w hn k => ⟨_, v_field rfl (k.fx 2 h8) (fun w => rfl), rfl⟩) ?_
  refine .o1 (tk rfl rfl fun _ w hn k => ⟨_, v_load rfl (k.eq1 0 5 rfl) (l_one Try.isAgg3 ((hb11.new_ hn).cell 0)), rfl⟩) ?_
  refine .o1 (tk rfl rfl fun _ w hn k => ⟨_, v_field rfl (k.fx 3 h12) (fun w => rfl), rfl⟩) ?_
  refine .o1 (tk rfl rfl fun _ w hn k => ⟨_, v_load rfl (k.eq1 2 7 rfl) (l_one Try.isAgg3 ((hb15.new_ hn).cell 0)), rfl⟩) ?_
  refine .o1 (tk rfl rfl fun _ w hn k => ⟨_, v_bin rfl (k.eq1 1 6 rfl) (k.eq1 3 8 rfl) (fun _ => rfl) (r_eql ht20), rfl⟩) ?_
  refine .o1 (tk rfl rfl fun _ w hn k => ⟨_, v_move rfl (k.eq1 4 9 rfl), rfl⟩) ?_
  refine .o1 (tg rfl rfl rfl (fun _ _ k => k.eq1 5 10 rfl) fun _ w hn k => ⟨_, v_field rfl (k.fx 2 h8) (fun w => rfl), rfl⟩) ?_
  refine .o1 (tg rfl rfl rfl (fun _ _ k => k.eq1 5 10 rfl) fun _ w hn k => ⟨_, v_load rfl (k.eq1 6 11 rfl) (l_part Try.isAgg23 Try.sizeOf23 (hb11.new_ hn) (Nat.le_of_ble_eq_true rfl)), rfl⟩) ?_
  refine .o1 (tg rfl rfl rfl (fun _ _ k => k.eq1 5 10 rfl) fun _ w hn k => ⟨_, v_field rfl (k.fx 3 h12) (fun w => rfl), rfl⟩) ?_
  refine .o1 (tg rfl rfl rfl (fun _ _ k => k.eq1 5 10 rfl) fun _ w hn k => ⟨_, v_load rfl (k.eq1 8 13 rfl) (l_part Try.isAgg23 Try.sizeOf23 (hb15.new_ hn) (Nat.le_of_ble_eq_true rfl)), rfl⟩) ?_
  refine .o1 (tg rfl rfl rfl (fun _ _ k => k.eq1 5 10 rfl) fun _ w hn k => ⟨_, v_bin rfl (k.eq1 7 12 rfl) (k.eq1 9 14 rfl) (gNum _ _ _ _) (eqlNum _ _ _ _ (by show (decide (v.nk = u.nk) && decide (v.nn = u.nn)) = true; simp [ht21, ht22])), rfl⟩) ?_
  refine .o1 (tk rfl rfl fun _ w hn k => ⟨_, v_pickT rfl (k.eq1 5 10 rfl) (k.eq1 10 15 rfl), rfl⟩) ?_
  refine .o1 (tk rfl rfl fun _ w hn k => ⟨_, v_move rfl (k.eq1 11 16 rfl), rfl⟩) ?_
  refine .o1 (tg rfl rfl rfl (fun _ _ k => k.eq1 12 17 rfl) fun _ w hn k => ⟨_, v_field rfl (k.fx 2 h8) (fun w => rfl), rfl⟩) ?_
  refine .o1 (tg rfl rfl rfl (fun _ _ k => k.eq1 12 17 rfl) fun _ w hn k => ⟨_, v_field rfl (k.eq1 13 18 rfl) (fun w => rfl), rfl⟩) ?_
  refine .o1 (tg rfl rfl rfl (fun _ _ k => k.eq1 12 17 rfl) fun _ w hn k => ⟨_, v_load rfl (k.eq1 14 19 rfl) (l_one Try.isAgg4 ((hb11.new_ hn).cell 3)), congrArg Value.bool ht23⟩) ?_
  refine .o1 (tg rfl rfl rfl (fun _ _ k => k.eq1 12 17 rfl) fun _ w hn k => ⟨_, v_field rfl (k.fx 3 h12) (fun w => rfl), rfl⟩) ?_
  refine .o1 (tg rfl rfl rfl (fun _ _ k => k.eq1 12 17 rfl) fun _ w hn k => ⟨_, v_field rfl (k.eq1 16 21 rfl) (fun w => rfl), rfl⟩) ?_
  refine .o1 (tg rfl rfl rfl (fun _ _ k => k.eq1 12 17 rfl) fun _ w hn k => ⟨_, v_load rfl (k.eq1 17 22 rfl) (l_one Try.isAgg4 ((hb15.new_ hn).cell 3)), congrArg Value.bool ht59⟩) ?_
  refine .o1 (tg rfl rfl rfl (fun _ _ k => k.eq1 12 17 rfl) fun _ w hn k => ⟨_, v_bin rfl (k.eq1 15 20 rfl) (k.eq1 18 23 rfl) (fun _ => rfl) (fun w => by kernel_rfl), rfl⟩) ?_
  refine .o1 (tk rfl rfl fun _ w hn k => ⟨_, v_pickT rfl (k.eq1 12 17 rfl) (k.eq1 19 24 rfl), rfl⟩) ?_
  refine .o1 (tk rfl rfl fun _ w hn k => ⟨_, v_move rfl (k.eq1 20 25 rfl), rfl⟩) ?_
  refine .o1 (tg rfl rfl rfl (fun _ _ k => k.eq1 21 26 rfl) fun _ w hn k => ⟨_, v_field rfl (k.fx 2 h8) (fun w => rfl), rfl⟩) ?_
  refine .o1 (tg rfl rfl rfl (fun _ _ k => k.eq1 21 26 rfl) fun _ w hn k => ⟨_, v_field rfl (k.eq1 22 27 rfl) (fun w => rfl), rfl⟩) ?_
  refine .o1 (tg rfl rfl rfl (fun _ _ k => k.eq1 21 26 rfl) fun _ w hn k => ⟨_, v_load rfl (k.eq1 23 28 rfl) (l_one Try.isAgg24 ((hb11.new_ hn).cell 4)), rfl⟩) ?_
  refine .o1 (tg rfl rfl rfl (fun _ _ k => k.eq1 21 26 rfl) fun _ w hn k => ⟨_, v_field rfl (k.fx 3 h12) (fun w => rfl), rfl⟩) ?_
  refine .o1 (tg rfl rfl rfl (fun _ _ k => k.eq1 21 26 rfl) fun _ w hn k => ⟨_, v_field rfl (k.eq1 25 30 rfl) (fun w => rfl), rfl⟩) ?_
  refine .o1 (tg rfl rfl rfl (fun _ _ k => k.eq1 21 26 rfl) fun _ w hn k => ⟨_, v_load rfl (k.eq1 26 31 rfl) (l_one Try.isAgg24 ((hb15.new_ hn).cell 4)), rfl⟩) ?_
  refine .o1 (cg rfl rfl rfl (fun _ _ k => k.eq1 21 26 rfl) rfl (fun _ w hn k => ⟨#[sv Av v.mag cv, sv Au u.mag cu], args2 (k.eq1 24 29 rfl) (k.eq1 27 32 rfl), fun _ => by kernel_rfl, sequal32_c _ v.mag _ _ u.mag _ _ (hmv.new_ (hN18.transNew hn)) (hmu.new_ (hN18.transNew hn))⟩) fun _ => congrArg Value.bool ht68) ?_
  refine .o1 (tk rfl rfl fun _ w hn k => ⟨_, v_pickT rfl (k.eq1 21 26 rfl) (k.eq1 28 33 rfl), rfl⟩) ?_
  refine .o1 (tk rfl rfl fun _ w hn k => ⟨_, v_move rfl (k.eq1 29 34 rfl), rfl⟩) ?_
  refine .o1 (tg rfl rfl rfl (fun _ _ k => k.eq1 30 35 rfl) fun _ w hn k => ⟨_, v_field rfl (k.fx 2 h8) (fun w => rfl), rfl⟩) ?_
  refine .o1 (tg rfl rfl rfl (fun _ _ k => k.eq1 30 35 rfl) fun _ w hn k => ⟨_, v_load rfl (k.eq1 31 36 rfl) (l_one Try.isAgg27 ((hb11.new_ hn).cell 5)), rfl⟩) ?_
  refine .o1 (tg rfl rfl rfl (fun _ _ k => k.eq1 30 35 rfl) fun _ w hn k => ⟨_, v_field rfl (k.fx 3 h12) (fun w => rfl), rfl⟩) ?_
  refine .o1 (tg rfl rfl rfl (fun _ _ k => k.eq1 30 35 rfl) fun _ w hn k => ⟨_, v_load rfl (k.eq1 33 38 rfl) (l_one Try.isAgg27 ((hb15.new_ hn).cell 5)), rfl⟩) ?_
  refine .o1 (cg rfl rfl rfl (fun _ _ k => k.eq1 30 35 rfl) rfl (fun _ w hn k => ⟨#[sv Bv v.s dv, sv Bu u.s du], args2 (k.eq1 32 37 rfl) (k.eq1 34 39 rfl), fun _ => by kernel_rfl, sequal16_c _ v.s _ _ u.s _ _ (hsv.new_ (hN18.transNew hn)) (hsu.new_ (hN18.transNew hn))⟩) fun _ => congrArg Value.bool ht69) ?_
  refine .o1 (tk rfl rfl fun _ w hn k => ⟨_, v_pickT rfl (k.eq1 30 35 rfl) (k.eq1 35 40 rfl), rfl⟩) ?_
  refine .o1 (tk rfl rfl fun _ w hn k => ⟨_, v_move rfl (k.eq1 36 41 rfl), rfl⟩) ?_
  refine .o1 (tg rfl rfl rfl (fun _ _ k => k.eq1 37 42 rfl) fun _ w hn k => ⟨_, v_field rfl (k.fx 2 h8) (fun w => rfl), rfl⟩) ?_
  refine .o1 (tg rfl rfl rfl (fun _ _ k => k.eq1 37 42 rfl) fun _ w hn k => ⟨_, v_load rfl (k.eq1 38 43 rfl) (l_one Try.isAgg3 ((hb11.new_ hn).cell 6)), rfl⟩) ?_
  refine .o1 (tg rfl rfl rfl (fun _ _ k => k.eq1 37 42 rfl) fun _ w hn k => ⟨_, v_field rfl (k.fx 3 h12) (fun w => rfl), rfl⟩) ?_
  refine .o1 (tg rfl rfl rfl (fun _ _ k => k.eq1 37 42 rfl) fun _ w hn k => ⟨_, v_load rfl (k.eq1 40 45 rfl) (l_one Try.isAgg3 ((hb15.new_ hn).cell 6)), rfl⟩) ?_
  refine .o1 (tg rfl rfl rfl (fun _ _ k => k.eq1 37 42 rfl) fun _ w hn k => ⟨_, v_bin rfl (k.eq1 39 44 rfl) (k.eq1 41 46 rfl) (fun _ => rfl) (r_eql rfl), rfl⟩) ?_
  refine .o1 (tk rfl rfl fun _ w hn k => ⟨_, v_pickT rfl (k.eq1 37 42 rfl) (k.eq1 42 47 rfl), rfl⟩) ?_
  refine .o1 (tk rfl rfl fun _ w hn k => ⟨_, v_assign rfl (k.eq1 43 48 rfl), rfl⟩) ?_
  exact .nil
  intro a70 w71 hn72 ha73
  obtain ⟨hs74, hd75, hN77⟩ := aft ha73 hs6 hd7 hN18 hn72
  have h76 := ha73.ge 44 4 rfl
  refine st_nil (hK19 _ _ ?_)
  refine wp_ret (ret_k hd75 (v := .bool (decide (v.ref = u.ref))) (res_t rfl h76 _) ?_)
  refine ⟨?_, hN77⟩
  show Ending.returned (.bool (decide (v.ref = u.ref))) = Ending.returned (.bool (sameV v u))
  first | rfl | (simp only [sameV, ht20, ht21, ht22, ht23, ht59, ht68, ht69, bsm] <;> rfl) | (simp [sameV, ht20, ht21, ht22, ht23, ht59, ht68, ht69]; done) | (exfalso; omega)
  have ht69d := of_decide_eq_false ht69
  refine wp_g0 [true, true, true, true, true, true, true, true, true, true, true, true, true, true, true, true, true, true, true, true, true, true, true, true, true, true, true, true, true, true, true, true, true, true, true, true, true, true, true, true, true, true, true, true, true] [] 49
    [ve (pv q9),
     ve (iv v.k),
     ve (pv q13),
     ve (iv u.k),
     ve (.bool true),
     ve (.bool true),
     ve (.pointer (some ⟨q9, 1, none⟩)),
     ve (nv (Nm.mk v.nk v.nn)),
     ve (.pointer (some ⟨q13, 1, none⟩)),
     ve (nv (Nm.mk u.nk u.nn)),
     ve (.bool true),
     ve (.bool true),
     ve (.bool true),
     ve (.pointer (some ⟨q9, 3, none⟩)),
     ve (.pointer (some ⟨q9, 3, none⟩)),
     ve (.bool false),
     ve (.pointer (some ⟨q13, 3, none⟩)),
     ve (.pointer (some ⟨q13, 3, none⟩)),
     ve (.bool false),
     ve (.bool true),
     ve (.bool true),
     ve (.bool true),
     ve (.pointer (some ⟨q9, 3, none⟩)),
     ve (.pointer (some ⟨q9, 4, none⟩)),
     ve (sv Av v.mag cv),
     ve (.pointer (some ⟨q13, 3, none⟩)),
     ve (.pointer (some ⟨q13, 4, none⟩)),
     ve (sv Au u.mag cu),
     ve (.bool true),
     ve (.bool true),
     ve (.bool true),
     ve (.pointer (some ⟨q9, 5, none⟩)),
     ve (sv Bv v.s dv),
     ve (.pointer (some ⟨q13, 5, none⟩)),
     ve (sv Bu u.s du),
     ve (.bool false),
     ve (.bool false),
     ve (.bool false),
     ve undef,
     ve undef,
     ve undef,
     ve undef,
     ve undef,
     ve (.bool false),
     ve (.bool false)] hs6 (.eq (.eq (.eq (.eq (.eq (.eq (.eq (.eq (.eq (.eq (.eq (.eq (.eq (.eq (.eq (.eq (.eq (.eq (.eq (.eq (.eq (.eq (.eq (.eq (.eq (.eq (.eq (.eq (.eq (.eq (.eq (.eq (.eq (.eq (.eq (.eq (.eq (.eq (.eq (.eq (.eq (.eq (.eq (.eq (.eq (.nil)))))))))))))))))))))))))))))))))))))))))))))) ?_ ?_
  refine .o1 (tk rfl rfl fun _ w hn k => ⟨_, v_field rfl (k.fx 2 h8) (fun w => rfl), rfl⟩) ?_
  refine .o1 (tk rfl rfl fun _ w hn k => ⟨_, v_load rfl (k.eq1 0 5 rfl) (l_one Try.isAgg3 ((hb11.new_ hn).cell 0)), rfl⟩) ?_
  refine .o1 (tk rfl rfl fun _ w hn k => ⟨_, v_field rfl (k.fx 3 h12) (fun w => rfl), rfl⟩) ?_
  refine .o1 (tk rfl rfl fun _ w hn k => ⟨_, v_load rfl (k.eq1 2 7 rfl) (l_one Try.isAgg3 ((hb15.new_ hn).cell 0)), rfl⟩) ?_
  refine .o1 (tk rfl rfl fun _ w hn k => ⟨_, v_bin rfl (k.eq1 1 6 rfl) (k.eq1 3 8 rfl) (fun _ => rfl) (r_eql ht20), rfl⟩) ?_
  refine .o1 (tk rfl rfl fun _ w hn k => ⟨_, v_move rfl (k.eq1 4 9 rfl), rfl⟩) ?_
  refine .o1 (tg rfl rfl rfl (fun _ _ k => k.eq1 5 10 rfl) fun _ w hn k => ⟨_, v_field rfl (k.fx 2 h8) (fun w => rfl), rfl⟩) ?_
  refine .o1 (tg rfl rfl rfl (fun _ _ k => k.eq1 5 10 rfl) fun _ w hn k => ⟨_, v_load rfl (k.eq1 6 11 rfl) (l_part Try.isAgg23 Try.sizeOf23 (hb11.new_ hn) (Nat.le_of_ble_eq_true rfl)), rfl⟩) ?_
  refine .o1 (tg rfl rfl rfl (fun _ _ k => k.eq1 5 10 rfl) fun _ w hn k => ⟨_, v_field rfl (k.fx 3 h12) (fun w => rfl), rfl⟩) ?_
  refine .o1 (tg rfl rfl rfl (fun _ _ k => k.eq1 5 10 rfl) fun _ w hn k => ⟨_, v_load rfl (k.eq1 8 13 rfl) (l_part Try.isAgg23 Try.sizeOf23 (hb15.new_ hn) (Nat.le_of_ble_eq_true rfl)), rfl⟩) ?_
  refine .o1 (tg rfl rfl rfl (fun _ _ k => k.eq1 5 10 rfl) fun _ w hn k => ⟨_, v_bin rfl (k.eq1 7 12 rfl) (k.eq1 9 14 rfl) (gNum _ _ _ _) (eqlNum _ _ _ _ (by show (decide (v.nk = u.nk) && decide (v.nn = u.nn)) = true; simp [ht21, ht22])), rfl⟩) ?_
  refine .o1 (tk rfl rfl fun _ w hn k => ⟨_, v_pickT rfl (k.eq1 5 10 rfl) (k.eq1 10 15 rfl), rfl⟩) ?_
  refine .o1 (tk rfl rfl fun _ w hn k => ⟨_, v_move rfl (k.eq1 11 16 rfl), rfl⟩) ?_
  refine .o1 (tg rfl rfl rfl (fun _ _ k => k.eq1 12 17 rfl) fun _ w hn k => ⟨_, v_field rfl (k.fx 2 h8) (fun w => rfl), rfl⟩) ?_
  refine .o1 (tg rfl rfl rfl (fun _ _ k => k.eq1 12 17 rfl) fun _ w hn k => ⟨_, v_field rfl (k.eq1 13 18 rfl) (fun w => rfl), rfl⟩) ?_
  refine .o1 (tg rfl rfl rfl (fun _ _ k => k.eq1 12 17 rfl) fun _ w hn k => ⟨_, v_load rfl (k.eq1 14 19 rfl) (l_one Try.isAgg4 ((hb11.new_ hn).cell 3)), congrArg Value.bool ht23⟩) ?_
  refine .o1 (tg rfl rfl rfl (fun _ _ k => k.eq1 12 17 rfl) fun _ w hn k => ⟨_, v_field rfl (k.fx 3 h12) (fun w => rfl), rfl⟩) ?_
  refine .o1 (tg rfl rfl rfl (fun _ _ k => k.eq1 12 17 rfl) fun _ w hn k => ⟨_, v_field rfl (k.eq1 16 21 rfl) (fun w => rfl), rfl⟩) ?_
  refine .o1 (tg rfl rfl rfl (fun _ _ k => k.eq1 12 17 rfl) fun _ w hn k => ⟨_, v_load rfl (k.eq1 17 22 rfl) (l_one Try.isAgg4 ((hb15.new_ hn).cell 3)), congrArg Value.bool ht59⟩) ?_
  refine .o1 (tg rfl rfl rfl (fun _ _ k => k.eq1 12 17 rfl) fun _ w hn k => ⟨_, v_bin rfl (k.eq1 15 20 rfl) (k.eq1 18 23 rfl) (fun _ => rfl) (fun w => by kernel_rfl), rfl⟩) ?_
  refine .o1 (tk rfl rfl fun _ w hn k => ⟨_, v_pickT rfl (k.eq1 12 17 rfl) (k.eq1 19 24 rfl), rfl⟩) ?_
  refine .o1 (tk rfl rfl fun _ w hn k => ⟨_, v_move rfl (k.eq1 20 25 rfl), rfl⟩) ?_
  refine .o1 (tg rfl rfl rfl (fun _ _ k => k.eq1 21 26 rfl) fun _ w hn k => ⟨_, v_field rfl (k.fx 2 h8) (fun w => rfl), rfl⟩) ?_
  refine .o1 (tg rfl rfl rfl (fun _ _ k => k.eq1 21 26 rfl) fun _ w hn k => ⟨_, v_field rfl (k.eq1 22 27 rfl) (fun w => rfl), rfl⟩) ?_
  refine .o1 (tg rfl rfl rfl (fun _ _ k => k.eq1 21 26 rfl) fun _ w hn k => ⟨_, v_load rfl (k.eq1 23 28 rfl) (l_one Try.isAgg24 ((hb11.new_ hn).cell 4)), rfl⟩) ?_
  refine .o1 (tg rfl rfl rfl (fun _ _ k => k.eq1 21 26 rfl) fun _ w hn k => ⟨_, v_field rfl (k.fx 3 h12) (fun w => rfl), rfl⟩) ?_
  refine .o1 (tg rfl rfl rfl (fun _ _ k => k.eq1 21 26 rfl) fun _ w hn k => ⟨_, v_field rfl (k.eq1 25 30 rfl) (fun w => rfl), rfl⟩) ?_
  refine .o1 (tg rfl rfl rfl (fun _ _ k => k.eq1 21 26 rfl) fun _ w hn k => ⟨_, v_load rfl (k.eq1 26 31 rfl) (l_one Try.isAgg24 ((hb15.new_ hn).cell 4)), rfl⟩) ?_
  refine .o1 (cg rfl rfl rfl (fun _ _ k => k.eq1 21 26 rfl) rfl (fun _ w hn k => ⟨#[sv Av v.mag cv, sv Au u.mag cu], args2 (k.eq1 24 29 rfl) (k.eq1 27 32 rfl), fun _ => by kernel_rfl, sequal32_c _ v.mag _ _ u.mag _ _ (hmv.new_ (hN18.transNew hn)) (hmu.new_ (hN18.transNew hn))⟩) fun _ => congrArg Value.bool ht68) ?_
  refine .o1 (tk rfl rfl fun _ w hn k => ⟨_, v_pickT rfl (k.eq1 21 26 rfl) (k.eq1 28 33 rfl), rfl⟩) ?_
  refine .o1 (tk rfl rfl fun _ w hn k => ⟨_, v_move rfl (k.eq1 29 34 rfl), rfl⟩) ?_
  refine .o1 (tg rfl rfl rfl (fun _ _ k => k.eq1 30 35 rfl) fun _ w hn k => ⟨_, v_field rfl (k.fx 2 h8) (fun w => rfl), rfl⟩) ?_
  refine .o1 (tg rfl rfl rfl (fun _ _ k => k.eq1 30 35 rfl) fun _ w hn k => ⟨_, v_load rfl (k.eq1 31 36 rfl) (l_one Try.isAgg27 ((hb11.new_ hn).cell 5)), rfl⟩) ?_
  refine .o1 (tg rfl rfl rfl (fun _ _ k => k.eq1 30 35 rfl) fun _ w hn k => ⟨_, v_field rfl (k.fx 3 h12) (fun w => rfl), rfl⟩) ?_
  refine .o1 (tg rfl rfl rfl (fun _ _ k => k.eq1 30 35 rfl) fun _ w hn k => ⟨_, v_load rfl (k.eq1 33 38 rfl) (l_one Try.isAgg27 ((hb15.new_ hn).cell 5)), rfl⟩) ?_
  refine .o1 (cg rfl rfl rfl (fun _ _ k => k.eq1 30 35 rfl) rfl (fun _ w hn k => ⟨#[sv Bv v.s dv, sv Bu u.s du], args2 (k.eq1 32 37 rfl) (k.eq1 34 39 rfl), fun _ => by kernel_rfl, sequal16_c _ v.s _ _ u.s _ _ (hsv.new_ (hN18.transNew hn)) (hsu.new_ (hN18.transNew hn))⟩) fun _ => congrArg Value.bool ht69) ?_
  refine .o1 (tk rfl rfl fun _ w hn k => ⟨_, v_pickT rfl (k.eq1 30 35 rfl) (k.eq1 35 40 rfl), rfl⟩) ?_
  refine .o1 (tk rfl rfl fun _ w hn k => ⟨_, v_move rfl (k.eq1 36 41 rfl), rfl⟩) ?_
  refine .o1 (sk rfl rfl rfl (fun _ _ _ k => k.eq1 37 42 rfl) (fun _ => rfl)) ?_
  refine .o1 (sk rfl rfl rfl (fun _ _ _ k => k.eq1 37 42 rfl) (fun _ => rfl)) ?_
  refine .o1 (sk rfl rfl rfl (fun _ _ _ k => k.eq1 37 42 rfl) (fun _ => rfl)) ?_
  refine .o1 (sk rfl rfl rfl (fun _ _ _ k => k.eq1 37 42 rfl) (fun _ => rfl)) ?_
  refine .o1 (sk rfl rfl rfl (fun _ _ _ k => k.eq1 37 42 rfl) (fun _ => rfl)) ?_
  refine .o1 (tk rfl rfl fun _ w hn k => ⟨_, v_pickF rfl (k.eq1 37 42 rfl) rfl, rfl⟩) ?_
  refine .o1 (tk rfl rfl fun _ w hn k => ⟨_, v_assign rfl (k.eq1 43 48 rfl), rfl⟩) ?_
  exact .nil
  intro a78 w79 hn80 ha81
  obtain ⟨hs82, hd83, hN85⟩ := aft ha81 hs6 hd7 hN18 hn80
  have h84 := ha81.ge 44 4 rfl
  refine st_nil (hK19 _ _ ?_)
  refine wp_ret (ret_k hd83 (v := .bool false) (res_t rfl h84 _) ?_)
  refine ⟨?_, hN85⟩
  show Ending.returned (.bool false) = Ending.returned (.bool (sameV v u))
  first | rfl | (simp only [sameV, ht20, ht21, ht22, ht23, ht59, ht68, ht69, bsm] <;> rfl) | (simp [sameV, ht20, ht21, ht22, ht23, ht59, ht68, ht69]; done) | (exfalso; omega)
  have ht68d := of_decide_eq_false ht68
  refine wp_g0 [true, true, true, true, true, true, true, true, true, true, true, true, true, true, true, true, true, true, true, true, true, true, true, true, true, true, true, true, true, true, true, true, true, true, true, true, true, true, true, true, true, true, true, true, true] [] 49
    [ve (pv q9),
     ve (iv v.k),
     ve (pv q13),
     ve (iv u.k),
     ve (.bool true),
     ve (.bool true),
     ve (.pointer (some ⟨q9, 1, none⟩)),
     ve (nv (Nm.mk v.nk v.nn)),
     ve (.pointer (some ⟨q13, 1, none⟩)),
     ve (nv (Nm.mk u.nk u.nn)),
     ve (.bool true),
     ve (.bool true),
     ve (.bool true),
     ve (.pointer (some ⟨q9, 3, none⟩)),
     ve (.pointer (some ⟨q9, 3, none⟩)),
     ve (.bool false),
     ve (.pointer (some ⟨q13, 3, none⟩)),
     ve (.pointer (some ⟨q13, 3, none⟩)),
     ve (.bool false),
     ve (.bool true),
     ve (.bool true),
     ve (.bool true),
     ve (.pointer (some ⟨q9, 3, none⟩)),
     ve (.pointer (some ⟨q9, 4, none⟩)),
     ve (sv Av v.mag cv),
     ve (.pointer (some ⟨q13, 3, none⟩)),
     ve (.pointer (some ⟨q13, 4, none⟩)),
     ve (sv Au u.mag cu),
     ve (.bool false),
     ve (.bool false),
     ve (.bool false),
     ve undef,
     ve undef,
     ve undef,
     ve undef,
     ve undef,
     ve (.bool false),
     ve (.bool false),
     ve undef,
     ve undef,
     ve undef,
     ve undef,
     ve undef,
     ve (.bool false),
     ve (.bool false)] hs6 (.eq (.eq (.eq (.eq (.eq (.eq (.eq (.eq (.eq (.eq (.eq (.eq (.eq (.eq (.eq (.eq (.eq (.eq (.eq (.eq (.eq (.eq (.eq (.eq (.eq (.eq (.eq (.eq (.eq (.eq (.eq (.eq (.eq (.eq (.eq (.eq (.eq (.eq (.eq (.eq (.eq (.eq (.eq (.eq (.eq (.nil)))))))))))))))))))))))))))))))))))))))))))))) ?_ ?_
  refine .o1 (tk rfl rfl fun _ w hn k => ⟨_, v_field rfl (k.fx 2 h8) (fun w => rfl), rfl⟩) ?_
  refine .o1 (tk rfl rfl fun _ w hn k => ⟨_, v_load rfl (k.eq1 0 5 rfl) (l_one Try.isAgg3 ((hb11.new_ hn).cell 0)), rfl⟩) ?_
  refine .o1 (tk rfl rfl fun _ w hn k => ⟨_, v_field rfl (k.fx 3 h12) (fun w => rfl), rfl⟩) ?_
  refine .o1 (tk rfl rfl fun _ w hn k => ⟨_, v_load rfl (k.eq1 2 7 rfl) (l_one Try.isAgg3 ((hb15.new_ hn).cell 0)), rfl⟩) ?_
  refine .o1 (tk rfl rfl fun _ w hn k => ⟨_, v_bin rfl (k.eq1 1 6 rfl) (k.eq1 3 8 rfl) (fun _ => rfl) (r_eql ht20), rfl⟩) ?_
  refine .o1 (tk rfl rfl fun _ w hn k => ⟨_, v_move rfl (k.eq1 4 9 rfl), rfl⟩) ?_
  refine .o1 (tg rfl rfl rfl (fun _ _ k => k.eq1 5 10 rfl) fun _ w hn k => ⟨_, v_field rfl (k.fx 2 h8) (fun w => rfl), rfl⟩) ?_
  refine .o1 (tg rfl rfl rfl (fun _ _ k => k.eq1 5 10 rfl) fun _ w hn k => ⟨_, v_load rfl (k.eq1 6 11 rfl) (l_part Try.isAgg23 Try.sizeOf23 (hb11.new_ hn) (Nat.le_of_ble_eq_true rfl)), rfl⟩) ?_
  refine .o1 (tg rfl rfl rfl (fun _ _ k => k.eq1 5 10 rfl) fun _ w hn k => ⟨_, v_field rfl (k.fx 3 h12) (fun w => rfl), rfl⟩) ?_
  refine .o1 (tg rfl rfl rfl (fun _ _ k => k.eq1 5 10 rfl) fun _ w hn k => ⟨_, v_load rfl (k.eq1 8 13 rfl) (l_part Try.isAgg23 Try.sizeOf23 (hb15.new_ hn) (Nat.le_of_ble_eq_true rfl)), rfl⟩) ?_
  refine .o1 (tg rfl rfl rfl (fun _ _ k => k.eq1 5 10 rfl) fun _ w hn k => ⟨_, v_bin rfl (k.eq1 7 12 rfl) (k.eq1 9 14 rfl) (gNum _ _ _ _) (eqlNum _ _ _ _ (by show (decide (v.nk = u.nk) && decide (v.nn = u.nn)) = true; simp [ht21, ht22])), rfl⟩) ?_
  refine .o1 (tk rfl rfl fun _ w hn k => ⟨_, v_pickT rfl (k.eq1 5 10 rfl) (k.eq1 10 15 rfl), rfl⟩) ?_
  refine .o1 (tk rfl rfl fun _ w hn k => ⟨_, v_move rfl (k.eq1 11 16 rfl), rfl⟩) ?_
  refine .o1 (tg rfl rfl rfl (fun _ _ k => k.eq1 12 17 rfl) fun _ w hn k => ⟨_, v_field rfl (k.fx 2 h8) (fun w => rfl), rfl⟩) ?_
  refine .o1 (tg rfl rfl rfl (fun _ _ k => k.eq1 12 17 rfl) fun _ w hn k => ⟨_, v_field rfl (k.eq1 13 18 rfl) (fun w => rfl), rfl⟩) ?_
  refine .o1 (tg rfl rfl rfl (fun _ _ k => k.eq1 12 17 rfl) fun _ w hn k => ⟨_, v_load rfl (k.eq1 14 19 rfl) (l_one Try.isAgg4 ((hb11.new_ hn).cell 3)), congrArg Value.bool ht23⟩) ?_
  refine .o1 (tg rfl rfl rfl (fun _ _ k => k.eq1 12 17 rfl) fun _ w hn k => ⟨_, v_field rfl (k.fx 3 h12) (fun w => rfl), rfl⟩) ?_
  refine .o1 (tg rfl rfl rfl (fun _ _ k => k.eq1 12 17 rfl) fun _ w hn k => ⟨_, v_field rfl (k.eq1 16 21 rfl) (fun w => rfl), rfl⟩) ?_
  refine .o1 (tg rfl rfl rfl (fun _ _ k => k.eq1 12 17 rfl) fun _ w hn k => ⟨_, v_load rfl (k.eq1 17 22 rfl) (l_one Try.isAgg4 ((hb15.new_ hn).cell 3)), congrArg Value.bool ht59⟩) ?_
  refine .o1 (tg rfl rfl rfl (fun _ _ k => k.eq1 12 17 rfl) fun _ w hn k => ⟨_, v_bin rfl (k.eq1 15 20 rfl) (k.eq1 18 23 rfl) (fun _ => rfl) (fun w => by kernel_rfl), rfl⟩) ?_
  refine .o1 (tk rfl rfl fun _ w hn k => ⟨_, v_pickT rfl (k.eq1 12 17 rfl) (k.eq1 19 24 rfl), rfl⟩) ?_
  refine .o1 (tk rfl rfl fun _ w hn k => ⟨_, v_move rfl (k.eq1 20 25 rfl), rfl⟩) ?_
  refine .o1 (tg rfl rfl rfl (fun _ _ k => k.eq1 21 26 rfl) fun _ w hn k => ⟨_, v_field rfl (k.fx 2 h8) (fun w => rfl), rfl⟩) ?_
  refine .o1 (tg rfl rfl rfl (fun _ _ k => k.eq1 21 26 rfl) fun _ w hn k => ⟨_, v_field rfl (k.eq1 22 27 rfl) (fun w => rfl), rfl⟩) ?_
  refine .o1 (tg rfl rfl rfl (fun _ _ k => k.eq1 21 26 rfl) fun _ w hn k => ⟨_, v_load rfl (k.eq1 23 28 rfl) (l_one Try.isAgg24 ((hb11.new_ hn).cell 4)), rfl⟩) ?_
  refine .o1 (tg rfl rfl rfl (fun _ _ k => k.eq1 21 26 rfl) fun _ w hn k => ⟨_, v_field rfl (k.fx 3 h12) (fun w => rfl), rfl⟩) ?_
  refine .o1 (tg rfl rfl rfl (fun _ _ k => k.eq1 21 26 rfl) fun _ w hn k => ⟨_, v_field rfl (k.eq1 25 30 rfl) (fun w => rfl), rfl⟩) ?_
  refine .o1 (tg rfl rfl rfl (fun _ _ k => k.eq1 21 26 rfl) fun _ w hn k => ⟨_, v_load rfl (k.eq1 26 31 rfl) (l_one Try.isAgg24 ((hb15.new_ hn).cell 4)), rfl⟩) ?_
  refine .o1 (cg rfl rfl rfl (fun _ _ k => k.eq1 21 26 rfl) rfl (fun _ w hn k => ⟨#[sv Av v.mag cv, sv Au u.mag cu], args2 (k.eq1 24 29 rfl) (k.eq1 27 32 rfl), fun _ => by kernel_rfl, sequal32_c _ v.mag _ _ u.mag _ _ (hmv.new_ (hN18.transNew hn)) (hmu.new_ (hN18.transNew hn))⟩) fun _ => congrArg Value.bool ht68) ?_
  refine .o1 (tk rfl rfl fun _ w hn k => ⟨_, v_pickT rfl (k.eq1 21 26 rfl) (k.eq1 28 33 rfl), rfl⟩) ?_
  refine .o1 (tk rfl rfl fun _ w hn k => ⟨_, v_move rfl (k.eq1 29 34 rfl), rfl⟩) ?_
  refine .o1 (sk rfl rfl rfl (fun _ _ _ k => k.eq1 30 35 rfl) (fun _ => rfl)) ?_
  refine .o1 (sk rfl rfl rfl (fun _ _ _ k => k.eq1 30 35 rfl) (fun _ => rfl)) ?_
  refine .o1 (sk rfl rfl rfl (fun _ _ _ k => k.eq1 30 35 rfl) (fun _ => rfl)) ?_
  refine .o1 (sk rfl rfl rfl (fun _ _ _ k => k.eq1 30 35 rfl) (fun _ => rfl)) ?_
  refine .o1 (sk rfl rfl rfl (fun _ _ _ k => k.eq1 30 35 rfl) (fun _ => rfl)) ?_
  refine .o1 (tk rfl rfl fun _ w hn k => ⟨_, v_pickF rfl (k.eq1 30 35 rfl) rfl, rfl⟩) ?_
  refine .o1 (tk rfl rfl fun _ w hn k => ⟨_, v_move rfl (k.eq1 36 41 rfl), rfl⟩) ?_
  refine .o1 (sk rfl rfl rfl (fun _ _ _ k => k.eq1 37 42 rfl) (fun _ => rfl)) ?_
  refine .o1 (sk rfl rfl rfl (fun _ _ _ k => k.eq1 37 42 rfl) (fun _ => rfl)) ?_
  refine .o1 (sk rfl rfl rfl (fun _ _ _ k => k.eq1 37 42 rfl) (fun _ => rfl)) ?_
  refine .o1 (sk rfl rfl rfl (fun _ _ _ k => k.eq1 37 42 rfl) (fun _ => rfl)) ?_
  refine .o1 (sk rfl rfl rfl (fun _ _ _ k => k.eq1 37 42 rfl) (fun _ => rfl)) ?_
  refine .o1 (tk rfl rfl fun _ w hn k => ⟨_, v_pickF rfl (k.eq1 37 42 rfl) rfl, rfl⟩) ?_
  refine .o1 (tk rfl rfl fun _ w hn k => ⟨_, v_assign rfl (k.eq1 43 48 rfl), rfl⟩) ?_
  exact .nil
  intro a86 w87 hn88 ha89
  obtain ⟨hs90, hd91, hN93⟩ := aft ha89 hs6 hd7 hN18 hn88
  have h92 := ha89.ge 44 4 rfl
  refine st_nil (hK19 _ _ ?_)
  refine wp_ret (ret_k hd91 (v := .bool false) (res_t rfl h92 _) ?_)
  refine ⟨?_, hN93⟩
  show Ending.returned (.bool false) = Ending.returned (.bool (sameV v u))
  first | rfl | (simp only [sameV, ht20, ht21, ht22, ht23, ht59, ht68, bsm] <;> rfl) | (simp [sameV, ht20, ht21, ht22, ht23, ht59, ht68]; done) | (exfalso; omega)
  have ht22d := of_decide_eq_false ht22
  refine wp_g0 [true, true, true, true, true, true, true, true, true, true, true, true, true, true, true, true, true, true, true, true, true, true, true, true, true, true, true, true, true, true, true, true, true, true, true, true, true, true, true, true, true, true, true, true, true] [] 49
    [ve (pv q9),
     ve (iv v.k),
     ve (pv q13),
     ve (iv u.k),
     ve (.bool true),
     ve (.bool true),
     ve (.pointer (some ⟨q9, 1, none⟩)),
     ve (nv (Nm.mk v.nk v.nn)),
     ve (.pointer (some ⟨q13, 1, none⟩)),
     ve (nv (Nm.mk u.nk u.nn)),
     ve (.bool false),
     ve (.bool false),
     ve (.bool false),
     ve undef,
     ve undef,
     ve undef,
     ve undef,
     ve undef,
     ve undef,
     ve undef,
     ve (.bool false),
     ve (.bool false),
     ve undef,
     ve undef,
     ve undef,
     ve undef,
     ve undef,
     ve undef,
     ve undef,
     ve (.bool false),
     ve (.bool false),
     ve undef,
     ve undef,
     ve undef,
     ve undef,
     ve undef,
     ve (.bool false),
     ve (.bool false),
     ve undef,
     ve undef,
     ve undef,
     ve undef,
     ve undef,
     ve (.bool false),
     ve (.bool false)] hs6 (.eq (.eq (.eq (.eq (.eq (.eq (.eq (.eq (.eq (.eq (.eq (.eq (.eq (.eq (.eq (.eq (.eq (.eq (.eq (.eq (.eq (.eq (.eq (.eq (.eq (.eq (.eq (.eq (.eq (.eq (.eq (.eq (.eq (.eq (.eq (.eq (.eq (.eq (.eq (.eq (.eq (.eq (.eq (.eq (.eq (.nil)))))))))))))))))))))))))))))))))))))))))))))) ?_ ?_
  refine .o1 (tk rfl rfl fun _ w hn k => ⟨_, v_field rfl (k.fx 2 h8) (fun w => rfl), rfl⟩) ?_
  refine .o1 (tk rfl rfl fun _ w hn k => ⟨_, v_load rfl (k.eq1 0 5 rfl) (l_one Try.isAgg3 ((hb11.new_ hn).cell 0)), rfl⟩) ?_
  refine .o1 (tk rfl rfl fun _ w hn k => ⟨_, v_field rfl (k.fx 3 h12) (fun w => rfl), rfl⟩) ?_
  refine .o1 (tk rfl rfl fun _ w hn k => ⟨_, v_load rfl (k.eq1 2 7 rfl) (l_one Try.isAgg3 ((hb15.new_ hn).cell 0)), rfl⟩) ?_
  refine .o1 (tk rfl rfl fun _ w hn k => ⟨_, v_bin rfl (k.eq1 1 6 rfl) (k.eq1 3 8 rfl) (fun _ => rfl) (r_eql ht20), rfl⟩) ?_
  refine .o1 (tk rfl rfl fun _ w hn k => ⟨_, v_move rfl (k.eq1 4 9 rfl), rfl⟩) ?_
  refine .o1 (tg rfl rfl rfl (fun _ _ k => k.eq1 5 10 rfl) fun _ w hn k => ⟨_, v_field rfl (k.fx 2 h8) (fun w => rfl), rfl⟩) ?_
  refine .o1 (tg rfl rfl rfl (fun _ _ k => k.eq1 5 10 rfl) fun _ w hn k => ⟨_, v_load rfl (k.eq1 6 11 rfl) (l_part Try.isAgg23 Try.sizeOf23 (hb11.new_ hn) (Nat.le_of_ble_eq_true rfl)), rfl⟩) ?_
  refine .o1 (tg rfl rfl rfl (fun _ _ k => k.eq1 5 10 rfl) fun _ w hn k => ⟨_, v_field rfl (k.fx 3 h12) (fun w => rfl), rfl⟩) ?_
  refine .o1 (tg rfl rfl rfl (fun _ _ k => k.eq1 5 10 rfl) fun _ w hn k => ⟨_, v_load rfl (k.eq1 8 13 rfl) (l_part Try.isAgg23 Try.sizeOf23 (hb15.new_ hn) (Nat.le_of_ble_eq_true rfl)), rfl⟩) ?_
  refine .o1 (tg rfl rfl rfl (fun _ _ k => k.eq1 5 10 rfl) fun _ w hn k => ⟨_, v_bin rfl (k.eq1 7 12 rfl) (k.eq1 9 14 rfl) (gNum _ _ _ _) (eqlNum _ _ _ _ (by show (decide (v.nk = u.nk) && decide (v.nn = u.nn)) = false; simp [ht21, ht22])), rfl⟩) ?_
  refine .o1 (tk rfl rfl fun _ w hn k => ⟨_, v_pickT rfl (k.eq1 5 10 rfl) (k.eq1 10 15 rfl), rfl⟩) ?_
  refine .o1 (tk rfl rfl fun _ w hn k => ⟨_, v_move rfl (k.eq1 11 16 rfl), rfl⟩) ?_
  refine .o1 (sk rfl rfl rfl (fun _ _ _ k => k.eq1 12 17 rfl) (fun _ => rfl)) ?_
  refine .o1 (sk rfl rfl rfl (fun _ _ _ k => k.eq1 12 17 rfl) (fun _ => rfl)) ?_
  refine .o1 (sk rfl rfl rfl (fun _ _ _ k => k.eq1 12 17 rfl) (fun _ => rfl)) ?_
  refine .o1 (sk rfl rfl rfl (fun _ _ _ k => k.eq1 12 17 rfl) (fun _ => rfl)) ?_
  refine .o1 (sk rfl rfl rfl (fun _ _ _ k => k.eq1 12 17 rfl) (fun _ => rfl)) ?_
  refine .o1 (sk rfl rfl rfl (fun _ _ _ k => k.eq1 12 17 rfl) (fun _ => rfl)) ?_
  refine .o1 (sk rfl rfl rfl (fun _ _ _ k => k.eq1 12 17 rfl) (fun _ => rfl)) ?_
  refine .o1 (tk rfl rfl fun _ w hn k => ⟨_, v_pickF rfl (k.eq1 12 17 rfl) rfl, rfl⟩) ?_
  refine .o1 (tk rfl rfl fun _ w hn k => ⟨_, v_move rfl (k.eq1 20 25 rfl), rfl⟩) ?_
  refine .o1 (sk rfl rfl rfl (fun _ _ _ k => k.eq1 21 26 rfl) (fun _ => rfl)) ?_
  refine .o1 (sk rfl rfl rfl (fun _ _ _ k => k.eq1 21 26 rfl) (fun _ => rfl)) ?_
  refine .o1 (sk rfl rfl rfl (fun _ _ _ k => k.eq1 21 26 rfl) (fun _ => rfl)) ?_
  refine .o1 (sk rfl rfl rfl (fun _ _ _ k => k.eq1 21 26 rfl) (fun _ => rfl)) ?_
  refine .o1 (sk rfl rfl rfl (fun _ _ _ k => k.eq1 21 26 rfl) (fun _ => rfl)) ?_
  refine .o1 (sk rfl rfl rfl (fun _ _ _ k => k.eq1 21 26 rfl) (fun _ => rfl)) ?_
  refine .o1 (sk rfl rfl rfl (fun _ _ _ k => k.eq1 21 26 rfl) (fun _ => rfl)) ?_
  refine .o1 (tk rfl rfl fun _ w hn k => ⟨_, v_pickF rfl (k.eq1 21 26 rfl) rfl, rfl⟩) ?_
  refine .o1 (tk rfl rfl fun _ w hn k => ⟨_, v_move rfl (k.eq1 29 34 rfl), rfl⟩) ?_
  refine .o1 (sk rfl rfl rfl (fun _ _ _ k => k.eq1 30 35 rfl) (fun _ => rfl)) ?_
  refine .o1 (sk rfl rfl rfl (fun _ _ _ k => k.eq1 30 35 rfl) (fun _ => rfl)) ?_
  refine .o1 (sk rfl rfl rfl (fun _ _ _ k => k.eq1 30 35 rfl) (fun _ => rfl)) ?_
  refine .o1 (sk rfl rfl rfl (fun _ _ _ k => k.eq1 30 35 rfl) (fun _ => rfl)) ?_
  refine .o1 (sk rfl rfl rfl (fun _ _ _ k => k.eq1 30 35 rfl) (fun _ => rfl)) ?_
  refine .o1 (tk rfl rfl fun _ w hn k => ⟨_, v_pickF rfl (k.eq1 30 35 rfl) rfl, rfl⟩) ?_
  refine .o1 (tk rfl rfl fun _ w hn k => ⟨_, v_move rfl (k.eq1 36 41 rfl), rfl⟩) ?_
  refine .o1 (sk rfl rfl rfl (fun _ _ _ k => k.eq1 37 42 rfl) (fun _ => rfl)) ?_
  refine .o1 (sk rfl rfl rfl (fun _ _ _ k => k.eq1 37 42 rfl) (fun _ => rfl)) ?_
  refine .o1 (sk rfl rfl rfl (fun _ _ _ k => k.eq1 37 42 rfl) (fun _ => rfl)) ?_
  refine .o1 (sk rfl rfl rfl (fun _ _ _ k => k.eq1 37 42 rfl) (fun _ => rfl)) ?_
  refine .o1 (sk rfl rfl rfl (fun _ _ _ k => k.eq1 37 42 rfl) (fun _ => rfl)) ?_
  refine .o1 (tk rfl rfl fun _ w hn k => ⟨_, v_pickF rfl (k.eq1 37 42 rfl) rfl, rfl⟩) ?_
  refine .o1 (tk rfl rfl fun _ w hn k => ⟨_, v_assign rfl (k.eq1 43 48 rfl), rfl⟩) ?_
  exact .nil
  intro a94 w95 hn96 ha97
  obtain ⟨hs98, hd99, hN101⟩ := aft ha97 hs6 hd7 hN18 hn96
  have h100 := ha97.ge 44 4 rfl
  refine st_nil (hK19 _ _ ?_)
  refine wp_ret (ret_k hd99 (v := .bool false) (res_t rfl h100 _) ?_)
  refine ⟨?_, hN101⟩
  show Ending.returned (.bool false) = Ending.returned (.bool (sameV v u))
  first | rfl | (simp only [sameV, ht20, ht21, ht22, bsm] <;> rfl) | (simp [sameV, ht20, ht21, ht22]; done) | (exfalso; omega)
  have ht21d := of_decide_eq_false ht21
  refine wp_g0 [true, true, true, true, true, true, true, true, true, true, true, true, true, true, true, true, true, true, true, true, true, true, true, true, true, true, true, true, true, true, true, true, true, true, true, true, true, true, true, true, true, true, true, true, true] [] 49
    [ve (pv q9),
     ve (iv v.k),
     ve (pv q13),
     ve (iv u.k),
     ve (.bool true),
     ve (.bool true),
     ve (.pointer (some ⟨q9, 1, none⟩)),
     ve (nv (Nm.mk v.nk v.nn)),
     ve (.pointer (some ⟨q13, 1, none⟩)),
     ve (nv (Nm.mk u.nk u.nn)),
     ve (.bool false),
     ve (.bool false),
     ve (.bool false),
     ve undef,
     ve undef,
     ve undef,
     ve undef,
     ve undef,
     ve undef,
     ve undef,
     ve (.bool false),
     ve (.bool false),
     ve undef,
     ve undef,
     ve undef,
     ve undef,
     ve undef,
     ve undef,
     ve undef,
     ve (.bool false),
     ve (.bool false),
     ve undef,
     ve undef,
     ve undef,
     ve undef,
     ve undef,
     ve (.bool false),
     ve (.bool false),
     ve undef,
     ve undef,
     ve undef,
     ve undef,
     ve undef,
     ve (.bool false),
     ve (.bool false)] hs6 (.eq (.eq (.eq (.eq (.eq (.eq (.eq (.eq (.eq (.eq (.eq (.eq (.eq (.eq (.eq (.eq (.eq (.eq (.eq (.eq (.eq (.eq (.eq (.eq (.eq (.eq (.eq (.eq (.eq (.eq (.eq (.eq (.eq (.eq (.eq (.eq (.eq (.eq (.eq (.eq (.eq (.eq (.eq (.eq (.eq (.nil)))))))))))))))))))))))))))))))))))))))))))))) ?_ ?_
  refine .o1 (tk rfl rfl fun _ w hn k => ⟨_, v_field rfl (k.fx 2 h8) (fun w => rfl), rfl⟩) ?_
  refine .o1 (tk rfl rfl fun _ w hn k => ⟨_, v_load rfl (k.eq1 0 5 rfl) (l_one Try.isAgg3 ((hb11.new_ hn).cell 0)), rfl⟩) ?_
  refine .o1 (tk rfl rfl fun _ w hn k => ⟨_, v_field rfl (k.fx 3 h12) (fun w => rfl), rfl⟩) ?_
  refine .o1 (tk rfl rfl fun _ w hn k => ⟨_, v_load rfl (k.eq1 2 7 rfl) (l_one Try.isAgg3 ((hb15.new_ hn).cell 0)), rfl⟩) ?_
  refine .o1 (tk rfl rfl fun _ w hn k => ⟨_, v_bin rfl (k.eq1 1 6 rfl) (k.eq1 3 8 rfl) (fun _ => rfl) (r_eql ht20), rfl⟩) ?_
  refine .o1 (tk rfl rfl fun _ w hn k => ⟨_, v_move rfl (k.eq1 4 9 rfl), rfl⟩) ?_
  refine .o1 (tg rfl rfl rfl (fun _ _ k => k.eq1 5 10 rfl) fun _ w hn k => ⟨_, v_field rfl (k.fx 2 h8) (fun w => rfl), rfl⟩) ?_
  refine .o1 (tg rfl rfl rfl (fun _ _ k => k.eq1 5 10 rfl) fun _ w hn k => ⟨_, v_load rfl (k.eq1 6 11 rfl) (l_part Try.isAgg23 Try.sizeOf23 (hb11.new_ hn) (Nat.le_of_ble_eq_true rfl)), rfl⟩) ?_
  refine .o1 (tg rfl rfl rfl (fun _ _ k => k.eq1 5 10 rfl) fun _ w hn k => ⟨_, v_field rfl (k.fx 3 h12) (fun w => rfl), rfl⟩) ?_
  refine .o1 (tg rfl rfl rfl (fun _ _ k => k.eq1 5 10 rfl) fun _ w hn k => ⟨_, v_load rfl (k.eq1 8 13 rfl) (l_part Try.isAgg23 Try.sizeOf23 (hb15.new_ hn) (Nat.le_of_ble_eq_true rfl)), rfl⟩) ?_
  refine .o1 (tg rfl rfl rfl (fun _ _ k => k.eq1 5 10 rfl) fun _ w hn k => ⟨_, v_bin rfl (k.eq1 7 12 rfl) (k.eq1 9 14 rfl) (gNum _ _ _ _) (eqlNum _ _ _ _ (by show (decide (v.nk = u.nk) && decide (v.nn = u.nn)) = false; simp [ht21])), rfl⟩) ?_
  refine .o1 (tk rfl rfl fun _ w hn k => ⟨_, v_pickT rfl (k.eq1 5 10 rfl) (k.eq1 10 15 rfl), rfl⟩) ?_
  refine .o1 (tk rfl rfl fun _ w hn k => ⟨_, v_move rfl (k.eq1 11 16 rfl), rfl⟩) ?_
  refine .o1 (sk rfl rfl rfl (fun _ _ _ k => k.eq1 12 17 rfl) (fun _ => rfl)) ?_
  refine .o1 (sk rfl rfl rfl (fun _ _ _ k => k.eq1 12 17 rfl) (fun _ => rfl)) ?_
  refine .o1 (sk rfl rfl rfl (fun _ _ _ k => k.eq1 12 17 rfl) (fun _ => rfl)) ?_
  refine .o1 (sk rfl rfl rfl (fun _ _ _ k => k.eq1 12 17 rfl) (fun _ => rfl)) ?_
  refine .o1 (sk rfl rfl rfl (fun _ _ _ k => k.eq1 12 17 rfl) (fun _ => rfl)) ?_
  refine .o1 (sk rfl rfl rfl (fun _ _ _ k => k.eq1 12 17 rfl) (fun _ => rfl)) ?_
  refine .o1 (sk rfl rfl rfl (fun _ _ _ k => k.eq1 12 17 rfl) (fun _ => rfl)) ?_
  refine .o1 (tk rfl rfl fun _ w hn k => ⟨_, v_pickF rfl (k.eq1 12 17 rfl) rfl, rfl⟩) ?_
  refine .o1 (tk rfl rfl fun _ w hn k => ⟨_, v_move rfl (k.eq1 20 25 rfl), rfl⟩) ?_
  refine .o1 (sk rfl rfl rfl (fun _ _ _ k => k.eq1 21 26 rfl) (fun _ => rfl)) ?_
  refine .o1 (sk rfl rfl rfl (fun _ _ _ k => k.eq1 21 26 rfl) (fun _ => rfl)) ?_
  refine .o1 (sk rfl rfl rfl (fun _ _ _ k => k.eq1 21 26 rfl) (fun _ => rfl)) ?_
  refine .o1 (sk rfl rfl rfl (fun _ _ _ k => k.eq1 21 26 rfl) (fun _ => rfl)) ?_
  refine .o1 (sk rfl rfl rfl (fun _ _ _ k => k.eq1 21 26 rfl) (fun _ => rfl)) ?_
  refine .o1 (sk rfl rfl rfl (fun _ _ _ k => k.eq1 21 26 rfl) (fun _ => rfl)) ?_
  refine .o1 (sk rfl rfl rfl (fun _ _ _ k => k.eq1 21 26 rfl) (fun _ => rfl)) ?_
  refine .o1 (tk rfl rfl fun _ w hn k => ⟨_, v_pickF rfl (k.eq1 21 26 rfl) rfl, rfl⟩) ?_
  refine .o1 (tk rfl rfl fun _ w hn k => ⟨_, v_move rfl (k.eq1 29 34 rfl), rfl⟩) ?_
  refine .o1 (sk rfl rfl rfl (fun _ _ _ k => k.eq1 30 35 rfl) (fun _ => rfl)) ?_
  refine .o1 (sk rfl rfl rfl (fun _ _ _ k => k.eq1 30 35 rfl) (fun _ => rfl)) ?_
  refine .o1 (sk rfl rfl rfl (fun _ _ _ k => k.eq1 30 35 rfl) (fun _ => rfl)) ?_
  refine .o1 (sk rfl rfl rfl (fun _ _ _ k => k.eq1 30 35 rfl) (fun _ => rfl)) ?_
  refine .o1 (sk rfl rfl rfl (fun _ _ _ k => k.eq1 30 35 rfl) (fun _ => rfl)) ?_
  refine .o1 (tk rfl rfl fun _ w hn k => ⟨_, v_pickF rfl (k.eq1 30 35 rfl) rfl, rfl⟩) ?_
  refine .o1 (tk rfl rfl fun _ w hn k => ⟨_, v_move rfl (k.eq1 36 41 rfl), rfl⟩) ?_
  refine .o1 (sk rfl rfl rfl (fun _ _ _ k => k.eq1 37 42 rfl) (fun _ => rfl)) ?_
  refine .o1 (sk rfl rfl rfl (fun _ _ _ k => k.eq1 37 42 rfl) (fun _ => rfl)) ?_
  refine .o1 (sk rfl rfl rfl (fun _ _ _ k => k.eq1 37 42 rfl) (fun _ => rfl)) ?_
  refine .o1 (sk rfl rfl rfl (fun _ _ _ k => k.eq1 37 42 rfl) (fun _ => rfl)) ?_
  refine .o1 (sk rfl rfl rfl (fun _ _ _ k => k.eq1 37 42 rfl) (fun _ => rfl)) ?_
  refine .o1 (tk rfl rfl fun _ w hn k => ⟨_, v_pickF rfl (k.eq1 37 42 rfl) rfl, rfl⟩) ?_
  refine .o1 (tk rfl rfl fun _ w hn k => ⟨_, v_assign rfl (k.eq1 43 48 rfl), rfl⟩) ?_
  exact .nil
  intro a102 w103 hn104 ha105
  obtain ⟨hs106, hd107, hN109⟩ := aft ha105 hs6 hd7 hN18 hn104
  have h108 := ha105.ge 44 4 rfl
  refine st_nil (hK19 _ _ ?_)
  refine wp_ret (ret_k hd107 (v := .bool false) (res_t rfl h108 _) ?_)
  refine ⟨?_, hN109⟩
  show Ending.returned (.bool false) = Ending.returned (.bool (sameV v u))
  first | rfl | (simp only [sameV, ht20, ht21, bsm] <;> rfl) | (simp [sameV, ht20, ht21]; done) | (exfalso; omega)
  have ht20d := of_decide_eq_false ht20
  refine wp_g0 [true, true, true, true, true, true, true, true, true, true, true, true, true, true, true, true, true, true, true, true, true, true, true, true, true, true, true, true, true, true, true, true, true, true, true, true, true, true, true, true, true, true, true, true, true] [] 49
    [ve (pv q9),
     ve (iv v.k),
     ve (pv q13),
     ve (iv u.k),
     ve (.bool false),
     ve (.bool false),
     ve undef,
     ve undef,
     ve undef,
     ve undef,
     ve undef,
     ve (.bool false),
     ve (.bool false),
     ve undef,
     ve undef,
     ve undef,
     ve undef,
     ve undef,
     ve undef,
     ve undef,
     ve (.bool false),
     ve (.bool false),
     ve undef,
     ve undef,
     ve undef,
     ve undef,
     ve undef,
     ve undef,
     ve undef,
     ve (.bool false),
     ve (.bool false),
     ve undef,
     ve undef,
     ve undef,
     ve undef,
     ve undef,
     ve (.bool false),
     ve (.bool false),
     ve undef,
     ve undef,
     ve undef,
     ve undef,
     ve undef,
     ve (.bool false),
     ve (.bool false)] hs6 (.eq (.eq (.eq (.eq (.eq (.eq (.eq (.eq (.eq (.eq (.eq (.eq (.eq (.eq (.eq (.eq (.eq (.eq (.eq (.eq (.eq (.eq (.eq (.eq (.eq (.eq (.eq (.eq (.eq (.eq (.eq (.eq (.eq (.eq (.eq (.eq (.eq (.eq (.eq (.eq (.eq (.eq (.eq (.eq (.eq (.nil)))))))))))))))))))))))))))))))))))))))))))))) ?_ ?_
  refine .o1 (tk rfl rfl fun _ w hn k => ⟨_, v_field rfl (k.fx 2 h8) (fun w => rfl), rfl⟩) ?_
  refine .o1 (tk rfl rfl fun _ w hn k => ⟨_, v_load rfl (k.eq1 0 5 rfl) (l_one Try.isAgg3 ((hb11.new_ hn).cell 0)), rfl⟩) ?_
  refine .o1 (tk rfl rfl fun _ w hn k => ⟨_, v_field rfl (k.fx 3 h12) (fun w => rfl), rfl⟩) ?_
  refine .o1 (tk rfl rfl fun _ w hn k => ⟨_, v_load rfl (k.eq1 2 7 rfl) (l_one Try.isAgg3 ((hb15.new_ hn).cell 0)), rfl⟩) ?_
  refine .o1 (tk rfl rfl fun _ w hn k => ⟨_, v_bin rfl (k.eq1 1 6 rfl) (k.eq1 3 8 rfl) (fun _ => rfl) (r_eql ht20), rfl⟩) ?_
  refine .o1 (tk rfl rfl fun _ w hn k => ⟨_, v_move rfl (k.eq1 4 9 rfl), rfl⟩) ?_
  refine .o1 (sk rfl rfl rfl (fun _ _ _ k => k.eq1 5 10 rfl) (fun _ => rfl)) ?_
  refine .o1 (sk rfl rfl rfl (fun _ _ _ k => k.eq1 5 10 rfl) (fun _ => rfl)) ?_
  refine .o1 (sk rfl rfl rfl (fun _ _ _ k => k.eq1 5 10 rfl) (fun _ => rfl)) ?_
  refine .o1 (sk rfl rfl rfl (fun _ _ _ k => k.eq1 5 10 rfl) (fun _ => rfl)) ?_
  refine .o1 (sk rfl rfl rfl (fun _ _ _ k => k.eq1 5 10 rfl) (fun _ => rfl)) ?_
  refine .o1 (tk rfl rfl fun _ w hn k => ⟨_, v_pickF rfl (k.eq1 5 10 rfl) rfl, rfl⟩) ?_
  refine .o1 (tk rfl rfl fun _ w hn k => ⟨_, v_move rfl (k.eq1 11 16 rfl), rfl⟩) ?_
  refine .o1 (sk rfl rfl rfl (fun _ _ _ k => k.eq1 12 17 rfl) (fun _ => rfl)) ?_
  refine .o1 (sk rfl rfl rfl (fun _ _ _ k => k.eq1 12 17 rfl) (fun _ => rfl)) ?_
  refine .o1 (sk rfl rfl rfl (fun _ _ _ k => k.eq1 12 17 rfl) (fun _ => rfl)) ?_
  refine .o1 (sk rfl rfl rfl (fun _ _ _ k => k.eq1 12 17 rfl) (fun _ => rfl)) ?_
  refine .o1 (sk rfl rfl rfl (fun _ _ _ k => k.eq1 12 17 rfl) (fun _ => rfl)) ?_
  refine .o1 (sk rfl rfl rfl (fun _ _ _ k => k.eq1 12 17 rfl) (fun _ => rfl)) ?_
  refine .o1 (sk rfl rfl rfl (fun _ _ _ k => k.eq1 12 17 rfl) (fun _ => rfl)) ?_
  refine .o1 (tk rfl rfl fun _ w hn k => ⟨_, v_pickF rfl (k.eq1 12 17 rfl) rfl, rfl⟩) ?_
  refine .o1 (tk rfl rfl fun _ w hn k => ⟨_, v_move rfl (k.eq1 20 25 rfl), rfl⟩) ?_
  refine .o1 (sk rfl rfl rfl (fun _ _ _ k => k.eq1 21 26 rfl) (fun _ => rfl)) ?_
  refine .o1 (sk rfl rfl rfl (fun _ _ _ k => k.eq1 21 26 rfl) (fun _ => rfl)) ?_
  refine .o1 (sk rfl rfl rfl (fun _ _ _ k => k.eq1 21 26 rfl) (fun _ => rfl)) ?_
  refine .o1 (sk rfl rfl rfl (fun _ _ _ k => k.eq1 21 26 rfl) (fun _ => rfl)) ?_
  refine .o1 (sk rfl rfl rfl (fun _ _ _ k => k.eq1 21 26 rfl) (fun _ => rfl)) ?_
  refine .o1 (sk rfl rfl rfl (fun _ _ _ k => k.eq1 21 26 rfl) (fun _ => rfl)) ?_
  refine .o1 (sk rfl rfl rfl (fun _ _ _ k => k.eq1 21 26 rfl) (fun _ => rfl)) ?_
  refine .o1 (tk rfl rfl fun _ w hn k => ⟨_, v_pickF rfl (k.eq1 21 26 rfl) rfl, rfl⟩) ?_
  refine .o1 (tk rfl rfl fun _ w hn k => ⟨_, v_move rfl (k.eq1 29 34 rfl), rfl⟩) ?_
  refine .o1 (sk rfl rfl rfl (fun _ _ _ k => k.eq1 30 35 rfl) (fun _ => rfl)) ?_
  refine .o1 (sk rfl rfl rfl (fun _ _ _ k => k.eq1 30 35 rfl) (fun _ => rfl)) ?_
  refine .o1 (sk rfl rfl rfl (fun _ _ _ k => k.eq1 30 35 rfl) (fun _ => rfl)) ?_
  refine .o1 (sk rfl rfl rfl (fun _ _ _ k => k.eq1 30 35 rfl) (fun _ => rfl)) ?_
  refine .o1 (sk rfl rfl rfl (fun _ _ _ k => k.eq1 30 35 rfl) (fun _ => rfl)) ?_
  refine .o1 (tk rfl rfl fun _ w hn k => ⟨_, v_pickF rfl (k.eq1 30 35 rfl) rfl, rfl⟩) ?_
  refine .o1 (tk rfl rfl fun _ w hn k => ⟨_, v_move rfl (k.eq1 36 41 rfl), rfl⟩) ?_
  refine .o1 (sk rfl rfl rfl (fun _ _ _ k => k.eq1 37 42 rfl) (fun _ => rfl)) ?_
  refine .o1 (sk rfl rfl rfl (fun _ _ _ k => k.eq1 37 42 rfl) (fun _ => rfl)) ?_
  refine .o1 (sk rfl rfl rfl (fun _ _ _ k => k.eq1 37 42 rfl) (fun _ => rfl)) ?_
  refine .o1 (sk rfl rfl rfl (fun _ _ _ k => k.eq1 37 42 rfl) (fun _ => rfl)) ?_
  refine .o1 (sk rfl rfl rfl (fun _ _ _ k => k.eq1 37 42 rfl) (fun _ => rfl)) ?_
  refine .o1 (tk rfl rfl fun _ w hn k => ⟨_, v_pickF rfl (k.eq1 37 42 rfl) rfl, rfl⟩) ?_
  refine .o1 (tk rfl rfl fun _ w hn k => ⟨_, v_assign rfl (k.eq1 43 48 rfl), rfl⟩) ?_
  exact .nil
  intro a110 w111 hn112 ha113
  obtain ⟨hs114, hd115, hN117⟩ := aft ha113 hs6 hd7 hN18 hn112
  have h116 := ha113.ge 44 4 rfl
  refine st_nil (hK19 _ _ ?_)
  refine wp_ret (ret_k hd115 (v := .bool false) (res_t rfl h116 _) ?_)
  refine ⟨?_, hN117⟩
  show Ending.returned (.bool false) = Ending.returned (.bool (sameV v u))
  first | rfl | (simp only [sameV, ht20, bsm] <;> rfl) | (simp [sameV, ht20]; done) | (exfalso; omega)
set_option maxHeartbeats 4000000 in
set_option maxRecDepth 100000 in
theorem none_c (v : Vl) (Av : Option Addr) (cv : Nat) (Bv : Option Addr) (dv : Nat) (w : World) (hmv : SRow w .u32 Av v.mag cv) (hsv : SRow w .u16 Bv v.s dv) : Calls Try.prog 29 #[vv v Av cv Bv dv] w (IsRet (.bool (decide (v.k = 0) || decide (v.k = 1))) w) := by
  refine enter_abs Try.func29 rfl fun a0 hs0 hd0 hp => ?_
  have hs0 : a0.tmps.size = 11 := hs0
  have hN0 : New w w := Upd.refl _ _
  have hp0 : a0.eval (.tmp 0) = vv v Av cv Bv dv := hp 0 _ rfl
  refine wp_seq_k fun K1 hK1 => ?_
  refine wp_g [true, true] [] [] 11
    [IsNew w 29 [iv v.k, iv v.nk, iv v.nn, .bool v.neg, sv Av v.mag cv, sv Bv v.s dv, iv v.ref],
     ve (.bool false)]
    [0] (newsCons (fun v w h => IsNew.old h) newsNil) hs0 (.nw (.eq (.nil))) ?_ (fun i h => by cases h) ?_
  refine .o2 (step_allocN (cs := [iv v.k, iv v.nk, iv v.nn, .bool v.neg, sv Av v.mag cv, sv Bv v.s dv, iv v.ref]) (t := 29) rfl (noG rfl) (fun _ w hn k => v_box rfl (k.fx 0 hp0) (fun w => rfl)) (fun q _ hq hb => ⟨q, rfl, hq, hb⟩)) ?_
  refine .o1 (tk rfl rfl fun _ w hn k => ⟨_, v_assign rfl rfl, rfl⟩) ?_
  exact .nil
  intro a2 w3 hn4 ha5
  obtain ⟨hs6, hd7, hN13⟩ := aft ha5 hs0 hd0 hN0 hn4
  obtain ⟨q9, h8, hq10, hb11⟩ : IsNew _ _ _ _ _ := ha5.got 0 1 rfl (by kernel_rfl)
  have hq12 := Nat.le_trans hN0.size hq10
  refine st_nil (hK1 _ _ ?_)
  refine wp_seq_k fun K14 hK14 => ?_
  rcases Bool.eq_false_or_eq_true (decide (v.k = 0)) with ht15 | ht15
  have ht15d := of_decide_eq_true ht15
  refine wp_g0 [true, true, true, true, true, true, true, true, true] [] 11
    [ve (pv q9),
     ve (iv v.k),
     ve (.bool true),
     ve (.bool true),
     ve undef,
     ve undef,
     ve undef,
     ve (.bool true),
     ve (.bool true)] hs6 (.eq (.eq (.eq (.eq (.eq (.eq (.eq (.eq (.eq (.nil)))))))))) ?_ ?_
  refine .o1 (tk rfl rfl fun _ w hn k => ⟨_, v_field rfl (k.fx 1 h8) (fun w => rfl), rfl⟩) ?_
  refine .o1 (tk rfl rfl fun _ w hn k => ⟨_, v_load rfl (k.eq1 0 3 rfl) (l_one Try.isAgg3 ((hb11.new_ hn).cell 0)), rfl⟩) ?_
  refine .o1 (tk rfl rfl fun _ w hn k => ⟨_, v_bin rfl (k.eq1 1 4 rfl) rfl (fun _ => rfl) (r_eql ht15), rfl⟩) ?_
  refine .o1 (tk rfl rfl fun _ w hn k => ⟨_, v_move rfl (k.eq1 2 5 rfl), rfl⟩) ?_
  refine .o1 (sk rfl rfl rfl (fun _ _ _ k => k.eq1 3 6 rfl) (fun _ => rfl)) ?_
  refine .o1 (sk rfl rfl rfl (fun _ _ _ k => k.eq1 3 6 rfl) (fun _ => rfl)) ?_
  refine .o1 (sk rfl rfl rfl (fun _ _ _ k => k.eq1 3 6 rfl) (fun _ => rfl)) ?_
  refine .o1 (tk rfl rfl fun _ w hn k => ⟨_, v_pickT rfl (k.eq1 3 6 rfl) rfl, rfl⟩) ?_
  refine .o1 (tk rfl rfl fun _ w hn k => ⟨_, v_assign rfl (k.eq1 7 10 rfl), rfl⟩) ?_
  exact .nil
  intro a16 w17 hn18 ha19
  obtain ⟨hs20, hd21, hN23⟩ := aft ha19 hs6 hd7 hN13 hn18
  have h22 := ha19.ge 8 2 rfl
  refine st_nil (hK14 _ _ ?_)
  refine wp_ret (ret_k hd21 (v := .bool true) (res_t rfl h22 _) ?_)
  refine ⟨?_, hN23⟩
  show Ending.returned (.bool true) = Ending.returned (.bool (decide (v.k = 0) || decide (v.k = 1)))
  first | rfl | (simp only [ht15, bsm] <;> rfl) | (simp [ht15]; done) | (exfalso; omega)
  have ht15d := of_decide_eq_false ht15
  refine wp_g0 [true, true, true, true, true, true, true, true, true] [] 11
    [ve (pv q9),
     ve (iv v.k),
     ve (.bool false),
     ve (.bool false),
     ve (pv q9),
     ve (iv v.k),
     ve (.bool (decide (v.k = 1))),
     ve (.bool (decide (v.k = 1))),
     ve (.bool (decide (v.k = 1)))] hs6 (.eq (.eq (.eq (.eq (.eq (.eq (.eq (.eq (.eq (.nil)))))))))) ?_ ?_
  refine .o1 (tk rfl rfl fun _ w hn k => ⟨_, v_field rfl (k.fx 1 h8) (fun w => rfl), rfl⟩) ?_
  refine .o1 (tk rfl rfl fun _ w hn k => ⟨_, v_load rfl (k.eq1 0 3 rfl) (l_one Try.isAgg3 ((hb11.new_ hn).cell 0)), rfl⟩) ?_
  refine .o1 (tk rfl rfl fun _ w hn k => ⟨_, v_bin rfl (k.eq1 1 4 rfl) rfl (fun _ => rfl) (r_eql ht15), rfl⟩) ?_
  refine .o1 (tk rfl rfl fun _ w hn k => ⟨_, v_move rfl (k.eq1 2 5 rfl), rfl⟩) ?_
  refine .o1 (tg rfl rfl rfl (fun _ _ k => k.eq1 3 6 rfl) fun _ w hn k => ⟨_, v_field rfl (k.fx 1 h8) (fun w => rfl), rfl⟩) ?_
  refine .o1 (tg rfl rfl rfl (fun _ _ k => k.eq1 3 6 rfl) fun _ w hn k => ⟨_, v_load rfl (k.eq1 4 7 rfl) (l_one Try.isAgg3 ((hb11.new_ hn).cell 0)), rfl⟩) ?_
  refine .o1 (tg rfl rfl rfl (fun _ _ k => k.eq1 3 6 rfl) fun _ w hn k => ⟨_, v_bin rfl (k.eq1 5 8 rfl) rfl (fun _ => rfl) (r_eql rfl), rfl⟩) ?_
  refine .o1 (tk rfl rfl fun _ w hn k => ⟨_, v_pickF rfl (k.eq1 3 6 rfl) (k.eq1 6 9 rfl), rfl⟩) ?_
  refine .o1 (tk rfl rfl fun _ w hn k => ⟨_, v_assign rfl (k.eq1 7 10 rfl), rfl⟩) ?_
  exact .nil
  intro a24 w25 hn26 ha27
  obtain ⟨hs28, hd29, hN31⟩ := aft ha27 hs6 hd7 hN13 hn26
  have h30 := ha27.ge 8 2 rfl
  refine st_nil (hK14 _ _ ?_)
  refine wp_ret (ret_k hd29 (v := .bool (decide (v.k = 1))) (res_t rfl h30 _) ?_)
  refine ⟨?_, hN31⟩
  show Ending.returned (.bool (decide (v.k = 1))) = Ending.returned (.bool (decide (v.k = 0) || decide (v.k = 1)))
  first | rfl | (simp only [ht15, bsm] <;> rfl) | (simp [ht15]; done) | (exfalso; omega)
set_option maxHeartbeats 4000000 in
set_option maxRecDepth 100000 in
theorem cnum_c (a : Nm) (w : World) : Calls Try.prog 21 #[nv a] w (IsRet (vv (Vl.mk 3 a.k a.n false [] [] 0) none 0 none 0) w) := by
  refine enter_abs Try.func21 rfl fun a0 hs0 hd0 hp => ?_
  have hs0 : a0.tmps.size = 5 := hs0
  have hN0 : New w w := Upd.refl _ _
  have hp0 : a0.eval (.tmp 0) = nv a := hp 0 _ rfl
  refine wp_seq_k fun K1 hK1 => ?_
  refine wp_g [true, true] [] [] 5
    [IsNew w 23 [iv a.k, iv a.n],
     IsNew w 29 [iv 0, iv 0, iv 0, .bool false, sv none ([]) 0, sv none ([]) 0, iv 0]]
    [0, 1] (newsCons (fun v w h => IsNew.old h) (newsCons (fun v w h => IsNew.old h) newsNil)) hs0 (.nw (.nw (.nil))) ?_ (fun i h => by cases h) ?_
  refine .o2 (step_allocN (cs := [iv a.k, iv a.n]) (t := 23) rfl (noG rfl) (fun _ w hn k => v_box rfl (k.fx 0 hp0) (fun w => rfl)) (fun q _ hq hb => ⟨q, rfl, hq, hb⟩)) ?_
  refine .o2 (step_allocN (cs := [iv 0, iv 0, iv 0, .bool false, sv none ([]) 0, sv none ([]) 0, iv 0]) (t := 29) rfl (noG rfl) (fun _ w hn k => rfl) (fun q _ hq hb => ⟨q, rfl, hq, hb⟩)) ?_
  exact .nil
  intro a2 w3 hn4 ha5
  obtain ⟨hs6, hd7, hN19⟩ := aft ha5 hs0 hd0 hN0 hn4
  obtain ⟨q9, h8, hq10, hb11⟩ : IsNew _ _ _ _ _ := ha5.got 0 1 rfl (by kernel_rfl)
  obtain ⟨q13, h12, hq14, hb15⟩ : IsNew _ _ _ _ _ := ha5.got 1 2 rfl (by kernel_rfl)
  have hne16 : q9 ≠ q13 := ha5.ne 0 1 1 2 h8 h12
  have hq17 := Nat.le_trans hN0.size hq10
  have hq18 := Nat.le_trans hN0.size hq14
  refine st_nil (hK1 _ _ ?_)
  refine wp_seq_k fun K20 hK20 => ?_
  refine wp_g0 [true, true, false] [(2, false)] 5
    [ve (nv a),
     ve (vv (Vl.mk 3 a.k a.n false [] [] 0) none 0 none 0),
     vt] hs6 (.eq (.eq (.tt (.nil)))) ?_ ?_
  refine .o1 (tk rfl rfl fun _ w hn k => ⟨_, v_load rfl (k.fx 1 h8) (l_two Try.isAgg23 Try.sizeOf23 (hb11.new_ hn)), rfl⟩) ?_
  refine .o1 (tk rfl rfl fun _ w hn k => ⟨_, v_build (ps := [(0, iv 3), (1, nv a)]) rfl (parts2 rfl (k.eq1 0 3 rfl)) (by kernel_rfl), rfl⟩) ?_
  refine .off ?_
  exact .nil
  intro a21 w22 hn23 ha24
  obtain ⟨hs25, hd26, hN30⟩ := aft ha24 hs6 hd7 hN19 hn23
  have h27 := ha24.fx 2 h12
  have h28 := ha24.ge 1 4 rfl
  have hb29 := hb15.new_ hn23
  obtain ⟨w31, hst32, hb330, hu34, hf35⟩ := s_many (P := Try.prog) (t := 29) (i := 0) [iv 3, iv a.k, iv a.n, .bool false, sv none ([]) 0, sv none ([]) 0, iv 0] Try.sizeOf29 rfl rfl rfl hb29 (Nat.le_of_ble_eq_true rfl)
  have hb33 : Blk w31 q13 29 [iv 3, iv a.k, iv a.n, .bool false, sv none ([]) 0, sv none ([]) 0, iv 0] := hb330
  refine st_act rfl rfl fun K36 hL37 => a_store' rfl h27 h28 hst32 (hL37 _ _ trivial ?_)
  have hN38 := hN30.trans hu34 (fun k hk hkb => by subst hkb; omega)
  refine st_nil (hK20 _ _ ?_)
  refine wp_ret (ret_k hd26 (v := vv (Vl.mk 3 a.k a.n false [] [] 0) none 0 none 0) (res_c rfl h27 (l_agg Try.isAgg29 Try.sizeOf29 hb33 rfl)) ?_)
  exact ⟨rfl, hN38⟩
def counted_c_P (v : Vl) (Av : Option Addr) (cv : Nat) (Bv : Option Addr) (dv : Nat) (w : World) (en : Ending) (w' : World) : Prop := ∃ (Ar0 : Option Addr) (cr0 : Nat) (Ar1 : Option Addr) (cr1 : Nat), en = .returned (vv (countedV v) Ar0 cr0 Ar1 cr1) ∧ SRow w' .u32 Ar0 ((countedV v).mag) cr0 ∧ SRow w' .u16 Ar1 ((countedV v).s) cr1 ∧ New w w'
set_option maxHeartbeats 4000000 in
set_option maxRecDepth 100000 in
theorem counted_c (v : Vl) (Av : Option Addr) (cv : Nat) (Bv : Option Addr) (dv : Nat) (w : World) (hmv : SRow w .u32 Av v.mag cv) (hsv : SRow w .u16 Bv v.s dv) : Calls Try.prog 30 #[vv v Av cv Bv dv] w (counted_c_P v Av cv Bv dv w) := by
  refine enter_abs Try.func30 rfl fun a0 hs0 hd0 hp => ?_
  have hs0 : a0.tmps.size = 11 := hs0
  have hN0 : New w w := Upd.refl _ _
  have hp0 : a0.eval (.tmp 0) = vv v Av cv Bv dv := hp 0 _ rfl
  refine wp_seq_k fun K1 hK1 => ?_
  refine wp_g [true, true] [] [] 11
    [IsNew w 29 [iv v.k, iv v.nk, iv v.nn, .bool v.neg, sv Av v.mag cv, sv Bv v.s dv, iv v.ref],
     IsNew w 29 [iv 0, iv 0, iv 0, .bool false, sv none ([]) 0, sv none ([]) 0, iv 0]]
    [0, 1] (newsCons (fun v w h => IsNew.old h) (newsCons (fun v w h => IsNew.old h) newsNil)) hs0 (.nw (.nw (.nil))) ?_ (fun i h => by cases h) ?_
  refine .o2 (step_allocN (cs := [iv v.k, iv v.nk, iv v.nn, .bool v.neg, sv Av v.mag cv, sv Bv v.s dv, iv v.ref]) (t := 29) rfl (noG rfl) (fun _ w hn k => v_box rfl (k.fx 0 hp0) (fun w => rfl)) (fun q _ hq hb => ⟨q, rfl, hq, hb⟩)) ?_
  refine .o2 (step_allocN (cs := [iv 0, iv 0, iv 0, .bool false, sv none ([]) 0, sv none ([]) 0, iv 0]) (t := 29) rfl (noG rfl) (fun _ w hn k => rfl) (fun q _ hq hb => ⟨q, rfl, hq, hb⟩)) ?_
  exact .nil
  intro a2 w3 hn4 ha5
  obtain ⟨hs6, hd7, hN19⟩ := aft ha5 hs0 hd0 hN0 hn4
  obtain ⟨q9, h8, hq10, hb11⟩ : IsNew _ _ _ _ _ := ha5.got 0 1 rfl (by kernel_rfl)
  obtain ⟨q13, h12, hq14, hb15⟩ : IsNew _ _ _ _ _ := ha5.got 1 2 rfl (by kernel_rfl)
  have hne16 : q9 ≠ q13 := ha5.ne 0 1 1 2 h8 h12
  have hq17 := Nat.le_trans hN0.size hq10
  have hq18 := Nat.le_trans hN0.size hq14
  refine st_nil (hK1 _ _ ?_)
  refine wp_seq_k fun K20 hK20 => ?_
  refine wp_seq_k fun K21 hK21 => ?_
  refine wp_g0 [true, true, true] [] 11
    [ve (pv q9),
     ve (iv v.k),
     ve (.bool (decide (v.k = 2)))] hs6 (.eq (.eq (.eq (.nil)))) ?_ ?_
  refine .o1 (tk rfl rfl fun _ w hn k => ⟨_, v_field rfl (k.fx 1 h8) (fun w => rfl), rfl⟩) ?_
  refine .o1 (tk rfl rfl fun _ w hn k => ⟨_, v_load rfl (k.eq1 0 3 rfl) (l_one Try.isAgg3 ((hb11.new_ hn).cell 0)), rfl⟩) ?_
  refine .o1 (tk rfl rfl fun _ w hn k => ⟨_, v_bin rfl (k.eq1 1 4 rfl) rfl (fun _ => rfl) (r_eql rfl), rfl⟩) ?_
  exact .nil
  intro a22 w23 hn24 ha25
  obtain ⟨hs26, hd27, hN33⟩ := aft ha25 hs6 hd7 hN19 hn24
  have h28 := ha25.fx 1 h8
  have h29 := ha25.fx 2 h12
  have h30 := ha25.ge 2 5 rfl
  have hb31 := hb11.new_ hn24
  have hb32 := hb15.new_ hn24
  refine st_nil (hK21 _ _ ?_)
  rcases Bool.eq_false_or_eq_true (decide (v.k = 2)) with ht34 | ht34
  have ht34d := of_decide_eq_true ht34
  have hv35 := hB h30 ht34
  refine wp_cond_true hv35 ?_
  refine wp_seq_k fun K36 hK36 => ?_
  refine wp_g0 [true, true, true, true, false] [(4, false)] 11
    [ve (.pointer (some ⟨q9, 6, none⟩)),
     ve (iv v.ref),
     ve (nv (Nm.mk 0 v.ref)),
     ve (vv (Vl.mk 3 0 v.ref false [] [] 0) none 0 none 0),
     vt] hs26 (.eq (.eq (.eq (.eq (.tt (.nil)))))) ?_ ?_
  refine .o1 (tk rfl rfl fun _ w hn k => ⟨_, v_field rfl (k.fx 1 h28) (fun w => rfl), rfl⟩) ?_
  refine .o1 (tk rfl rfl fun _ w hn k => ⟨_, v_load rfl (k.eq1 0 6 rfl) (l_one Try.isAgg3 ((hb31.new_ hn).cell 6)), rfl⟩) ?_
  refine .o1 (tk rfl rfl fun _ w hn k => ⟨_, v_build (ps := [(1, iv v.ref)]) rfl (parts1 (k.eq1 1 7 rfl)) (by kernel_rfl), rfl⟩) ?_
  refine .o1 (ck rfl rfl rfl (fun _ w hn k => ⟨#[nv (Nm.mk 0 v.ref)], args1 (k.eq1 2 8 rfl), fun _ => by kernel_rfl, cnum_c (Nm.mk 0 v.ref) _ ⟩) fun _ => rfl) ?_
  refine .off ?_
  exact .nil
  intro a37 w38 hn39 ha40
  obtain ⟨hs41, hd42, hN46⟩ := aft ha40 hs26 hd27 hN33 hn39
  have h43 := ha40.fx 2 h29
  have h44 := ha40.ge 3 9 rfl
  have hb45 := hb32.new_ hn39
  obtain ⟨w47, hst48, hb490, hu50, hf51⟩ := s_many (P := Try.prog) (t := 29) (i := 0) [iv 3, iv 0, iv v.ref, .bool false, sv none ([]) 0, sv none ([]) 0, iv 0] Try.sizeOf29 rfl rfl rfl hb45 (Nat.le_of_ble_eq_true rfl)
  have hb49 : Blk w47 q13 29 [iv 3, iv 0, iv v.ref, .bool false, sv none ([]) 0, sv none ([]) 0, iv 0] := hb490
  refine st_act rfl rfl fun K52 hL53 => a_store' rfl h43 h44 hst48 (hL53 _ _ trivial ?_)
  have hN54 := hN46.trans hu50 (fun k hk hkb => by subst hkb; omega)
  refine st_nil (hK36 _ _ ?_)
  refine wp_ret (ret_k hd42 (v := vv (Vl.mk 3 0 v.ref false [] [] 0) none 0 none 0) (res_c rfl h43 (l_agg Try.isAgg29 Try.sizeOf29 hb49 rfl)) ?_)
  have hx0 : (countedV v).mag = [] := by first | rfl | (simp only [countedV, ht34, bsm] <;> rfl) | (simp [countedV, ht34]; done) | (exfalso; omega)
  have hx1 : (countedV v).s = [] := by first | rfl | (simp only [countedV, ht34, bsm] <;> rfl) | (simp [countedV, ht34]; done) | (exfalso; omega)
  exact ⟨none, 0, none, 0, (by show Ending.returned (vv (Vl.mk 3 0 v.ref false [] [] 0) none 0 none 0) = Ending.returned (vv (countedV v) none 0 none 0); (first | rfl | (simp only [countedV, ht34, hx0, hx1, bsm] <;> rfl) | (simp [countedV, ht34, hx0, hx1]; done) | (exfalso; omega))), (by rw [hx0]; exact (SRow.nil _ _)), (by rw [hx1]; exact (SRow.nil _ _)), hN54⟩
  have ht34d := of_decide_eq_false ht34
  have hv55 := hB h30 ht34
  refine wp_cond_false hv55 ?_
  refine wp_skip ?_
  refine hK20 _ _ ?_
  refine wp_seq_k fun K56 hK56 => ?_
  refine wp_g0 [true, false] [(1, false)] 11
    [ve (vv v Av cv Bv dv),
     vt] hs26 (.eq (.tt (.nil))) ?_ ?_
  refine .o1 (tk rfl rfl fun _ w hn k => ⟨_, v_load rfl (k.fx 1 h28) (l_agg Try.isAgg29 Try.sizeOf29 (hb31.new_ hn) rfl), rfl⟩) ?_
  refine .off ?_
  exact .nil
  intro a57 w58 hn59 ha60
  obtain ⟨hs61, hd62, hN66⟩ := aft ha60 hs26 hd27 hN33 hn59
  have h63 := ha60.fx 2 h29
  have h64 := ha60.ge 0 10 rfl
  have hb65 := hb32.new_ hn59
  obtain ⟨w67, hst68, hb690, hu70, hf71⟩ := s_many (P := Try.prog) (t := 29) (i := 0) [iv v.k, iv v.nk, iv v.nn, .bool v.neg, sv Av v.mag cv, sv Bv v.s dv, iv v.ref] Try.sizeOf29 rfl rfl rfl hb65 (Nat.le_of_ble_eq_true rfl)
  have hb69 : Blk w67 q13 29 [iv v.k, iv v.nk, iv v.nn, .bool v.neg, sv Av v.mag cv, sv Bv v.s dv, iv v.ref] := hb690
  refine st_act rfl rfl fun K72 hL73 => a_store' rfl h63 h64 hst68 (hL73 _ _ trivial ?_)
  have hN74 := hN66.trans hu70 (fun k hk hkb => by subst hkb; omega)
  refine st_nil (hK56 _ _ ?_)
  refine wp_ret (ret_k hd62 (v := vv v Av cv Bv dv) (res_c rfl h63 (l_agg Try.isAgg29 Try.sizeOf29 hb69 rfl)) ?_)
  have hx0 : (countedV v).mag = v.mag := by first | rfl | (simp only [countedV, ht34, bsm] <;> rfl) | (simp [countedV, ht34]; done) | (exfalso; omega)
  have hx1 : (countedV v).s = v.s := by first | rfl | (simp only [countedV, ht34, bsm] <;> rfl) | (simp [countedV, ht34]; done) | (exfalso; omega)
  exact ⟨Av, cv, Bv, dv, (by show Ending.returned (vv v Av cv Bv dv) = Ending.returned (vv (countedV v) Av cv Bv dv); (first | rfl | (simp only [countedV, ht34, hx0, hx1, bsm] <;> rfl) | (simp [countedV, ht34, hx0, hx1]; done) | (exfalso; omega))), (by rw [hx0]; exact (hmv.new_ hN74)), (by rw [hx1]; exact (hsv.new_ hN74)), hN74⟩
def truth_c_P (t : Bool) (w : World) (en : Ending) (w' : World) : Prop := ∃ (Ar0 : Option Addr) (cr0 : Nat) (Ar1 : Option Addr) (cr1 : Nat), en = .returned (vv (truthV t) Ar0 cr0 Ar1 cr1) ∧ SRow w' .u32 Ar0 ((truthV t).mag) cr0 ∧ SRow w' .u16 Ar1 ((truthV t).s) cr1 ∧ New w w'
set_option maxHeartbeats 4000000 in
set_option maxRecDepth 100000 in
theorem truth_c (t : Bool) (w : World) : Calls Try.prog 17 #[.bool t] w (truth_c_P t w) := by
  refine enter_abs Try.func17 rfl fun a0 hs0 hd0 hp => ?_
  have hs0 : a0.tmps.size = 6 := hs0
  have hN0 : New w w := Upd.refl _ _
  have hp0 : a0.eval (.tmp 0) = .bool t := hp 0 _ rfl
  refine wp_seq_k fun K1 hK1 => ?_
  refine wp_g [true] [] [] 6
    [IsNew w 29 [iv 0, iv 0, iv 0, .bool false, sv none ([]) 0, sv none ([]) 0, iv 0]]
    [0] (newsCons (fun v w h => IsNew.old h) newsNil) hs0 (.nw (.nil)) ?_ (fun i h => by cases h) ?_
  refine .o2 (step_allocN (cs := [iv 0, iv 0, iv 0, .bool false, sv none ([]) 0, sv none ([]) 0, iv 0]) (t := 29) rfl (noG rfl) (fun _ w hn k => rfl) (fun q _ hq hb => ⟨q, rfl, hq, hb⟩)) ?_
  exact .nil
  intro a2 w3 hn4 ha5
  obtain ⟨hs6, hd7, hN14⟩ := aft ha5 hs0 hd0 hN0 hn4
  have h8 := ha5.fx 0 hp0
  obtain ⟨q10, h9, hq11, hb12⟩ : IsNew _ _ _ _ _ := ha5.got 0 2 rfl (by kernel_rfl)
  have hq13 := Nat.le_trans hN0.size hq11
  refine st_nil (hK1 _ _ ?_)
  refine wp_seq_k fun K15 hK15 => ?_
  refine wp_seq_k fun K16 hK16 => ?_
  refine wp_g0 [true] [] 6
    [ve (.bool t)] hs6 (.eq (.nil)) ?_ ?_
  refine .o1 (tk rfl rfl fun _ w hn k => ⟨_, v_move rfl (k.fx 0 h8), rfl⟩) ?_
  exact .nil
  intro a17 w18 hn19 ha20
  obtain ⟨hs21, hd22, hN26⟩ := aft ha20 hs6 hd7 hN14 hn19
  have h23 := ha20.fx 2 h9
  have h24 := ha20.ge 0 3 rfl
  have hb25 := hb12.new_ hn19
  refine st_nil (hK16 _ _ ?_)
  rcases Bool.eq_false_or_eq_true (t) with ht27 | ht27
  have hv28 := hB h24 ht27
  refine wp_cond_true hv28 ?_
  refine wp_seq_k fun K29 hK29 => ?_
  refine wp_g0 [true, false] [(1, false)] 6
    [ve (vv (Vl.mk 2 0 0 false [] [] 1) none 0 none 0),
     vt] hs21 (.eq (.tt (.nil))) ?_ ?_
  refine .o1 (tk rfl rfl fun _ w hn k => ⟨_, v_build (ps := [(0, iv 2), (4, iv 1)]) rfl (parts2 rfl rfl) (by kernel_rfl), rfl⟩) ?_
  refine .off ?_
  exact .nil
  intro a30 w31 hn32 ha33
  obtain ⟨hs34, hd35, hN39⟩ := aft ha33 hs21 hd22 hN26 hn32
  have h36 := ha33.fx 2 h23
  have h37 := ha33.ge 0 4 rfl
  have hb38 := hb25.new_ hn32
  obtain ⟨w40, hst41, hb420, hu43, hf44⟩ := s_many (P := Try.prog) (t := 29) (i := 0) [iv 2, iv 0, iv 0, .bool false, sv none ([]) 0, sv none ([]) 0, iv 1] Try.sizeOf29 rfl rfl rfl hb38 (Nat.le_of_ble_eq_true rfl)
  have hb42 : Blk w40 q10 29 [iv 2, iv 0, iv 0, .bool false, sv none ([]) 0, sv none ([]) 0, iv 1] := hb420
  refine st_act rfl rfl fun K45 hL46 => a_store' rfl h36 h37 hst41 (hL46 _ _ trivial ?_)
  have hN47 := hN39.trans hu43 (fun k hk hkb => by subst hkb; omega)
  refine st_nil (hK29 _ _ ?_)
  refine wp_ret (ret_k hd35 (v := vv (Vl.mk 2 0 0 false [] [] 1) none 0 none 0) (res_c rfl h36 (l_agg Try.isAgg29 Try.sizeOf29 hb42 rfl)) ?_)
  have hx0 : (truthV t).mag = [] := by first | rfl | (simp only [truthV, ht27, bsm] <;> rfl) | (simp [truthV, ht27]; done) | (exfalso; omega)
  have hx1 : (truthV t).s = [] := by first | rfl | (simp only [truthV, ht27, bsm] <;> rfl) | (simp [truthV, ht27]; done) | (exfalso; omega)
  exact ⟨none, 0, none, 0, (by show Ending.returned (vv (Vl.mk 2 0 0 false [] [] 1) none 0 none 0) = Ending.returned (vv (truthV t) none 0 none 0); (first | rfl | (simp only [truthV, ht27, hx0, hx1, bsm] <;> rfl) | (simp [truthV, ht27, hx0, hx1]; done) | (exfalso; omega))), (by rw [hx0]; exact (SRow.nil _ _)), (by rw [hx1]; exact (SRow.nil _ _)), hN47⟩
  have hv48 := hB h24 ht27
  refine wp_cond_false hv48 ?_
  refine wp_skip ?_
  refine hK15 _ _ ?_
  refine wp_seq_k fun K49 hK49 => ?_
  refine wp_g0 [true, false] [(1, false)] 6
    [ve (vv (Vl.mk 2 0 0 false [] [] 0) none 0 none 0),
     vt] hs21 (.eq (.tt (.nil))) ?_ ?_
  refine .o1 (tk rfl rfl fun _ w hn k => ⟨_, v_build (ps := [(0, iv 2)]) rfl (parts1 rfl) (by kernel_rfl), rfl⟩) ?_
  refine .off ?_
  exact .nil
  intro a50 w51 hn52 ha53
  obtain ⟨hs54, hd55, hN59⟩ := aft ha53 hs21 hd22 hN26 hn52
  have h56 := ha53.fx 2 h23
  have h57 := ha53.ge 0 5 rfl
  have hb58 := hb25.new_ hn52
  obtain ⟨w60, hst61, hb620, hu63, hf64⟩ := s_many (P := Try.prog) (t := 29) (i := 0) [iv 2, iv 0, iv 0, .bool false, sv none ([]) 0, sv none ([]) 0, iv 0] Try.sizeOf29 rfl rfl rfl hb58 (Nat.le_of_ble_eq_true rfl)
  have hb62 : Blk w60 q10 29 [iv 2, iv 0, iv 0, .bool false, sv none ([]) 0, sv none ([]) 0, iv 0] := hb620
  refine st_act rfl rfl fun K65 hL66 => a_store' rfl h56 h57 hst61 (hL66 _ _ trivial ?_)
  have hN67 := hN59.trans hu63 (fun k hk hkb => by subst hkb; omega)
  refine st_nil (hK49 _ _ ?_)
  refine wp_ret (ret_k hd55 (v := vv (Vl.mk 2 0 0 false [] [] 0) none 0 none 0) (res_c rfl h56 (l_agg Try.isAgg29 Try.sizeOf29 hb62 rfl)) ?_)
  have hx0 : (truthV t).mag = [] := by first | rfl | (simp only [truthV, ht27, bsm] <;> rfl) | (simp [truthV, ht27]; done) | (exfalso; omega)
  have hx1 : (truthV t).s = [] := by first | rfl | (simp only [truthV, ht27, bsm] <;> rfl) | (simp [truthV, ht27]; done) | (exfalso; omega)
  exact ⟨none, 0, none, 0, (by show Ending.returned (vv (Vl.mk 2 0 0 false [] [] 0) none 0 none 0) = Ending.returned (vv (truthV t) none 0 none 0); (first | rfl | (simp only [truthV, ht27, hx0, hx1, bsm] <;> rfl) | (simp [truthV, ht27, hx0, hx1]; done) | (exfalso; omega))), (by rw [hx0]; exact (SRow.nil _ _)), (by rw [hx1]; exact (SRow.nil _ _)), hN67⟩
set_option maxHeartbeats 4000000 in
set_option maxRecDepth 100000 in
theorem alike_c (a : Bool) (Aa : Option Addr) (ma : List Nat) (ca : Nat) (x : Nm) (w : World) (hra : SRow w .u32 Aa ma ca) (ha : Limbs ma) (hs : ma.length ≤ 1000000) (hlo : -9223372036854775808 ≤ x.n) (hhi : x.n ≤ 9223372036854775807) : Calls Try.prog 31 #[.agg #[.bool a, sv Aa ma ca], nv x] w (IsRet (.bool (alikeB a ma x)) w) := by
  refine enter_abs Try.func31 rfl fun a0 hs0 hd0 hp => ?_
  have hs0 : a0.tmps.size = 26 := hs0
  have hN0 : New w w := Upd.refl _ _
  have hp0 : a0.eval (.tmp 0) = .agg #[.bool a, sv Aa ma ca] := hp 0 _ rfl
  have hp1 : a0.eval (.tmp 1) = nv x := hp 1 _ rfl
  have hnl : (canon x.n.natAbs).length ≤ 8 := (canon_len8 _).2 (by omega)
  have hgn := good_canon (z := x.n) (by omega)
  refine wp_seq_k fun K1 hK1 => ?_
  refine wp_g [true, true, true] [] [] 26
    [IsNew w 26 [.bool a, sv Aa ma ca],
     IsNew w 23 [iv x.k, iv x.n],
     ve (.bool false)]
    [0, 1] (newsCons (fun v w h => IsNew.old h) (newsCons (fun v w h => IsNew.old h) newsNil)) hs0 (.nw (.nw (.eq (.nil)))) ?_ (fun i h => by cases h) ?_
  refine .o2 (step_allocN (cs := [.bool a, sv Aa ma ca]) (t := 26) rfl (noG rfl) (fun _ w hn k => v_box rfl (k.fx 0 hp0) (fun w => rfl)) (fun q _ hq hb => ⟨q, rfl, hq, hb⟩)) ?_
  refine .o2 (step_allocN (cs := [iv x.k, iv x.n]) (t := 23) rfl (noG rfl) (fun _ w hn k => v_box rfl (k.fx 1 hp1) (fun w => rfl)) (fun q _ hq hb => ⟨q, rfl, hq, hb⟩)) ?_
  refine .o1 (tk rfl rfl fun _ w hn k => ⟨_, v_assign rfl rfl, rfl⟩) ?_
  exact .nil
  intro a2 w3 hn4 ha5
  obtain ⟨hs6, hd7, hN18⟩ := aft ha5 hs0 hd0 hN0 hn4
  obtain ⟨q9, h8, hq10, hb11⟩ : IsNew _ _ _ _ _ := ha5.got 0 2 rfl (by kernel_rfl)
  obtain ⟨q13, h12, hq14, hb15⟩ : IsNew _ _ _ _ _ := ha5.got 1 3 rfl (by kernel_rfl)
  have hq16 := Nat.le_trans hN0.size hq10
  have hq17 := Nat.le_trans hN0.size hq14
  refine st_nil (hK1 _ _ ?_)
  refine wp_seq_k fun K19 hK19 => ?_
  rcases Bool.eq_false_or_eq_true (decide (x.k = 1)) with ht20 | ht20
  have ht20d := of_decide_eq_true ht20
  rcases Bool.eq_false_or_eq_true (decide ((ma.length : Int) = 0)) with ht21 | ht21
  have ht21d := of_decide_eq_true ht21
  refine wp_g0 [true, true, true, true, true, true, true, true, true, true, true, true, true, true, true, true, true, true, true, true, true, true] [] 26
    [ve (pv q13),
     ve (iv x.k),
     ve (.bool true),
     ve (.bool true),
     ve (.pointer (some ⟨q9, 1, none⟩)),
     ve (sv Aa ma ca),
     ve (iv (ma.length : Int)),
     ve (.bool true),
     ve (.bool true),
     ve (.bool true),
     ve undef,
     ve undef,
     ve undef,
     ve undef,
     ve undef,
     ve undef,
     ve undef,
     ve undef,
     ve undef,
     ve undef,
     ve (.bool true),
     ve (.bool true)] hs6 (.eq (.eq (.eq (.eq (.eq (.eq (.eq (.eq (.eq (.eq (.eq (.eq (.eq (.eq (.eq (.eq (.eq (.eq (.eq (.eq (.eq (.eq (.nil))))))))))))))))))))))) ?_ ?_
  refine .o1 (tk rfl rfl fun _ w hn k => ⟨_, v_field rfl (k.fx 3 h12) (fun w => rfl), rfl⟩) ?_
  refine .o1 (tk rfl rfl fun _ w hn k => ⟨_, v_load rfl (k.eq1 0 5 rfl) (l_one Try.isAgg3 ((hb15.new_ hn).cell 0)), rfl⟩) ?_
  refine .o1 (tk rfl rfl fun _ w hn k => ⟨_, v_bin rfl (k.eq1 1 6 rfl) rfl (fun _ => rfl) (r_eql ht20), rfl⟩) ?_
  refine .o1 (tk rfl rfl fun _ w hn k => ⟨_, v_move rfl (k.eq1 2 7 rfl), rfl⟩) ?_
  refine .o1 (tg rfl rfl rfl (fun _ _ k => k.eq1 3 8 rfl) fun _ w hn k => ⟨_, v_field rfl (k.fx 2 h8) (fun w => rfl), rfl⟩) ?_
  refine .o1 (tg rfl rfl rfl (fun _ _ k => k.eq1 3 8 rfl) fun _ w hn k => ⟨_, v_load rfl (k.eq1 4 9 rfl) (l_one Try.isAgg24 ((hb11.new_ hn).cell 1)), rfl⟩) ?_
  refine .o1 (tg rfl rfl rfl (fun _ _ k => k.eq1 3 8 rfl) fun _ w hn k => ⟨_, v_lenR rfl elW (k.eq1 5 10 rfl), rfl⟩) ?_
  refine .o1 (tg rfl rfl rfl (fun _ _ k => k.eq1 3 8 rfl) fun _ w hn k => ⟨_, v_bin rfl (k.eq1 6 11 rfl) rfl (fun _ => rfl) (r_eql ht21), rfl⟩) ?_
  refine .o1 (tk rfl rfl fun _ w hn k => ⟨_, v_pickT rfl (k.eq1 3 8 rfl) (k.eq1 7 12 rfl), rfl⟩) ?_
  refine .o1 (tk rfl rfl fun _ w hn k => ⟨_, v_move rfl (k.eq1 8 13 rfl), rfl⟩) ?_
  refine .o1 (sk rfl rfl rfl (fun _ _ _ k => k.eq1 9 14 rfl) (fun _ => rfl)) ?_
  refine .o1 (sk rfl rfl rfl (fun _ _ _ k => k.eq1 9 14 rfl) (fun _ => rfl)) ?_
  refine .o1 (sk rfl rfl rfl (fun _ _ _ k => k.eq1 9 14 rfl) (fun _ => rfl)) ?_
  refine .o1 (sk rfl rfl rfl (fun _ _ _ k => k.eq1 9 14 rfl) (fun _ => rfl)) ?_
  refine .o1 (su rfl rfl rfl (fun _ _ _ k => k.eq1 13 18 rfl) (fun _ => rfl)) ?_
  refine .o1 (su rfl rfl rfl (fun _ _ _ k => k.eq1 13 18 rfl) (fun _ => rfl)) ?_
  refine .o1 (su rfl rfl rfl (fun _ _ _ k => k.eq1 13 18 rfl) (fun _ => rfl)) ?_
  refine .o1 (su rfl rfl rfl (fun _ _ _ k => k.eq1 13 18 rfl) (fun _ => rfl)) ?_
  refine .o1 (su rfl rfl rfl (fun _ _ _ k => k.eq1 13 18 rfl) (fun _ => rfl)) ?_
  refine .o1 (sk rfl rfl rfl (fun _ _ _ k => k.eq1 9 14 rfl) (fun _ => rfl)) ?_
  refine .o1 (tk rfl rfl fun _ w hn k => ⟨_, v_pickT rfl (k.eq1 9 14 rfl) rfl, rfl⟩) ?_
  refine .o1 (tk rfl rfl fun _ w hn k => ⟨_, v_assign rfl (k.eq1 20 25 rfl), rfl⟩) ?_
  exact .nil
  intro a22 w23 hn24 ha25
  obtain ⟨hs26, hd27, hN29⟩ := aft ha25 hs6 hd7 hN18 hn24
  have h28 := ha25.ge 21 4 rfl
  refine st_nil (hK19 _ _ ?_)
  refine wp_ret (ret_k hd27 (v := .bool true) (res_t rfl h28 _) ?_)
  refine ⟨?_, hN29⟩
  show Ending.returned (.bool true) = Ending.returned (.bool (alikeB a ma x))
  first | rfl | (simp only [alikeB, ht20, ht21, good_canon (z := x.n) (by omega), bsm] <;> rfl) | (simp [alikeB, ht20, ht21, good_canon (z := x.n) (by omega)]; done) | (exfalso; omega)
  have ht21d := of_decide_eq_false ht21
  rcases Bool.eq_false_or_eq_true (decide (x.k = 0)) with ht30 | ht30
  have ht30d := of_decide_eq_true ht30
  refine wp_g0 [true, true, true, true, true, true, true, true, true, true, true, true, true, true, true, true, true, true, true, true, true, true] [] 26
    [ve (pv q13),
     ve (iv x.k),
     ve (.bool true),
     ve (.bool true),
     ve (.pointer (some ⟨q9, 1, none⟩)),
     ve (sv Aa ma ca),
     ve (iv (ma.length : Int)),
     ve (.bool false),
     ve (.bool false),
     ve (.bool false),
     ve (pv q13),
     ve (iv x.k),
     ve (.bool true),
     ve (.bool true),
     ve (.agg #[.bool a, sv Aa ma ca]),
     ve (.pointer (some ⟨q13, 1, none⟩)),
     ve (iv x.n),
     (fun (v_ : Value) (W : World) => ∃ (A3 : Option Addr) (c4 : Nat), v_ = .agg #[.bool (decide (x.n < 0)), sv A3 (canon (x.n).natAbs) c4] ∧ SRow W .u32 A3 (canon (x.n).natAbs) c4),
     ve (.bool (decide (goodI a ma = goodI (decide (x.n < 0)) (canon (x.n).natAbs)))),
     ve (.bool (decide (goodI a ma = goodI (decide (x.n < 0)) (canon (x.n).natAbs)))),
     ve (.bool (decide (goodI a ma = goodI (decide (x.n < 0)) (canon (x.n).natAbs)))),
     ve (.bool (decide (goodI a ma = goodI (decide (x.n < 0)) (canon (x.n).natAbs))))] hs6 (.eq (.eq (.eq (.eq (.eq (.eq (.eq (.eq (.eq (.eq (.eq (.eq (.eq (.eq (.eq (.eq (.eq (.cons (fun v W W' hn ⟨A3, c4, he, h0⟩ => ⟨A3, c4, he, h0.new_ hn⟩) (.eq (.eq (.eq (.eq (.nil))))))))))))))))))))))) ?_ ?_
  refine .o1 (tk rfl rfl fun _ w hn k => ⟨_, v_field rfl (k.fx 3 h12) (fun w => rfl), rfl⟩) ?_
  refine .o1 (tk rfl rfl fun _ w hn k => ⟨_, v_load rfl (k.eq1 0 5 rfl) (l_one Try.isAgg3 ((hb15.new_ hn).cell 0)), rfl⟩) ?_
  refine .o1 (tk rfl rfl fun _ w hn k => ⟨_, v_bin rfl (k.eq1 1 6 rfl) rfl (fun _ => rfl) (r_eql ht20), rfl⟩) ?_
  refine .o1 (tk rfl rfl fun _ w hn k => ⟨_, v_move rfl (k.eq1 2 7 rfl), rfl⟩) ?_
  refine .o1 (tg rfl rfl rfl (fun _ _ k => k.eq1 3 8 rfl) fun _ w hn k => ⟨_, v_field rfl (k.fx 2 h8) (fun w => rfl), rfl⟩) ?_
  refine .o1 (tg rfl rfl rfl (fun _ _ k => k.eq1 3 8 rfl) fun _ w hn k => ⟨_, v_load rfl (k.eq1 4 9 rfl) (l_one Try.isAgg24 ((hb11.new_ hn).cell 1)), rfl⟩) ?_
  refine .o1 (tg rfl rfl rfl (fun _ _ k => k.eq1 3 8 rfl) fun _ w hn k => ⟨_, v_lenR rfl elW (k.eq1 5 10 rfl), rfl⟩) ?_
  refine .o1 (tg rfl rfl rfl (fun _ _ k => k.eq1 3 8 rfl) fun _ w hn k => ⟨_, v_bin rfl (k.eq1 6 11 rfl) rfl (fun _ => rfl) (r_eql ht21), rfl⟩) ?_
  refine .o1 (tk rfl rfl fun _ w hn k => ⟨_, v_pickT rfl (k.eq1 3 8 rfl) (k.eq1 7 12 rfl), rfl⟩) ?_
  refine .o1 (tk rfl rfl fun _ w hn k => ⟨_, v_move rfl (k.eq1 8 13 rfl), rfl⟩) ?_
  refine .o1 (tg rfl rfl rfl (fun _ _ k => k.eq1 9 14 rfl) fun _ w hn k => ⟨_, v_field rfl (k.fx 3 h12) (fun w => rfl), rfl⟩) ?_
  refine .o1 (tg rfl rfl rfl (fun _ _ k => k.eq1 9 14 rfl) fun _ w hn k => ⟨_, v_load rfl (k.eq1 10 15 rfl) (l_one Try.isAgg3 ((hb15.new_ hn).cell 0)), rfl⟩) ?_
  refine .o1 (tg rfl rfl rfl (fun _ _ k => k.eq1 9 14 rfl) fun _ w hn k => ⟨_, v_bin rfl (k.eq1 11 16 rfl) rfl (fun _ => rfl) (r_eql ht30), rfl⟩) ?_
  refine .o1 (tg rfl rfl rfl (fun _ _ k => k.eq1 9 14 rfl) fun _ w hn k => ⟨_, v_move rfl (k.eq1 12 17 rfl), rfl⟩) ?_
  refine .o1 (tg rfl rfl rfl (fun _ _ k => k.eq1 13 18 rfl) fun _ w hn k => ⟨_, v_load rfl (k.fx 2 h8) (l_two Try.isAgg26 Try.sizeOf26 (hb11.new_ hn)), rfl⟩) ?_
  refine .o1 (tg rfl rfl rfl (fun _ _ k => k.eq1 13 18 rfl) fun _ w hn k => ⟨_, v_field rfl (k.fx 3 h12) (fun w => rfl), rfl⟩) ?_
  refine .o1 (tg rfl rfl rfl (fun _ _ k => k.eq1 13 18 rfl) fun _ w hn k => ⟨_, v_load rfl (k.eq1 15 20 rfl) (l_one Try.isAgg3 ((hb15.new_ hn).cell 1)), rfl⟩) ?_
  refine .o1 (tkC rfl (onG rfl rfl fun _ _ k => k.eq1 13 18 rfl) rfl fun _ w hn k => (by
        refine ⟨#[iv x.n], _, args1 (k.eq1 16 21 rfl), fun w => by kernel_rfl, bOf_c x.n _ (by omega) (by omega), ?_⟩
        rintro e w' ⟨A1, c2, rfl, hmo0, hm⟩
        exact ⟨_, rfl, hm, ⟨A1, c2, rfl, hmo0⟩⟩)) ?_
  refine .o1 (tkC rfl (onG rfl rfl fun _ _ k => k.eq1 13 18 rfl) rfl fun _ w hn k => (by
        obtain ⟨A5, c6, e7, hx8⟩ : (fun (v_ : Value) (W : World) => ∃ (A3 : Option Addr) (c4 : Nat), v_ = .agg #[.bool (decide (x.n < 0)), sv A3 (canon (x.n).natAbs) c4] ∧ SRow W .u32 A3 (canon (x.n).natAbs) c4) _ _ := k.dep 17 22 (by kernel_rfl) (by kernel_rfl)
        refine ⟨#[.agg #[.bool a, sv Aa ma ca], .agg #[.bool (decide (x.n < 0)), sv A5 (canon (x.n).natAbs) c6]], _, args2 (k.eq1 14 19 rfl) e7, fun w => by kernel_rfl, bSame_c a _ ma _ (decide (x.n < 0)) _ (canon (x.n).natAbs) _ _ (hra.new_ (hN18.transNew hn)) hx8 ha (limbs_canon _) (by first | omega | (simp only [List.length_nil, List.length_take, List.length_drop]; omega) | (simp only [List.length_cons, List.length_nil]; omega)) (by first | omega | (simp only [List.length_nil, List.length_take, List.length_drop]; omega) | (simp only [List.length_cons, List.length_nil]; omega)), ?_⟩
        rintro e w' ⟨rfl, hm⟩
        exact ⟨_, rfl, hm, rfl⟩)) ?_
  refine .o1 (tg rfl rfl rfl (fun _ _ k => k.eq1 9 14 rfl) fun _ w hn k => ⟨_, v_pickT rfl (k.eq1 13 18 rfl) (k.eq1 18 23 rfl), rfl⟩) ?_
  refine .o1 (tk rfl rfl fun _ w hn k => ⟨_, v_pickF rfl (k.eq1 9 14 rfl) (k.eq1 19 24 rfl), rfl⟩) ?_
  refine .o1 (tk rfl rfl fun _ w hn k => ⟨_, v_assign rfl (k.eq1 20 25 rfl), rfl⟩) ?_
  exact .nil
  intro a31 w32 hn33 ha34
  obtain ⟨hs35, hd36, hN38⟩ := aft ha34 hs6 hd7 hN18 hn33
  have h37 := ha34.ge 21 4 rfl
  refine st_nil (hK19 _ _ ?_)
  refine wp_ret (ret_k hd36 (v := .bool (decide (goodI a ma = goodI (decide (x.n < 0)) (canon (x.n).natAbs)))) (res_t rfl h37 _) ?_)
  refine ⟨?_, hN38⟩
  show Ending.returned (.bool (decide (goodI a ma = goodI (decide (x.n < 0)) (canon (x.n).natAbs)))) = Ending.returned (.bool (alikeB a ma x))
  first | rfl | (simp only [alikeB, ht20, ht21, ht30, good_canon (z := x.n) (by omega), bsm] <;> rfl) | (simp [alikeB, ht20, ht21, ht30, good_canon (z := x.n) (by omega)]; done) | (exfalso; omega)
  have ht30d := of_decide_eq_false ht30
  refine wp_g0 [true, true, true, true, true, true, true, true, true, true, true, true, true, true, true, true, true, true, true, true, true, true] [] 26
    [ve (pv q13),
     ve (iv x.k),
     ve (.bool true),
     ve (.bool true),
     ve (.pointer (some ⟨q9, 1, none⟩)),
     ve (sv Aa ma ca),
     ve (iv (ma.length : Int)),
     ve (.bool false),
     ve (.bool false),
     ve (.bool false),
     ve (pv q13),
     ve (iv x.k),
     ve (.bool false),
     ve (.bool false),
     ve undef,
     ve undef,
     ve undef,
     ve undef,
     ve undef,
     ve (.bool false),
     ve (.bool false),
     ve (.bool false)] hs6 (.eq (.eq (.eq (.eq (.eq (.eq (.eq (.eq (.eq (.eq (.eq (.eq (.eq (.eq (.eq (.eq (.eq (.eq (.eq (.eq (.eq (.eq (.nil))))))))))))))))))))))) ?_ ?_
  refine .o1 (tk rfl rfl fun _ w hn k => ⟨_, v_field rfl (k.fx 3 h12) (fun w => rfl), rfl⟩) ?_
  refine .o1 (tk rfl rfl fun _ w hn k => ⟨_, v_load rfl (k.eq1 0 5 rfl) (l_one Try.isAgg3 ((hb15.new_ hn).cell 0)), rfl⟩) ?_
  refine .o1 (tk rfl rfl fun _ w hn k => ⟨_, v_bin rfl (k.eq1 1 6 rfl) rfl (fun _ => rfl) (r_eql ht20), rfl⟩) ?_
  refine .o1 (tk rfl rfl fun _ w hn k => ⟨_, v_move rfl (k.eq1 2 7 rfl), rfl⟩) ?_
  refine .o1 (tg rfl rfl rfl (fun _ _ k => k.eq1 3 8 rfl) fun _ w hn k => ⟨_, v_field rfl (k.fx 2 h8) (fun w => rfl), rfl⟩) ?_
  refine .o1 (tg rfl rfl rfl (fun _ _ k => k.eq1 3 8 rfl) fun _ w hn k => ⟨_, v_load rfl (k.eq1 4 9 rfl) (l_one Try.isAgg24 ((hb11.new_ hn).cell 1)), rfl⟩) ?_
  refine .o1 (tg rfl rfl rfl (fun _ _ k => k.eq1 3 8 rfl) fun _ w hn k => ⟨_, v_lenR rfl elW (k.eq1 5 10 rfl), rfl⟩) ?_
  refine .o1 (tg rfl rfl rfl (fun _ _ k => k.eq1 3 8 rfl) fun _ w hn k => ⟨_, v_bin rfl (k.eq1 6 11 rfl) rfl (fun _ => rfl) (r_eql ht21), rfl⟩) ?_
  refine .o1 (tk rfl rfl fun _ w hn k => ⟨_, v_pickT rfl (k.eq1 3 8 rfl) (k.eq1 7 12 rfl), rfl⟩) ?_
  refine .o1 (tk rfl rfl fun _ w hn k => ⟨_, v_move rfl (k.eq1 8 13 rfl), rfl⟩) ?_
  refine .o1 (tg rfl rfl rfl (fun _ _ k => k.eq1 9 14 rfl) fun _ w hn k => ⟨_, v_field rfl (k.fx 3 h12) (fun w => rfl), rfl⟩) ?_
  refine .o1 (tg rfl rfl rfl (fun _ _ k => k.eq1 9 14 rfl) fun _ w hn k => ⟨_, v_load rfl (k.eq1 10 15 rfl) (l_one Try.isAgg3 ((hb15.new_ hn).cell 0)), rfl⟩) ?_
  refine .o1 (tg rfl rfl rfl (fun _ _ k => k.eq1 9 14 rfl) fun _ w hn k => ⟨_, v_bin rfl (k.eq1 11 16 rfl) rfl (fun _ => rfl) (r_eql ht30), rfl⟩) ?_
  refine .o1 (tg rfl rfl rfl (fun _ _ k => k.eq1 9 14 rfl) fun _ w hn k => ⟨_, v_move rfl (k.eq1 12 17 rfl), rfl⟩) ?_
  refine .o1 (sk rfl rfl rfl (fun _ _ _ k => k.eq1 13 18 rfl) (fun _ => rfl)) ?_
  refine .o1 (sk rfl rfl rfl (fun _ _ _ k => k.eq1 13 18 rfl) (fun _ => rfl)) ?_
  refine .o1 (sk rfl rfl rfl (fun _ _ _ k => k.eq1 13 18 rfl) (fun _ => rfl)) ?_
  refine .o1 (sk rfl rfl rfl (fun _ _ _ k => k.eq1 13 18 rfl) (fun _ => rfl)) ?_
  refine .o1 (sk rfl rfl rfl (fun _ _ _ k => k.eq1 13 18 rfl) (fun _ => rfl)) ?_
  refine .o1 (tg rfl rfl rfl (fun _ _ k => k.eq1 9 14 rfl) fun _ w hn k => ⟨_, v_pickF rfl (k.eq1 13 18 rfl) rfl, rfl⟩) ?_
  refine .o1 (tk rfl rfl fun _ w hn k => ⟨_, v_pickF rfl (k.eq1 9 14 rfl) (k.eq1 19 24 rfl), rfl⟩) ?_
  refine .o1 (tk rfl rfl fun _ w hn k => ⟨_, v_assign rfl (k.eq1 20 25 rfl), rfl⟩) ?_
  exact .nil
  intro a39 w40 hn41 ha42
  obtain ⟨hs43, hd44, hN46⟩ := aft ha42 hs6 hd7 hN18 hn41
  have h45 := ha42.ge 21 4 rfl
  refine st_nil (hK19 _ _ ?_)
  refine wp_ret (ret_k hd44 (v := .bool false) (res_t rfl h45 _) ?_)
  refine ⟨?_, hN46⟩
  show Ending.returned (.bool false) = Ending.returned (.bool (alikeB a ma x))
  first | rfl | (simp only [alikeB, ht20, ht21, ht30, good_canon (z := x.n) (by omega), bsm] <;> rfl) | (simp [alikeB, ht20, ht21, ht30, good_canon (z := x.n) (by omega)]; done) | (exfalso; omega)
  have ht20d := of_decide_eq_false ht20
  rcases Bool.eq_false_or_eq_true (decide (x.k = 0)) with ht47 | ht47
  have ht47d := of_decide_eq_true ht47
  refine wp_g0 [true, true, true, true, true, true, true, true, true, true, true, true, true, true, true, true, true, true, true, true, true, true] [] 26
    [ve (pv q13),
     ve (iv x.k),
     ve (.bool false),
     ve (.bool false),
     ve undef,
     ve undef,
     ve undef,
     ve undef,
     ve (.bool false),
     ve (.bool false),
     ve (pv q13),
     ve (iv x.k),
     ve (.bool true),
     ve (.bool true),
     ve (.agg #[.bool a, sv Aa ma ca]),
     ve (.pointer (some ⟨q13, 1, none⟩)),
     ve (iv x.n),
     (fun (v_ : Value) (W : World) => ∃ (A11 : Option Addr) (c12 : Nat), v_ = .agg #[.bool (decide (x.n < 0)), sv A11 (canon (x.n).natAbs) c12] ∧ SRow W .u32 A11 (canon (x.n).natAbs) c12),
     ve (.bool (decide (goodI a ma = goodI (decide (x.n < 0)) (canon (x.n).natAbs)))),
     ve (.bool (decide (goodI a ma = goodI (decide (x.n < 0)) (canon (x.n).natAbs)))),
     ve (.bool (decide (goodI a ma = goodI (decide (x.n < 0)) (canon (x.n).natAbs)))),
     ve (.bool (decide (goodI a ma = goodI (decide (x.n < 0)) (canon (x.n).natAbs))))] hs6 (.eq (.eq (.eq (.eq (.eq (.eq (.eq (.eq (.eq (.eq (.eq (.eq (.eq (.eq (.eq (.eq (.eq (.cons (fun v W W' hn ⟨A11, c12, he, h0⟩ => ⟨A11, c12, he, h0.new_ hn⟩) (.eq (.eq (.eq (.eq (.nil))))))))))))))))))))))) ?_ ?_
  refine .o1 (tk rfl rfl fun _ w hn k => ⟨_, v_field rfl (k.fx 3 h12) (fun w => rfl), rfl⟩) ?_
  refine .o1 (tk rfl rfl fun _ w hn k => ⟨_, v_load rfl (k.eq1 0 5 rfl) (l_one Try.isAgg3 ((hb15.new_ hn).cell 0)), rfl⟩) ?_
  refine .o1 (tk rfl rfl fun _ w hn k => ⟨_, v_bin rfl (k.eq1 1 6 rfl) rfl (fun _ => rfl) (r_eql ht20), rfl⟩) ?_
  refine .o1 (tk rfl rfl fun _ w hn k => ⟨_, v_move rfl (k.eq1 2 7 rfl), rfl⟩) ?_
  refine .o1 (sk rfl rfl rfl (fun _ _ _ k => k.eq1 3 8 rfl) (fun _ => rfl)) ?_
  refine .o1 (sk rfl rfl rfl (fun _ _ _ k => k.eq1 3 8 rfl) (fun _ => rfl)) ?_
  refine .o1 (sk rfl rfl rfl (fun _ _ _ k => k.eq1 3 8 rfl) (fun _ => rfl)) ?_
  refine .o1 (sk rfl rfl rfl (fun _ _ _ k => k.eq1 3 8 rfl) (fun _ => rfl)) ?_
  refine .o1 (tk rfl rfl fun _ w hn k => ⟨_, v_pickF rfl (k.eq1 3 8 rfl) rfl, rfl⟩) ?_
  refine .o1 (tk rfl rfl fun _ w hn k => ⟨_, v_move rfl (k.eq1 8 13 rfl), rfl⟩) ?_
  refine .o1 (tg rfl rfl rfl (fun _ _ k => k.eq1 9 14 rfl) fun _ w hn k => ⟨_, v_field rfl (k.fx 3 h12) (fun w => rfl), rfl⟩) ?_
  refine .o1 (tg rfl rfl rfl (fun _ _ k => k.eq1 9 14 rfl) fun _ w hn k => ⟨_, v_load rfl (k.eq1 10 15 rfl) (l_one Try.isAgg3 ((hb15.new_ hn).cell 0)), rfl⟩) ?_
  refine .o1 (tg rfl rfl rfl (fun _ _ k => k.eq1 9 14 rfl) fun _ w hn k => ⟨_, v_bin rfl (k.eq1 11 16 rfl) rfl (fun _ => rfl) (r_eql ht47), rfl⟩) ?_
  refine .o1 (tg rfl rfl rfl (fun _ _ k => k.eq1 9 14 rfl) fun _ w hn k => ⟨_, v_move rfl (k.eq1 12 17 rfl), rfl⟩) ?_
  refine .o1 (tg rfl rfl rfl (fun _ _ k => k.eq1 13 18 rfl) fun _ w hn k => ⟨_, v_load rfl (k.fx 2 h8) (l_two Try.isAgg26 Try.sizeOf26 (hb11.new_ hn)), rfl⟩) ?_
  refine .o1 (tg rfl rfl rfl (fun _ _ k => k.eq1 13 18 rfl) fun _ w hn k => ⟨_, v_field rfl (k.fx 3 h12) (fun w => rfl), rfl⟩) ?_
  refine .o1 (tg rfl rfl rfl (fun _ _ k => k.eq1 13 18 rfl) fun _ w hn k => ⟨_, v_load rfl (k.eq1 15 20 rfl) (l_one Try.isAgg3 ((hb15.new_ hn).cell 1)), rfl⟩) ?_
  refine .o1 (tkC rfl (onG rfl rfl fun _ _ k => k.eq1 13 18 rfl) rfl fun _ w hn k => (by
        refine ⟨#[iv x.n], _, args1 (k.eq1 16 21 rfl), fun w => by kernel_rfl, bOf_c x.n _ (by omega) (by omega), ?_⟩
        rintro e w' ⟨A9, c10, rfl, hmo0, hm⟩
        exact ⟨_, rfl, hm, ⟨A9, c10, rfl, hmo0⟩⟩)) ?_
  refine .o1 (tkC rfl (onG rfl rfl fun _ _ k => k.eq1 13 18 rfl) rfl fun _ w hn k => (by
        obtain ⟨A13, c14, e15, hx16⟩ : (fun (v_ : Value) (W : World) => ∃ (A11 : Option Addr) (c12 : Nat), v_ = .agg #[.bool (decide (x.n < 0)), sv A11 (canon (x.n).natAbs) c12] ∧ SRow W .u32 A11 (canon (x.n).natAbs) c12) _ _ := k.dep 17 22 (by kernel_rfl) (by kernel_rfl)
        refine ⟨#[.agg #[.bool a, sv Aa ma ca], .agg #[.bool (decide (x.n < 0)), sv A13 (canon (x.n).natAbs) c14]], _, args2 (k.eq1 14 19 rfl) e15, fun w => by kernel_rfl, bSame_c a _ ma _ (decide (x.n < 0)) _ (canon (x.n).natAbs) _ _ (hra.new_ (hN18.transNew hn)) hx16 ha (limbs_canon _) (by first | omega | (simp only [List.length_nil, List.length_take, List.length_drop]; omega) | (simp only [List.length_cons, List.length_nil]; omega)) (by first | omega | (simp only [List.length_nil, List.length_take, List.length_drop]; omega) | (simp only [List.length_cons, List.length_nil]; omega)), ?_⟩
        rintro e w' ⟨rfl, hm⟩
        exact ⟨_, rfl, hm, rfl⟩)) ?_
  refine .o1 (tg rfl rfl rfl (fun _ _ k => k.eq1 9 14 rfl) fun _ w hn k => ⟨_, v_pickT rfl (k.eq1 13 18 rfl) (k.eq1 18 23 rfl), rfl⟩) ?_
  refine .o1 (tk rfl rfl fun _ w hn k => ⟨_, v_pickF rfl (k.eq1 9 14 rfl) (k.eq1 19 24 rfl), rfl⟩) ?_
  refine .o1 (tk rfl rfl fun _ w hn k => ⟨_, v_assign rfl (k.eq1 20 25 rfl), rfl⟩) ?_
  exact .nil
  intro a48 w49 hn50 ha51
  obtain ⟨hs52, hd53, hN55⟩ := aft ha51 hs6 hd7 hN18 hn50
  have h54 := ha51.ge 21 4 rfl
  refine st_nil (hK19 _ _ ?_)
  refine wp_ret (ret_k hd53 (v := .bool (decide (goodI a ma = goodI (decide (x.n < 0)) (canon (x.n).natAbs)))) (res_t rfl h54 _) ?_)
  refine ⟨?_, hN55⟩
  show Ending.returned (.bool (decide (goodI a ma = goodI (decide (x.n < 0)) (canon (x.n).natAbs)))) = Ending.returned (.bool (alikeB a ma x))
  first | rfl | (simp only [alikeB, ht20, ht47, good_canon (z := x.n) (by omega), bsm] <;> rfl) | (simp [alikeB, ht20, ht47, good_canon (z := x.n) (by omega)]; done) | (exfalso; omega)
  have ht47d := of_decide_eq_false ht47
  refine wp_g0 [true, true, true, true, true, true, true, true, true, true, true, true, true, true, true, true, true, true, true, true, true, true] [] 26
    [ve (pv q13),
     ve (iv x.k),
     ve (.bool false),
     ve (.bool false),
     ve undef,
     ve undef,
     ve undef,
     ve undef,
     ve (.bool false),
     ve (.bool false),
     ve (pv q13),
     ve (iv x.k),
     ve (.bool false),
     ve (.bool false),
     ve undef,
     ve undef,
     ve undef,
     ve undef,
     ve undef,
     ve (.bool false),
     ve (.bool false),
     ve (.bool false)] hs6 (.eq (.eq (.eq (.eq (.eq (.eq (.eq (.eq (.eq (.eq (.eq (.eq (.eq (.eq (.eq (.eq (.eq (.eq (.eq (.eq (.eq (.eq (.nil))))))))))))))))))))))) ?_ ?_
  refine .o1 (tk rfl rfl fun _ w hn k => ⟨_, v_field rfl (k.fx 3 h12) (fun w => rfl), rfl⟩) ?_
  refine .o1 (tk rfl rfl fun _ w hn k => ⟨_, v_load rfl (k.eq1 0 5 rfl) (l_one Try.isAgg3 ((hb15.new_ hn).cell 0)), rfl⟩) ?_
  refine .o1 (tk rfl rfl fun _ w hn k => ⟨_, v_bin rfl (k.eq1 1 6 rfl) rfl (fun _ => rfl) (r_eql ht20), rfl⟩) ?_
  refine .o1 (tk rfl rfl fun _ w hn k => ⟨_, v_move rfl (k.eq1 2 7 rfl), rfl⟩) ?_
  refine .o1 (sk rfl rfl rfl (fun _ _ _ k => k.eq1 3 8 rfl) (fun _ => rfl)) ?_
  refine .o1 (sk rfl rfl rfl (fun _ _ _ k => k.eq1 3 8 rfl) (fun _ => rfl)) ?_
  refine .o1 (sk rfl rfl rfl (fun _ _ _ k => k.eq1 3 8 rfl) (fun _ => rfl)) ?_
  refine .o1 (sk rfl rfl rfl (fun _ _ _ k => k.eq1 3 8 rfl) (fun _ => rfl)) ?_
  refine .o1 (tk rfl rfl fun _ w hn k => ⟨_, v_pickF rfl (k.eq1 3 8 rfl) rfl, rfl⟩) ?_
  refine .o1 (tk rfl rfl fun _ w hn k => ⟨_, v_move rfl (k.eq1 8 13 rfl), rfl⟩) ?_
  refine .o1 (tg rfl rfl rfl (fun _ _ k => k.eq1 9 14 rfl) fun _ w hn k => ⟨_, v_field rfl (k.fx 3 h12) (fun w => rfl), rfl⟩) ?_
  refine .o1 (tg rfl rfl rfl (fun _ _ k => k.eq1 9 14 rfl) fun _ w hn k => ⟨_, v_load rfl (k.eq1 10 15 rfl) (l_one Try.isAgg3 ((hb15.new_ hn).cell 0)), rfl⟩) ?_
  refine .o1 (tg rfl rfl rfl (fun _ _ k => k.eq1 9 14 rfl) fun _ w hn k => ⟨_, v_bin rfl (k.eq1 11 16 rfl) rfl (fun _ => rfl) (r_eql ht47), rfl⟩) ?_
  refine .o1 (tg rfl rfl rfl (fun _ _ k => k.eq1 9 14 rfl) fun _ w hn k => ⟨_, v_move rfl (k.eq1 12 17 rfl), rfl⟩) ?_
  refine .o1 (sk rfl rfl rfl (fun _ _ _ k => k.eq1 13 18 rfl) (fun _ => rfl)) ?_
  refine .o1 (sk rfl rfl rfl (fun _ _ _ k => k.eq1 13 18 rfl) (fun _ => rfl)) ?_
  refine .o1 (sk rfl rfl rfl (fun _ _ _ k => k.eq1 13 18 rfl) (fun _ => rfl)) ?_
  refine .o1 (sk rfl rfl rfl (fun _ _ _ k => k.eq1 13 18 rfl) (fun _ => rfl)) ?_
  refine .o1 (sk rfl rfl rfl (fun _ _ _ k => k.eq1 13 18 rfl) (fun _ => rfl)) ?_
  refine .o1 (tg rfl rfl rfl (fun _ _ k => k.eq1 9 14 rfl) fun _ w hn k => ⟨_, v_pickF rfl (k.eq1 13 18 rfl) rfl, rfl⟩) ?_
  refine .o1 (tk rfl rfl fun _ w hn k => ⟨_, v_pickF rfl (k.eq1 9 14 rfl) (k.eq1 19 24 rfl), rfl⟩) ?_
  refine .o1 (tk rfl rfl fun _ w hn k => ⟨_, v_assign rfl (k.eq1 20 25 rfl), rfl⟩) ?_
  exact .nil
  intro a56 w57 hn58 ha59
  obtain ⟨hs60, hd61, hN63⟩ := aft ha59 hs6 hd7 hN18 hn58
  have h62 := ha59.ge 21 4 rfl
  refine st_nil (hK19 _ _ ?_)
  refine wp_ret (ret_k hd61 (v := .bool false) (res_t rfl h62 _) ?_)
  refine ⟨?_, hN63⟩
  show Ending.returned (.bool false) = Ending.returned (.bool (alikeB a ma x))
  first | rfl | (simp only [alikeB, ht20, ht47, good_canon (z := x.n) (by omega), bsm] <;> rfl) | (simp [alikeB, ht20, ht47, good_canon (z := x.n) (by omega)]; done) | (exfalso; omega)
set_option maxHeartbeats 4000000 in
set_option maxRecDepth 100000 in
theorem blank_c (x : Nat) (w : World) (hx : x < 65536) : Calls Try.prog 63 #[.int .u16 (x : Int)] w (IsRet (.bool (blankN x)) w) := by
  refine enter_abs Try.func63 rfl fun a0 hs0 hd0 hp => ?_
  have hs0 : a0.tmps.size = 17 := hs0
  have hN0 : New w w := Upd.refl _ _
  have hp0 : a0.eval (.tmp 0) = .int .u16 (x : Int) := hp 0 _ rfl
  refine wp_seq_k fun K1 hK1 => ?_
  refine wp_g0 [true] [] 17
    [ve (.bool false)] hs0 (.eq (.nil)) ?_ ?_
  refine .o1 (tk rfl rfl fun _ w hn k => ⟨_, v_assign rfl rfl, rfl⟩) ?_
  exact .nil
  intro a2 w3 hn4 ha5
  obtain ⟨hs6, hd7, hN9⟩ := aft ha5 hs0 hd0 hN0 hn4
  have h8 := ha5.fx 0 hp0
  refine st_nil (hK1 _ _ ?_)
  refine wp_seq_k fun K10 hK10 => ?_
  rcases Bool.eq_false_or_eq_true (decide ((x : Int) = 32)) with ht11 | ht11
  have ht11d := of_decide_eq_true ht11
  refine wp_g0 [true, true, true, true, true, true, true, true, true, true, true, true, true, true, true] [] 17
    [ve (.int .u16 (x : Int)),
     ve (.bool true),
     ve (.bool true),
     ve undef,
     ve undef,
     ve (.bool true),
     ve (.bool true),
     ve undef,
     ve undef,
     ve (.bool true),
     ve (.bool true),
     ve undef,
     ve undef,
     ve (.bool true),
     ve (.bool true)] hs6 (.eq (.eq (.eq (.eq (.eq (.eq (.eq (.eq (.eq (.eq (.eq (.eq (.eq (.eq (.eq (.nil)))))))))))))))) ?_ ?_
  refine .o1 (tk rfl rfl fun _ w hn k => ⟨_, v_move rfl (k.fx 0 h8), rfl⟩) ?_
  refine .o1 (tk rfl rfl fun _ w hn k => ⟨_, v_bin rfl (k.eq1 0 3 rfl) rfl (fun _ => rfl) (r_eql ht11), rfl⟩) ?_
  refine .o1 (tk rfl rfl fun _ w hn k => ⟨_, v_move rfl (k.eq1 1 4 rfl), rfl⟩) ?_
  refine .o1 (sk rfl rfl rfl (fun _ _ _ k => k.eq1 2 5 rfl) (fun _ => rfl)) ?_
  refine .o1 (sk rfl rfl rfl (fun _ _ _ k => k.eq1 2 5 rfl) (fun _ => rfl)) ?_
  refine .o1 (tk rfl rfl fun _ w hn k => ⟨_, v_pickT rfl (k.eq1 2 5 rfl) rfl, rfl⟩) ?_
  refine .o1 (tk rfl rfl fun _ w hn k => ⟨_, v_move rfl (k.eq1 5 8 rfl), rfl⟩) ?_
  refine .o1 (sk rfl rfl rfl (fun _ _ _ k => k.eq1 6 9 rfl) (fun _ => rfl)) ?_
  refine .o1 (sk rfl rfl rfl (fun _ _ _ k => k.eq1 6 9 rfl) (fun _ => rfl)) ?_
  refine .o1 (tk rfl rfl fun _ w hn k => ⟨_, v_pickT rfl (k.eq1 6 9 rfl) rfl, rfl⟩) ?_
  refine .o1 (tk rfl rfl fun _ w hn k => ⟨_, v_move rfl (k.eq1 9 12 rfl), rfl⟩) ?_
  refine .o1 (sk rfl rfl rfl (fun _ _ _ k => k.eq1 10 13 rfl) (fun _ => rfl)) ?_
  refine .o1 (sk rfl rfl rfl (fun _ _ _ k => k.eq1 10 13 rfl) (fun _ => rfl)) ?_
  refine .o1 (tk rfl rfl fun _ w hn k => ⟨_, v_pickT rfl (k.eq1 10 13 rfl) rfl, rfl⟩) ?_
  refine .o1 (tk rfl rfl fun _ w hn k => ⟨_, v_assign rfl (k.eq1 13 16 rfl), rfl⟩) ?_
  exact .nil
  intro a12 w13 hn14 ha15
  obtain ⟨hs16, hd17, hN19⟩ := aft ha15 hs6 hd7 hN9 hn14
  have h18 := ha15.ge 14 2 rfl
  refine st_nil (hK10 _ _ ?_)
  refine wp_ret (ret_k hd17 (v := .bool true) (res_t rfl h18 _) ?_)
  refine ⟨?_, hN19⟩
  show Ending.returned (.bool true) = Ending.returned (.bool (blankN x))
  first | rfl | (simp only [blankN, ht11, bsm] <;> rfl) | (simp [blankN, ht11]; done) | (exfalso; omega)
  have ht11d := of_decide_eq_false ht11
  rcases Bool.eq_false_or_eq_true (decide ((x : Int) = 9)) with ht20 | ht20
  have ht20d := of_decide_eq_true ht20
  refine wp_g0 [true, true, true, true, true, true, true, true, true, true, true, true, true, true, true] [] 17
    [ve (.int .u16 (x : Int)),
     ve (.bool false),
     ve (.bool false),
     ve (.int .u16 (x : Int)),
     ve (.bool true),
     ve (.bool true),
     ve (.bool true),
     ve undef,
     ve undef,
     ve (.bool true),
     ve (.bool true),
     ve undef,
     ve undef,
     ve (.bool true),
     ve (.bool true)] hs6 (.eq (.eq (.eq (.eq (.eq (.eq (.eq (.eq (.eq (.eq (.eq (.eq (.eq (.eq (.eq (.nil)))))))))))))))) ?_ ?_
  refine .o1 (tk rfl rfl fun _ w hn k => ⟨_, v_move rfl (k.fx 0 h8), rfl⟩) ?_
  refine .o1 (tk rfl rfl fun _ w hn k => ⟨_, v_bin rfl (k.eq1 0 3 rfl) rfl (fun _ => rfl) (r_eql ht11), rfl⟩) ?_
  refine .o1 (tk rfl rfl fun _ w hn k => ⟨_, v_move rfl (k.eq1 1 4 rfl), rfl⟩) ?_
  refine .o1 (tg rfl rfl rfl (fun _ _ k => k.eq1 2 5 rfl) fun _ w hn k => ⟨_, v_move rfl (k.fx 0 h8), rfl⟩) ?_
  refine .o1 (tg rfl rfl rfl (fun _ _ k => k.eq1 2 5 rfl) fun _ w hn k => ⟨_, v_bin rfl (k.eq1 3 6 rfl) rfl (fun _ => rfl) (r_eql ht20), rfl⟩) ?_
  refine .o1 (tk rfl rfl fun _ w hn k => ⟨_, v_pickF rfl (k.eq1 2 5 rfl) (k.eq1 4 7 rfl), rfl⟩) ?_
  refine .o1 (tk rfl rfl fun _ w hn k => ⟨_, v_move rfl (k.eq1 5 8 rfl), rfl⟩) ?_
  refine .o1 (sk rfl rfl rfl (fun _ _ _ k => k.eq1 6 9 rfl) (fun _ => rfl)) ?_
  refine .o1 (sk rfl rfl rfl (fun _ _ _ k => k.eq1 6 9 rfl) (fun _ => rfl)) ?_
  refine .o1 (tk rfl rfl fun _ w hn k => ⟨_, v_pickT rfl (k.eq1 6 9 rfl) rfl, rfl⟩) ?_
  refine .o1 (tk rfl rfl fun _ w hn k => ⟨_, v_move rfl (k.eq1 9 12 rfl), rfl⟩) ?_
  refine .o1 (sk rfl rfl rfl (fun _ _ _ k => k.eq1 10 13 rfl) (fun _ => rfl)) ?_
  refine .o1 (sk rfl rfl rfl (fun _ _ _ k => k.eq1 10 13 rfl) (fun _ => rfl)) ?_
  refine .o1 (tk rfl rfl fun _ w hn k => ⟨_, v_pickT rfl (k.eq1 10 13 rfl) rfl, rfl⟩) ?_
  refine .o1 (tk rfl rfl fun _ w hn k => ⟨_, v_assign rfl (k.eq1 13 16 rfl), rfl⟩) ?_
  exact .nil
  intro a21 w22 hn23 ha24
  obtain ⟨hs25, hd26, hN28⟩ := aft ha24 hs6 hd7 hN9 hn23
  have h27 := ha24.ge 14 2 rfl
  refine st_nil (hK10 _ _ ?_)
  refine wp_ret (ret_k hd26 (v := .bool true) (res_t rfl h27 _) ?_)
  refine ⟨?_, hN28⟩
  show Ending.returned (.bool true) = Ending.returned (.bool (blankN x))
  first | rfl | (simp only [blankN, ht11, ht20, bsm] <;> rfl) | (simp [blankN, ht11, ht20]; done) | (exfalso; omega)
  have ht20d := of_decide_eq_false ht20
  rcases Bool.eq_false_or_eq_true (decide ((x : Int) = 10)) with ht29 | ht29
  have ht29d := of_decide_eq_true ht29
  refine wp_g0 [true, true, true, true, true, true, true, true, true, true, true, true, true, true, true] [] 17
    [ve (.int .u16 (x : Int)),
     ve (.bool false),
     ve (.bool false),
     ve (.int .u16 (x : Int)),
     ve (.bool false),
     ve (.bool false),
     ve (.bool false),
     ve (.int .u16 (x : Int)),
     ve (.bool true),
     ve (.bool true),
     ve (.bool true),
     ve undef,
     ve undef,
     ve (.bool true),
     ve (.bool true)] hs6 (.eq (.eq (.eq (.eq (.eq (.eq (.eq (.eq (.eq (.eq (.eq (.eq (.eq (.eq (.eq (.nil)))))))))))))))) ?_ ?_
  refine .o1 (tk rfl rfl fun _ w hn k => ⟨_, v_move rfl (k.fx 0 h8), rfl⟩) ?_
  refine .o1 (tk rfl rfl fun _ w hn k => ⟨_, v_bin rfl (k.eq1 0 3 rfl) rfl (fun _ => rfl) (r_eql ht11), rfl⟩) ?_
  refine .o1 (tk rfl rfl fun _ w hn k => ⟨_, v_move rfl (k.eq1 1 4 rfl), rfl⟩) ?_
  refine .o1 (tg rfl rfl rfl (fun _ _ k => k.eq1 2 5 rfl) fun _ w hn k => ⟨_, v_move rfl (k.fx 0 h8), rfl⟩) ?_
  refine .o1 (tg rfl rfl rfl (fun _ _ k => k.eq1 2 5 rfl) fun _ w hn k => ⟨_, v_bin rfl (k.eq1 3 6 rfl) rfl (fun _ => rfl) (r_eql ht20), rfl⟩) ?_
  refine .o1 (tk rfl rfl fun _ w hn k => ⟨_, v_pickF rfl (k.eq1 2 5 rfl) (k.eq1 4 7 rfl), rfl⟩) ?_
  refine .o1 (tk rfl rfl fun _ w hn k => ⟨_, v_move rfl (k.eq1 5 8 rfl), rfl⟩) ?_
  refine .o1 (tg rfl rfl rfl (fun _ _ k => k.eq1 6 9 rfl) fun _ w hn k => ⟨_, v_move rfl (k.fx 0 h8), rfl⟩) ?_
  refine .o1 (tg rfl rfl rfl (fun _ _ k => k.eq1 6 9 rfl) fun _ w hn k => ⟨_, v_bin rfl (k.eq1 7 10 rfl) rfl (fun _ => rfl) (r_eql ht29), rfl⟩) ?_
  refine .o1 (tk rfl rfl fun _ w hn k => ⟨_, v_pickF rfl (k.eq1 6 9 rfl) (k.eq1 8 11 rfl), rfl⟩) ?_
  refine .o1 (tk rfl rfl fun _ w hn k => ⟨_, v_move rfl (k.eq1 9 12 rfl), rfl⟩) ?_
  refine .o1 (sk rfl rfl rfl (fun _ _ _ k => k.eq1 10 13 rfl) (fun _ => rfl)) ?_
  refine .o1 (sk rfl rfl rfl (fun _ _ _ k => k.eq1 10 13 rfl) (fun _ => rfl)) ?_
  refine .o1 (tk rfl rfl fun _ w hn k => ⟨_, v_pickT rfl (k.eq1 10 13 rfl) rfl, rfl⟩) ?_
  refine .o1 (tk rfl rfl fun _ w hn k => ⟨_, v_assign rfl (k.eq1 13 16 rfl), rfl⟩) ?_
  exact .nil
  intro a30 w31 hn32 ha33
  obtain ⟨hs34, hd35, hN37⟩ := aft ha33 hs6 hd7 hN9 hn32
  have h36 := ha33.ge 14 2 rfl
  refine st_nil (hK10 _ _ ?_)
  refine wp_ret (ret_k hd35 (v := .bool true) (res_t rfl h36 _) ?_)
  refine ⟨?_, hN37⟩
  show Ending.returned (.bool true) = Ending.returned (.bool (blankN x))
  first | rfl | (simp only [blankN, ht11, ht20, ht29, bsm] <;> rfl) | (simp [blankN, ht11, ht20, ht29]; done) | (exfalso; omega)
  have ht29d := of_decide_eq_false ht29
  refine wp_g0 [true, true, true, true, true, true, true, true, true, true, true, true, true, true, true] [] 17
    [ve (.int .u16 (x : Int)),
     ve (.bool false),
     ve (.bool false),
     ve (.int .u16 (x : Int)),
     ve (.bool false),
     ve (.bool false),
     ve (.bool false),
     ve (.int .u16 (x : Int)),
     ve (.bool false),
     ve (.bool false),
     ve (.bool false),
     ve (.int .u16 (x : Int)),
     ve (.bool (decide ((x : Int) = 13))),
     ve (.bool (decide ((x : Int) = 13))),
     ve (.bool (decide ((x : Int) = 13)))] hs6 (.eq (.eq (.eq (.eq (.eq (.eq (.eq (.eq (.eq (.eq (.eq (.eq (.eq (.eq (.eq (.nil)))))))))))))))) ?_ ?_
  refine .o1 (tk rfl rfl fun _ w hn k => ⟨_, v_move rfl (k.fx 0 h8), rfl⟩) ?_
  refine .o1 (tk rfl rfl fun _ w hn k => ⟨_, v_bin rfl (k.eq1 0 3 rfl) rfl (fun _ => rfl) (r_eql ht11), rfl⟩) ?_
  refine .o1 (tk rfl rfl fun _ w hn k => ⟨_, v_move rfl (k.eq1 1 4 rfl), rfl⟩) ?_
  refine .o1 (tg rfl rfl rfl (fun _ _ k => k.eq1 2 5 rfl) fun _ w hn k => ⟨_, v_move rfl (k.fx 0 h8), rfl⟩) ?_
  refine .o1 (tg rfl rfl rfl (fun _ _ k => k.eq1 2 5 rfl) fun _ w hn k => ⟨_, v_bin rfl (k.eq1 3 6 rfl) rfl (fun _ => rfl) (r_eql ht20), rfl⟩) ?_
  refine .o1 (tk rfl rfl fun _ w hn k => ⟨_, v_pickF rfl (k.eq1 2 5 rfl) (k.eq1 4 7 rfl), rfl⟩) ?_
  refine .o1 (tk rfl rfl fun _ w hn k => ⟨_, v_move rfl (k.eq1 5 8 rfl), rfl⟩) ?_
  refine .o1 (tg rfl rfl rfl (fun _ _ k => k.eq1 6 9 rfl) fun _ w hn k => ⟨_, v_move rfl (k.fx 0 h8), rfl⟩) ?_
  refine .o1 (tg rfl rfl rfl (fun _ _ k => k.eq1 6 9 rfl) fun _ w hn k => ⟨_, v_bin rfl (k.eq1 7 10 rfl) rfl (fun _ => rfl) (r_eql ht29), rfl⟩) ?_
  refine .o1 (tk rfl rfl fun _ w hn k => ⟨_, v_pickF rfl (k.eq1 6 9 rfl) (k.eq1 8 11 rfl), rfl⟩) ?_
  refine .o1 (tk rfl rfl fun _ w hn k => ⟨_, v_move rfl (k.eq1 9 12 rfl), rfl⟩) ?_
  refine .o1 (tg rfl rfl rfl (fun _ _ k => k.eq1 10 13 rfl) fun _ w hn k => ⟨_, v_move rfl (k.fx 0 h8), rfl⟩) ?_
  refine .o1 (tg rfl rfl rfl (fun _ _ k => k.eq1 10 13 rfl) fun _ w hn k => ⟨_, v_bin rfl (k.eq1 11 14 rfl) rfl (fun _ => rfl) (r_eql rfl), rfl⟩) ?_
  refine .o1 (tk rfl rfl fun _ w hn k => ⟨_, v_pickF rfl (k.eq1 10 13 rfl) (k.eq1 12 15 rfl), rfl⟩) ?_
  refine .o1 (tk rfl rfl fun _ w hn k => ⟨_, v_assign rfl (k.eq1 13 16 rfl), rfl⟩) ?_
  exact .nil
  intro a38 w39 hn40 ha41
  obtain ⟨hs42, hd43, hN45⟩ := aft ha41 hs6 hd7 hN9 hn40
  have h44 := ha41.ge 14 2 rfl
  refine st_nil (hK10 _ _ ?_)
  refine wp_ret (ret_k hd43 (v := .bool (decide ((x : Int) = 13))) (res_t rfl h44 _) ?_)
  refine ⟨?_, hN45⟩
  show Ending.returned (.bool (decide ((x : Int) = 13))) = Ending.returned (.bool (blankN x))
  first | rfl | (simp only [blankN, ht11, ht20, ht29, bsm] <;> rfl) | (simp [blankN, ht11, ht20, ht29]; done) | (exfalso; omega)
set_option maxHeartbeats 4000000 in
set_option maxRecDepth 100000 in
theorem digit_c (x : Nat) (w : World) (hx : x < 65536) : Calls Try.prog 69 #[.int .u16 (x : Int)] w (IsRet (.bool (dgtN x)) w) := by
  refine enter_abs Try.func69 rfl fun a0 hs0 hd0 hp => ?_
  have hs0 : a0.tmps.size = 9 := hs0
  have hN0 : New w w := Upd.refl _ _
  have hp0 : a0.eval (.tmp 0) = .int .u16 (x : Int) := hp 0 _ rfl
  refine wp_seq_k fun K1 hK1 => ?_
  refine wp_g0 [true] [] 9
    [ve (.bool false)] hs0 (.eq (.nil)) ?_ ?_
  refine .o1 (tk rfl rfl fun _ w hn k => ⟨_, v_assign rfl rfl, rfl⟩) ?_
  exact .nil
  intro a2 w3 hn4 ha5
  obtain ⟨hs6, hd7, hN9⟩ := aft ha5 hs0 hd0 hN0 hn4
  have h8 := ha5.fx 0 hp0
  refine st_nil (hK1 _ _ ?_)
  refine wp_seq_k fun K10 hK10 => ?_
  rcases Bool.eq_false_or_eq_true (decide ((x : Int) < 48)) with ht11 | ht11
  have ht11d := of_decide_eq_true ht11
  refine wp_g0 [true, true, true, true, true, true, true] [] 9
    [ve (.int .u16 (x : Int)),
     ve (.bool false),
     ve (.bool false),
     ve undef,
     ve undef,
     ve (.bool false),
     ve (.bool false)] hs6 (.eq (.eq (.eq (.eq (.eq (.eq (.eq (.nil)))))))) ?_ ?_
  refine .o1 (tk rfl rfl fun _ w hn k => ⟨_, v_move rfl (k.fx 0 h8), rfl⟩) ?_
  refine .o1 (tk rfl rfl fun _ w hn k => ⟨_, v_bin rfl (k.eq1 0 3 rfl) rfl (fun _ => rfl) (r_geqK ht11), rfl⟩) ?_
  refine .o1 (tk rfl rfl fun _ w hn k => ⟨_, v_move rfl (k.eq1 1 4 rfl), rfl⟩) ?_
  refine .o1 (sk rfl rfl rfl (fun _ _ _ k => k.eq1 2 5 rfl) (fun _ => rfl)) ?_
  refine .o1 (sk rfl rfl rfl (fun _ _ _ k => k.eq1 2 5 rfl) (fun _ => rfl)) ?_
  refine .o1 (tk rfl rfl fun _ w hn k => ⟨_, v_pickF rfl (k.eq1 2 5 rfl) rfl, rfl⟩) ?_
  refine .o1 (tk rfl rfl fun _ w hn k => ⟨_, v_assign rfl (k.eq1 5 8 rfl), rfl⟩) ?_
  exact .nil
  intro a12 w13 hn14 ha15
  obtain ⟨hs16, hd17, hN19⟩ := aft ha15 hs6 hd7 hN9 hn14
  have h18 := ha15.ge 6 2 rfl
  refine st_nil (hK10 _ _ ?_)
  refine wp_ret (ret_k hd17 (v := .bool false) (res_t rfl h18 _) ?_)
  refine ⟨?_, hN19⟩
  show Ending.returned (.bool false) = Ending.returned (.bool (dgtN x))
  first | rfl | (simp only [dgtN, ht11, bsm] <;> rfl) | (simp [dgtN, ht11]; done) | (exfalso; omega)
  have ht11d := of_decide_eq_false ht11
  refine wp_g0 [true, true, true, true, true, true, true] [] 9
    [ve (.int .u16 (x : Int)),
     ve (.bool true),
     ve (.bool true),
     ve (.int .u16 (x : Int)),
     ve (.bool (decide ((x : Int) ≤ 57))),
     ve (.bool (decide ((x : Int) ≤ 57))),
     ve (.bool (decide ((x : Int) ≤ 57)))] hs6 (.eq (.eq (.eq (.eq (.eq (.eq (.eq (.nil)))))))) ?_ ?_
  refine .o1 (tk rfl rfl fun _ w hn k => ⟨_, v_move rfl (k.fx 0 h8), rfl⟩) ?_
  refine .o1 (tk rfl rfl fun _ w hn k => ⟨_, v_bin rfl (k.eq1 0 3 rfl) rfl (fun _ => rfl) (r_geqK ht11), rfl⟩) ?_
  refine .o1 (tk rfl rfl fun _ w hn k => ⟨_, v_move rfl (k.eq1 1 4 rfl), rfl⟩) ?_
  refine .o1 (tg rfl rfl rfl (fun _ _ k => k.eq1 2 5 rfl) fun _ w hn k => ⟨_, v_move rfl (k.fx 0 h8), rfl⟩) ?_
  refine .o1 (tg rfl rfl rfl (fun _ _ k => k.eq1 2 5 rfl) fun _ w hn k => ⟨_, v_bin rfl (k.eq1 3 6 rfl) rfl (fun _ => rfl) (r_leqK rfl), rfl⟩) ?_
  refine .o1 (tk rfl rfl fun _ w hn k => ⟨_, v_pickT rfl (k.eq1 2 5 rfl) (k.eq1 4 7 rfl), rfl⟩) ?_
  refine .o1 (tk rfl rfl fun _ w hn k => ⟨_, v_assign rfl (k.eq1 5 8 rfl), rfl⟩) ?_
  exact .nil
  intro a20 w21 hn22 ha23
  obtain ⟨hs24, hd25, hN27⟩ := aft ha23 hs6 hd7 hN9 hn22
  have h26 := ha23.ge 6 2 rfl
  refine st_nil (hK10 _ _ ?_)
  refine wp_ret (ret_k hd25 (v := .bool (decide ((x : Int) ≤ 57))) (res_t rfl h26 _) ?_)
  refine ⟨?_, hN27⟩
  show Ending.returned (.bool (decide ((x : Int) ≤ 57))) = Ending.returned (.bool (dgtN x))
  first | rfl | (simp only [dgtN, ht11, bsm] <;> rfl) | (simp [dgtN, ht11]; done) | (exfalso; omega)
def ascii_c_P (s : ByteArray) (w : World) (en : Ending) (w' : World) : Prop := ∃ (Ar0 : Option Addr) (cr0 : Nat), en = .returned (sv Ar0 (asc s) cr0) ∧ SOwn w' w.heap.size 66 .u16 Ar0 (asc s) cr0 ∧ New w w'
set_option maxHeartbeats 4000000 in
set_option maxRecDepth 100000 in
theorem ascii_c (s : ByteArray) (w : World) (hs : s.size ≤ 1000000) : Calls Try.prog 66 #[.string s] w (ascii_c_P s w) := by
  refine enter_abs Try.func66 rfl fun a0 hs0 hd0 hp => ?_
  have hs0 : a0.tmps.size = 19 := hs0
  have hN0 : New w w := Upd.refl _ _
  have hp0 : a0.eval (.tmp 0) = .string s := hp 0 _ rfl
  refine wp_seq_k fun K1 hK1 => ?_
  refine wp_g0 [true] [] 19
    [ve (sv none ([]) 0)] hs0 (.eq (.nil)) ?_ ?_
  refine .o1 (tk rfl rfl fun _ w hn k => ⟨_, v_assign rfl rfl, rfl⟩) ?_
  exact .nil
  intro a2 w3 hn4 ha5
  obtain ⟨hs6, hd7, hN9⟩ := aft ha5 hs0 hd0 hN0 hn4
  have h8 := ha5.fx 0 hp0
  refine st_nil (hK1 _ _ ?_)
  refine wp_seq_k fun K10 hK10 => ?_
  refine wp_g0 [true] [] 19
    [ve (sv none ([]) 0)] hs6 (.eq (.nil)) ?_ ?_
  refine .o1 (tk rfl rfl fun _ w hn k => ⟨_, v_assign rfl rfl, rfl⟩) ?_
  exact .nil
  intro a11 w12 hn13 ha14
  obtain ⟨hs15, hd16, hN19⟩ := aft ha14 hs6 hd7 hN9 hn13
  have h17 := ha14.fx 0 h8
  have h18 := ha14.ge 0 3 rfl
  refine st_nil (hK10 _ _ ?_)
  refine wp_seq_k fun K20 hK20 => ?_
  refine wp_seq_k fun K21 hK21 => ?_
  refine wp_g0 [true, true, true] [] 19
    [ve (.string s),
     ve (iv (s.size : Int)),
     ve (iv 0)] hs15 (.eq (.eq (.eq (.nil)))) ?_ ?_
  refine .o1 (tk rfl rfl fun _ w hn k => ⟨_, v_move rfl (k.fx 0 h17), rfl⟩) ?_
  refine .o1 (tk rfl rfl fun _ w hn k => ⟨_, v_lenS rfl (k.eq1 0 5 rfl) (by kernel_rfl), rfl⟩) ?_
  refine .o1 (tk rfl rfl fun _ w hn k => ⟨_, v_move rfl rfl, rfl⟩) ?_
  exact .nil
  intro a22 w23 hn24 ha25
  obtain ⟨hs26, hd27, hN32⟩ := aft ha25 hs15 hd16 hN19 hn24
  have h28 := ha25.fx 0 h17
  have h29 := ha25.fx 3 h18
  have h30 := ha25.ge 1 6 rfl
  have h31 := ha25.ge 2 7 rfl
  refine st_nil (hK21 _ _ ?_)
  refine wp_block ?_
  refine wp_loopX (fun (mm : Nat) (aa : Act) (ww : World) => ∃ (i : Nat) (A1 : Option Addr) (c1 : Nat), mm = s.size - i ∧ aa.tmps.size = 19 ∧ aa.defers = [] ∧ New w ww ∧ aa.eval (.tmp 3) = sv A1 (ascT s i) c1 ∧ aa.eval (.tmp 7) = iv (i : Int) ∧ aa.eval (.tmp 0) = .string s ∧ aa.eval (.tmp 6) = iv (s.size : Int) ∧ SOwn ww w.heap.size 66 .u16 A1 (ascT s i) c1 ∧ (i ≤ s.size)) (fun mm => mm) ⟨_, ⟨0, none, 0, rfl, hs26, hd27, hN32, (h29.trans (by rw [asc0])), h31, h28, h30, (by rw [asc0]; exact SOwn.nil _ _ _ _), (Nat.zero_le _)⟩⟩ ?_
  rintro mm a33 w34 ⟨i, A1, c1, hmm, hs35, hd36, hN37, h38, h39, h40, h41, hr42, hi⟩
  refine wp_seq_k fun K43 hK43 => ?_
  refine wp_g0 [true] [] 19
    [ve (.bool (decide ((i : Int) < (s.size : Int))))] hs35 (.eq (.nil)) ?_ ?_
  refine .o1 (tk rfl rfl fun _ w hn k => ⟨_, v_bin rfl (k.fx 7 h39) (k.fx 6 h41) (fun _ => rfl) (r_lssK rfl), rfl⟩) ?_
  exact .nil
  intro a44 w45 hn46 ha47
  obtain ⟨hs48, hd49, hN56⟩ := aft ha47 hs35 hd36 hN37 hn46
  have h50 := ha47.fx 3 h38
  have h51 := ha47.fx 7 h39
  have h52 := ha47.fx 0 h40
  have h53 := ha47.fx 6 h41
  have h54 := ha47.ge 0 8 rfl
  have hr55 := hr42.new_ hn46
  refine st_nil (hK43 _ _ ?_)
  refine wp_seq_k fun K57 hK57 => ?_
  rcases Bool.eq_false_or_eq_true (decide ((i : Int) < (s.size : Int))) with ht58 | ht58
  have ht58d := of_decide_eq_true ht58
  have hv59 := hB h54 ht58
  refine wp_cond_true hv59 ?_
  refine wp_skip ?_
  refine hK57 _ _ ?_
  refine wp_seq_k fun K60 hK60 => ?_
  refine wp_block ?_
  refine wp_seq_k fun K61 hK61 => ?_
  refine wp_g0 [true, true] [] 19
    [ve (iv (i : Int)),
     ve (iv (i : Int))] hs48 (.eq (.eq (.nil))) ?_ ?_
  refine .o1 (tk rfl rfl fun _ w hn k => ⟨_, v_move rfl (k.fx 7 h51), rfl⟩) ?_
  refine .o1 (tk rfl rfl fun _ w hn k => ⟨_, v_assign rfl (k.eq1 0 9 rfl), rfl⟩) ?_
  exact .nil
  intro a62 w63 hn64 ha65
  obtain ⟨hs66, hd67, hN74⟩ := aft ha65 hs48 hd49 hN56 hn64
  have h68 := ha65.fx 3 h50
  have h69 := ha65.fx 7 h51
  have h70 := ha65.fx 0 h52
  have h71 := ha65.fx 6 h53
  have h72 := ha65.ge 1 4 rfl
  have hr73 := hr55.new_ hn64
  refine st_nil (hK61 _ _ ?_)
  have hal := @ascT_len s i
  have hbl := bAt_lt s i
  refine wp_g0 [true, true, true, true, true, true, false, false] [(6, false), (7, true)] 19
    [ve (sv A1 (ascT s i) c1),
     ve (.string s),
     ve (iv (i : Int)),
     ve (.int .u8 ((bAt s i : Nat) : Int)),
     ve (.int .u16 ((bAt s i : Nat) : Int)),
     (fun (v_ : Value) (W : World) => ∃ (A3 : Option Addr) (c4 : Nat), v_ = sv A3 ([(bAt s i)]) c4 ∧ SOwn W w63.heap.size 66 .u16 A3 ([(bAt s i)]) c4),
     vt,
     vt] hs66 (.eq (.eq (.eq (.eq (.eq (.cons (fun v W W' hn ⟨A3, c4, he, h0⟩ => ⟨A3, c4, he, h0.new_ hn⟩) (.tt (.tt (.nil))))))))) ?_ ?_
  refine .o1 (tk rfl rfl fun _ w hn k => ⟨_, v_move rfl (k.fx 3 h68), rfl⟩) ?_
  refine .o1 (tk rfl rfl fun _ w hn k => ⟨_, v_move rfl (k.fx 0 h70), rfl⟩) ?_
  refine .o1 (tk rfl rfl fun _ w hn k => ⟨_, v_move rfl (k.fx 4 h72), rfl⟩) ?_
  refine .o1 (tk rfl rfl fun _ w hn k => ⟨_, v_idxN rfl (k.eq1 1 11 rfl) (k.eq1 2 12 rfl) (by kernel_rfl) (by omega), rfl⟩) ?_
  refine .o1 (tk rfl rfl fun _ w hn k => ⟨_, v_conv rfl (k.eq1 3 13 rfl) (n_conv (by kernel_rfl) (by kernel_rfl) (by kernel_rfl) (IntWalk.u16_in _ (by omega))), rfl⟩) ?_
  refine .o1 (tkA rfl (noG rfl) fun _ w hn k => (by
        exact x_bslice (k := .u16) (ps := [(0, .int .u16 ((bAt s i : Nat) : Int))]) [(bAt s i)] rfl (parts1 (k.eq1 4 14 rfl)) elU rfl (by omega) (by omega) (by first | kernel_rfl | (simp only [enc, List.map_cons, List.map_nil, Int.toNat_natCast, Int.toNat_of_nonneg (by omega : (0 : Int) ≤ _)]; kernel_rfl)) fun A1 c2 W' hmo => ⟨A1, c2, rfl, (hmo.more hn.size)⟩)) ?_
  refine .off ?_
  refine .off ?_
  exact .nil
  intro a75 w76 hn77 ha78
  obtain ⟨hs79, hd80, hN92⟩ := aft ha78 hs66 hd67 hN74 hn77
  have h81 := ha78.fx 3 h68
  have h82 := ha78.fx 7 h69
  have h83 := ha78.fx 0 h70
  have h84 := ha78.fx 6 h71
  have h85 := ha78.ge 0 10 rfl
  obtain ⟨A87, cc88, h86, hr89⟩ : (fun (v_ : Value) (W : World) => ∃ (A3 : Option Addr) (c4 : Nat), v_ = sv A3 ([(bAt s i)]) c4 ∧ SOwn W w63.heap.size 66 .u16 A3 ([(bAt s i)]) c4) _ _ := ha78.got 5 15 rfl (by kernel_rfl)
  have h86 : a75.eval (.tmp 15) = sv A87 ([(bAt s i)]) cc88 := h86
  have hr90 := hr73.new_ hn77
  have hr91 := hr89.more hN74.size
  have hw101 := hN92.size
  refine st_act rfl rfl fun K99 hL100 => a_append (k := .u16) (b := w.heap.size) rfl elU h85 hr90 h86 hr91.row (by first | omega | (simp only [List.length_nil, List.length_cons, List.length_append, List.length_take, List.length_drop, List.length_replicate, List.length_set]; omega)) (by first | omega | (simp only [List.length_nil, List.length_cons, List.length_append, List.length_take, List.length_drop, List.length_replicate, List.length_set]; omega)) hw101 fun A93 cc94 w95 hr96 hg97 => hL100 _ _ trivial ?_
  have hN98 := hN92.ownGrown hr90 hg97
  obtain ⟨a102, ha103⟩ : ∃ a', a' = a75.put (some 16) (sv A93 ((ascT s i) ++ [(bAt s i)]) cc94) := ⟨_, rfl⟩
  have hs104 : a102.tmps.size = 19 := by rw [ha103, put_size]; exact hs79
  have hd105 : a102.defers = [] := by rw [ha103, put_defers]; exact hd80
  have h106 := pn ha103 h82 (by decide)
  have h107 := pn ha103 h83 (by decide)
  have h108 := pn ha103 h84 (by decide)
  have h109 : a102.eval (.tmp 16) = sv A93 ((ascT s i) ++ [(bAt s i)]) cc94 := by rw [ha103]; exact put_same _ _ _ (by rw [hs79]; decide)
  show stepsTo _ _ _ _ _ (a75.put (some 16) (sv A93 ((ascT s i) ++ [(bAt s i)]) cc94)) _
  rw [← ha103]
  refine st_take rfl rfl (y_assign (v := sv A93 ((ascT s i) ++ [(bAt s i)]) cc94) rfl h109) rfl ?_
  obtain ⟨a110, ha111⟩ : ∃ a', a' = a102.put (some 3) (sv A93 ((ascT s i) ++ [(bAt s i)]) cc94) := ⟨_, rfl⟩
  have hs112 : a110.tmps.size = 19 := by rw [ha111, put_size]; exact hs104
  have hd113 : a110.defers = [] := by rw [ha111, put_defers]; exact hd105
  have h114 := pn ha111 h106 (by decide)
  have h115 := pn ha111 h107 (by decide)
  have h116 := pn ha111 h108 (by decide)
  have h117 := pn ha111 h109 (by decide)
  have h118 : a110.eval (.tmp 3) = sv A93 ((ascT s i) ++ [(bAt s i)]) cc94 := by rw [ha111]; exact put_same _ _ _ (by rw [hs104]; decide)
  show stepsTo _ _ _ _ _ (a102.put (some 3) (sv A93 ((ascT s i) ++ [(bAt s i)]) cc94)) _
  rw [← ha111]
  refine st_nil ?_
  have he119 : ((ascT s i) ++ [(bAt s i)]) = (ascT s (i + 1)) := asc_up (by omega)
  rw [he119] at h118
  rw [he119] at hr96
  refine hK60 _ _ ?_
  refine wp_g0 [true, false] [(1, true)] 19
    [ve (iv ((i + 1 : Nat) : Int)),
     vt] hs112 (.eq (.tt (.nil))) ?_ ?_
  refine .o1 (tk rfl rfl fun _ w hn k => ⟨_, v_bin rfl (k.fx 7 h114) rfl (fun _ => rfl) (n_add (by omega) (IntWalk.i64_in _ (by omega))), rfl⟩) ?_
  refine .off ?_
  exact .nil
  intro a120 w121 hn122 ha123
  obtain ⟨hs124, hd125, hN132⟩ := aft ha123 hs112 hd113 hN98 hn122
  have h126 := ha123.fx 7 h114
  have h127 := ha123.fx 0 h115
  have h128 := ha123.fx 6 h116
  have h129 := ha123.fx 3 h118
  have h130 := ha123.ge 0 17 rfl
  have hr131 := hr96.new_ hn122
  refine st_take rfl rfl (y_move (v := iv ((i + 1 : Nat) : Int)) rfl h130) rfl ?_
  obtain ⟨a133, ha134⟩ : ∃ a', a' = a120.put (some 7) (iv ((i + 1 : Nat) : Int)) := ⟨_, rfl⟩
  have hs135 : a133.tmps.size = 19 := by rw [ha134, put_size]; exact hs124
  have hd136 : a133.defers = [] := by rw [ha134, put_defers]; exact hd125
  have h137 := pn ha134 h127 (by decide)
  have h138 := pn ha134 h128 (by decide)
  have h139 := pn ha134 h129 (by decide)
  have h140 := pn ha134 h130 (by decide)
  have h141 : a133.eval (.tmp 7) = iv ((i + 1 : Nat) : Int) := by rw [ha134]; exact put_same _ _ _ (by rw [hs124]; decide)
  show stepsTo _ _ _ _ _ (a120.put (some 7) (iv ((i + 1 : Nat) : Int))) _
  rw [← ha134]
  refine st_nil ?_
  refine then_n ?_
  exact ⟨_, ⟨i + 1, A93, cc94, rfl, hs135, hd136, hN132, h139, (h141.trans (congrArg (Value.int .i64) (by omega))), h137, h138, hr131, (by omega)⟩, (by omega)⟩
  have ht58d := of_decide_eq_false ht58
  have hv142 := hB h54 ht58
  refine wp_cond_false hv142 ?_
  refine wp_exit ?_
  refine hK20 _ _ ?_
  refine wp_seq_k fun K143 hK143 => ?_
  refine wp_g0 [true, true] [] 19
    [ve (sv A1 (ascT s i) c1),
     ve (sv A1 (ascT s i) c1)] hs48 (.eq (.eq (.nil))) ?_ ?_
  refine .o1 (tk rfl rfl fun _ w hn k => ⟨_, v_move rfl (k.fx 3 h50), rfl⟩) ?_
  refine .o1 (tk rfl rfl fun _ w hn k => ⟨_, v_assign rfl (k.eq1 0 18 rfl), rfl⟩) ?_
  exact .nil
  intro a144 w145 hn146 ha147
  obtain ⟨hs148, hd149, hN152⟩ := aft ha147 hs48 hd49 hN56 hn146
  have h150 := ha147.ge 1 2 rfl
  have hr151 := hr55.new_ hn146
  refine st_nil (hK143 _ _ ?_)
  refine wp_ret (ret_k hd149 (v := sv A1 (ascT s i) c1) (res_t rfl h150 _) ?_)
  have hsp : ascT s i = asc s := asc_end (by omega)
  exact ⟨A1, c1, by rw [← hsp], by rw [← hsp]; exact hr151, hN152⟩
def rascii_c_P (s : ByteArray) (w : World) (en : Ending) (w' : World) : Prop := ∃ (Ar0 : Option Addr) (cr0 : Nat), en = .returned (sv Ar0 (asc s) cr0) ∧ SOwn w' w.heap.size 66 .u16 Ar0 (asc s) cr0 ∧ New w w'
set_option maxHeartbeats 4000000 in
set_option maxRecDepth 100000 in
theorem rascii_c (s : ByteArray) (w : World) (hs : s.size ≤ 1000000) : Calls Try.prog 39 #[.string s] w (rascii_c_P s w) := by
  refine enter_abs Try.func39 rfl fun a0 hs0 hd0 hp => ?_
  have hs0 : a0.tmps.size = 19 := hs0
  have hN0 : New w w := Upd.refl _ _
  have hp0 : a0.eval (.tmp 0) = .string s := hp 0 _ rfl
  refine wp_seq_k fun K1 hK1 => ?_
  refine wp_g0 [true] [] 19
    [ve (sv none ([]) 0)] hs0 (.eq (.nil)) ?_ ?_
  refine .o1 (tk rfl rfl fun _ w hn k => ⟨_, v_assign rfl rfl, rfl⟩) ?_
  exact .nil
  intro a2 w3 hn4 ha5
  obtain ⟨hs6, hd7, hN9⟩ := aft ha5 hs0 hd0 hN0 hn4
  have h8 := ha5.fx 0 hp0
  refine st_nil (hK1 _ _ ?_)
  refine wp_seq_k fun K10 hK10 => ?_
  refine wp_g0 [true] [] 19
    [ve (sv none ([]) 0)] hs6 (.eq (.nil)) ?_ ?_
  refine .o1 (tk rfl rfl fun _ w hn k => ⟨_, v_assign rfl rfl, rfl⟩) ?_
  exact .nil
  intro a11 w12 hn13 ha14
  obtain ⟨hs15, hd16, hN19⟩ := aft ha14 hs6 hd7 hN9 hn13
  have h17 := ha14.fx 0 h8
  have h18 := ha14.ge 0 3 rfl
  refine st_nil (hK10 _ _ ?_)
  refine wp_seq_k fun K20 hK20 => ?_
  refine wp_seq_k fun K21 hK21 => ?_
  refine wp_g0 [true] [] 19
    [ve (iv 0)] hs15 (.eq (.nil)) ?_ ?_
  refine .o1 (tk rfl rfl fun _ w hn k => ⟨_, v_assign rfl rfl, rfl⟩) ?_
  exact .nil
  intro a22 w23 hn24 ha25
  obtain ⟨hs26, hd27, hN31⟩ := aft ha25 hs15 hd16 hN19 hn24
  have h28 := ha25.fx 0 h17
  have h29 := ha25.fx 3 h18
  have h30 := ha25.ge 0 4 rfl
  refine st_nil (hK21 _ _ ?_)
  refine wp_block ?_
  refine wp_loopX (fun (mm : Nat) (aa : Act) (ww : World) => ∃ (i : Nat) (A1 : Option Addr) (c1 : Nat), mm = s.size - i ∧ aa.tmps.size = 19 ∧ aa.defers = [] ∧ New w ww ∧ aa.eval (.tmp 3) = sv A1 (ascT s i) c1 ∧ aa.eval (.tmp 4) = iv (i : Int) ∧ aa.eval (.tmp 0) = .string s ∧ SOwn ww w.heap.size 66 .u16 A1 (ascT s i) c1 ∧ (i ≤ s.size)) (fun mm => mm) ⟨_, ⟨0, none, 0, rfl, hs26, hd27, hN31, (h29.trans (by rw [asc0])), h30, h28, (by rw [asc0]; exact SOwn.nil _ _ _ _), (Nat.zero_le _)⟩⟩ ?_
  rintro mm a32 w33 ⟨i, A1, c1, hmm, hs34, hd35, hN36, h37, h38, h39, hr40, hi⟩
  refine wp_seq_k fun K41 hK41 => ?_
  refine wp_seq_k fun K42 hK42 => ?_
  refine wp_g0 [true, true, true, true] [] 19
    [ve (iv (i : Int)),
     ve (.string s),
     ve (iv (s.size : Int)),
     ve (.bool (decide ((i : Int) < (s.size : Int))))] hs34 (.eq (.eq (.eq (.eq (.nil))))) ?_ ?_
  refine .o1 (tk rfl rfl fun _ w hn k => ⟨_, v_move rfl (k.fx 4 h38), rfl⟩) ?_
  refine .o1 (tk rfl rfl fun _ w hn k => ⟨_, v_move rfl (k.fx 0 h39), rfl⟩) ?_
  refine .o1 (tk rfl rfl fun _ w hn k => ⟨_, v_lenS rfl (k.eq1 1 6 rfl) (by kernel_rfl), rfl⟩) ?_
  refine .o1 (tk rfl rfl fun _ w hn k => ⟨_, v_bin rfl (k.eq1 0 5 rfl) (k.eq1 2 7 rfl) (fun _ => rfl) (r_lssK rfl), rfl⟩) ?_
  exact .nil
  intro a43 w44 hn45 ha46
  obtain ⟨hs47, hd48, hN54⟩ := aft ha46 hs34 hd35 hN36 hn45
  have h49 := ha46.fx 3 h37
  have h50 := ha46.fx 4 h38
  have h51 := ha46.fx 0 h39
  have h52 := ha46.ge 3 8 rfl
  have hr53 := hr40.new_ hn45
  refine st_nil (hK42 _ _ ?_)
  rcases Bool.eq_false_or_eq_true (decide ((i : Int) < (s.size : Int))) with ht55 | ht55
  have ht55d := of_decide_eq_true ht55
  have hv56 := hB h52 ht55
  refine wp_cond_true hv56 ?_
  refine wp_skip ?_
  refine hK41 _ _ ?_
  refine wp_seq_k fun K57 hK57 => ?_
  refine wp_block ?_
  have hal := @ascT_len s i
  have hbl := bAt_lt s i
  refine wp_g0 [true, true, true, true, true, true, false, false] [(6, false), (7, true)] 19
    [ve (sv A1 (ascT s i) c1),
     ve (.string s),
     ve (iv (i : Int)),
     ve (.int .u8 ((bAt s i : Nat) : Int)),
     ve (.int .u16 ((bAt s i : Nat) : Int)),
     (fun (v_ : Value) (W : World) => ∃ (A3 : Option Addr) (c4 : Nat), v_ = sv A3 ([(bAt s i)]) c4 ∧ SOwn W w44.heap.size 66 .u16 A3 ([(bAt s i)]) c4),
     vt,
     vt] hs47 (.eq (.eq (.eq (.eq (.eq (.cons (fun v W W' hn ⟨A3, c4, he, h0⟩ => ⟨A3, c4, he, h0.new_ hn⟩) (.tt (.tt (.nil))))))))) ?_ ?_
  refine .o1 (tk rfl rfl fun _ w hn k => ⟨_, v_move rfl (k.fx 3 h49), rfl⟩) ?_
  refine .o1 (tk rfl rfl fun _ w hn k => ⟨_, v_move rfl (k.fx 0 h51), rfl⟩) ?_
  refine .o1 (tk rfl rfl fun _ w hn k => ⟨_, v_move rfl (k.fx 4 h50), rfl⟩) ?_
  refine .o1 (tk rfl rfl fun _ w hn k => ⟨_, v_idxN rfl (k.eq1 1 12 rfl) (k.eq1 2 13 rfl) (by kernel_rfl) (by omega), rfl⟩) ?_
  refine .o1 (tk rfl rfl fun _ w hn k => ⟨_, v_conv rfl (k.eq1 3 14 rfl) (n_conv (by kernel_rfl) (by kernel_rfl) (by kernel_rfl) (IntWalk.u16_in _ (by omega))), rfl⟩) ?_
  refine .o1 (tkA rfl (noG rfl) fun _ w hn k => (by
        exact x_bslice (k := .u16) (ps := [(0, .int .u16 ((bAt s i : Nat) : Int))]) [(bAt s i)] rfl (parts1 (k.eq1 4 15 rfl)) elU rfl (by omega) (by omega) (by first | kernel_rfl | (simp only [enc, List.map_cons, List.map_nil, Int.toNat_natCast, Int.toNat_of_nonneg (by omega : (0 : Int) ≤ _)]; kernel_rfl)) fun A1 c2 W' hmo => ⟨A1, c2, rfl, (hmo.more hn.size)⟩)) ?_
  refine .off ?_
  refine .off ?_
  exact .nil
  intro a58 w59 hn60 ha61
  obtain ⟨hs62, hd63, hN74⟩ := aft ha61 hs47 hd48 hN54 hn60
  have h64 := ha61.fx 3 h49
  have h65 := ha61.fx 4 h50
  have h66 := ha61.fx 0 h51
  have h67 := ha61.ge 0 11 rfl
  obtain ⟨A69, cc70, h68, hr71⟩ : (fun (v_ : Value) (W : World) => ∃ (A3 : Option Addr) (c4 : Nat), v_ = sv A3 ([(bAt s i)]) c4 ∧ SOwn W w44.heap.size 66 .u16 A3 ([(bAt s i)]) c4) _ _ := ha61.got 5 16 rfl (by kernel_rfl)
  have h68 : a58.eval (.tmp 16) = sv A69 ([(bAt s i)]) cc70 := h68
  have hr72 := hr53.new_ hn60
  have hr73 := hr71.more hN54.size
  have hw83 := hN74.size
  refine st_act rfl rfl fun K81 hL82 => a_append (k := .u16) (b := w.heap.size) rfl elU h67 hr72 h68 hr73.row (by first | omega | (simp only [List.length_nil, List.length_cons, List.length_append, List.length_take, List.length_drop, List.length_replicate, List.length_set]; omega)) (by first | omega | (simp only [List.length_nil, List.length_cons, List.length_append, List.length_take, List.length_drop, List.length_replicate, List.length_set]; omega)) hw83 fun A75 cc76 w77 hr78 hg79 => hL82 _ _ trivial ?_
  have hN80 := hN74.ownGrown hr72 hg79
  obtain ⟨a84, ha85⟩ : ∃ a', a' = a58.put (some 17) (sv A75 ((ascT s i) ++ [(bAt s i)]) cc76) := ⟨_, rfl⟩
  have hs86 : a84.tmps.size = 19 := by rw [ha85, put_size]; exact hs62
  have hd87 : a84.defers = [] := by rw [ha85, put_defers]; exact hd63
  have h88 := pn ha85 h65 (by decide)
  have h89 := pn ha85 h66 (by decide)
  have h90 : a84.eval (.tmp 17) = sv A75 ((ascT s i) ++ [(bAt s i)]) cc76 := by rw [ha85]; exact put_same _ _ _ (by rw [hs62]; decide)
  show stepsTo _ _ _ _ _ (a58.put (some 17) (sv A75 ((ascT s i) ++ [(bAt s i)]) cc76)) _
  rw [← ha85]
  refine st_take rfl rfl (y_assign (v := sv A75 ((ascT s i) ++ [(bAt s i)]) cc76) rfl h90) rfl ?_
  obtain ⟨a91, ha92⟩ : ∃ a', a' = a84.put (some 3) (sv A75 ((ascT s i) ++ [(bAt s i)]) cc76) := ⟨_, rfl⟩
  have hs93 : a91.tmps.size = 19 := by rw [ha92, put_size]; exact hs86
  have hd94 : a91.defers = [] := by rw [ha92, put_defers]; exact hd87
  have h95 := pn ha92 h88 (by decide)
  have h96 := pn ha92 h89 (by decide)
  have h97 := pn ha92 h90 (by decide)
  have h98 : a91.eval (.tmp 3) = sv A75 ((ascT s i) ++ [(bAt s i)]) cc76 := by rw [ha92]; exact put_same _ _ _ (by rw [hs86]; decide)
  show stepsTo _ _ _ _ _ (a84.put (some 3) (sv A75 ((ascT s i) ++ [(bAt s i)]) cc76)) _
  rw [← ha92]
  refine st_nil ?_
  have he99 : ((ascT s i) ++ [(bAt s i)]) = (ascT s (i + 1)) := asc_up (by omega)
  rw [he99] at h98
  rw [he99] at hr78
  refine hK57 _ _ ?_
  refine wp_g0 [true, true, false] [(2, true)] 19
    [ve (iv (i : Int)),
     ve (iv ((i + 1 : Nat) : Int)),
     vt] hs93 (.eq (.eq (.tt (.nil)))) ?_ ?_
  refine .o1 (tk rfl rfl fun _ w hn k => ⟨_, v_move rfl (k.fx 4 h95), rfl⟩) ?_
  refine .o1 (tk rfl rfl fun _ w hn k => ⟨_, v_bin rfl (k.eq1 0 9 rfl) rfl (fun _ => rfl) (n_add (by omega) (IntWalk.i64_in _ (by omega))), rfl⟩) ?_
  refine .off ?_
  exact .nil
  intro a100 w101 hn102 ha103
  obtain ⟨hs104, hd105, hN111⟩ := aft ha103 hs93 hd94 hN80 hn102
  have h106 := ha103.fx 4 h95
  have h107 := ha103.fx 0 h96
  have h108 := ha103.fx 3 h98
  have h109 := ha103.ge 1 10 rfl
  have hr110 := hr78.new_ hn102
  refine st_take rfl rfl (y_assign (v := iv ((i + 1 : Nat) : Int)) rfl h109) rfl ?_
  obtain ⟨a112, ha113⟩ : ∃ a', a' = a100.put (some 4) (iv ((i + 1 : Nat) : Int)) := ⟨_, rfl⟩
  have hs114 : a112.tmps.size = 19 := by rw [ha113, put_size]; exact hs104
  have hd115 : a112.defers = [] := by rw [ha113, put_defers]; exact hd105
  have h116 := pn ha113 h107 (by decide)
  have h117 := pn ha113 h108 (by decide)
  have h118 := pn ha113 h109 (by decide)
  have h119 : a112.eval (.tmp 4) = iv ((i + 1 : Nat) : Int) := by rw [ha113]; exact put_same _ _ _ (by rw [hs104]; decide)
  show stepsTo _ _ _ _ _ (a100.put (some 4) (iv ((i + 1 : Nat) : Int))) _
  rw [← ha113]
  refine st_nil ?_
  refine then_n ?_
  exact ⟨_, ⟨i + 1, A75, cc76, rfl, hs114, hd115, hN111, h117, (h119.trans (congrArg (Value.int .i64) (by omega))), h116, hr110, (by omega)⟩, (by omega)⟩
  have ht55d := of_decide_eq_false ht55
  have hv120 := hB h52 ht55
  refine wp_cond_false hv120 ?_
  refine wp_exit ?_
  refine hK20 _ _ ?_
  refine wp_seq_k fun K121 hK121 => ?_
  refine wp_g0 [true, true] [] 19
    [ve (sv A1 (ascT s i) c1),
     ve (sv A1 (ascT s i) c1)] hs47 (.eq (.eq (.nil))) ?_ ?_
  refine .o1 (tk rfl rfl fun _ w hn k => ⟨_, v_move rfl (k.fx 3 h49), rfl⟩) ?_
  refine .o1 (tk rfl rfl fun _ w hn k => ⟨_, v_assign rfl (k.eq1 0 18 rfl), rfl⟩) ?_
  exact .nil
  intro a122 w123 hn124 ha125
  obtain ⟨hs126, hd127, hN130⟩ := aft ha125 hs47 hd48 hN54 hn124
  have h128 := ha125.ge 1 2 rfl
  have hr129 := hr53.new_ hn124
  refine st_nil (hK121 _ _ ?_)
  refine wp_ret (ret_k hd127 (v := sv A1 (ascT s i) c1) (res_t rfl h128 _) ?_)
  have hsp : ascT s i = asc s := asc_end (by omega)
  exact ⟨A1, c1, by rw [← hsp], by rw [← hsp]; exact hr129, hN130⟩
set_option maxHeartbeats 4000000 in
set_option maxRecDepth 100000 in
theorem tsame_c (Aa : Option Addr) (a : List Nat) (ca : Nat) (Ab : Option Addr) (b : List Nat) (cb : Nat) (w : World) (hra : SRow w .u16 Aa a ca) (hrb : SRow w .u16 Ab b cb) : Calls Try.prog 65 #[sv Aa a ca, sv Ab b cb] w (IsRet (.bool (decide (a = b))) w) := by
  refine enter_abs Try.func65 rfl fun a0 hs0 hd0 hp => ?_
  have hs0 : a0.tmps.size = 8 := hs0
  have hN0 : New w w := Upd.refl _ _
  have hp0 : a0.eval (.tmp 0) = sv Aa a ca := hp 0 _ rfl
  have hp1 : a0.eval (.tmp 1) = sv Ab b cb := hp 1 _ rfl
  refine wp_seq_k fun K1 hK1 => ?_
  refine wp_g0 [true] [] 8
    [ve (.bool false)] hs0 (.eq (.nil)) ?_ ?_
  refine .o1 (tk rfl rfl fun _ w hn k => ⟨_, v_assign rfl rfl, rfl⟩) ?_
  exact .nil
  intro a2 w3 hn4 ha5
  obtain ⟨hs6, hd7, hN10⟩ := aft ha5 hs0 hd0 hN0 hn4
  have h8 := ha5.fx 0 hp0
  have h9 := ha5.fx 1 hp1
  refine st_nil (hK1 _ _ ?_)
  refine wp_seq_k fun K11 hK11 => ?_
  refine wp_g0 [true, true, true, true] [] 8
    [ve (sv Aa a ca),
     ve (sv Ab b cb),
     ve (.bool (decide (a = b))),
     ve (.bool (decide (a = b)))] hs6 (.eq (.eq (.eq (.eq (.nil))))) ?_ ?_
  refine .o1 (tk rfl rfl fun _ w hn k => ⟨_, v_move rfl (k.fx 0 h8), rfl⟩) ?_
  refine .o1 (tk rfl rfl fun _ w hn k => ⟨_, v_move rfl (k.fx 1 h9), rfl⟩) ?_
  refine .o1 (ck rfl rfl rfl (fun _ w hn k => ⟨#[sv Aa a ca, sv Ab b cb], args2 (k.eq1 0 5 rfl) (k.eq1 1 6 rfl), fun _ => by kernel_rfl, sequal16_c _ a _ _ b _ _ (hra.new_ (hN10.transNew hn)) (hrb.new_ (hN10.transNew hn))⟩) fun _ => rfl) ?_
  refine .o1 (tk rfl rfl fun _ w hn k => ⟨_, v_assign rfl (k.eq1 2 7 rfl), rfl⟩) ?_
  exact .nil
  intro a12 w13 hn14 ha15
  obtain ⟨hs16, hd17, hN19⟩ := aft ha15 hs6 hd7 hN10 hn14
  have h18 := ha15.ge 3 4 rfl
  refine st_nil (hK11 _ _ ?_)
  refine wp_ret (ret_k hd17 (v := .bool (decide (a = b))) (res_t rfl h18 _) ?_)
  exact ⟨rfl, hN19⟩
set_option maxHeartbeats 4000000 in
set_option maxRecDepth 100000 in
theorem index16_c (Au : Option Addr) (u : List Nat) (cu : Nat) (x : Nat) (w : World) (hru : SRow w .u16 Au u cu) (hx : x < 65536) : Calls Try.prog 101 #[sv Au u cu, .int .u16 (x : Int)] w (IsRet (iv (idxF (fun y : Nat => decide ((x : Int) = (y : Int))) u)) w) := by
  refine enter_abs Try.func101 rfl fun a0 hs0 hd0 hp => ?_
  have hs0 : a0.tmps.size = 19 := hs0
  have hN0 : New w w := Upd.refl _ _
  have hp0 : a0.eval (.tmp 0) = sv Au u cu := hp 0 _ rfl
  have hp1 : a0.eval (.tmp 1) = .int .u16 (x : Int) := hp 1 _ rfl
  have hmx := hru.max
  refine wp_seq_k fun K1 hK1 => ?_
  refine wp_g0 [true] [] 19
    [ve (iv 0)] hs0 (.eq (.nil)) ?_ ?_
  refine .o1 (tk rfl rfl fun _ w hn k => ⟨_, v_assign rfl rfl, rfl⟩) ?_
  exact .nil
  intro a2 w3 hn4 ha5
  obtain ⟨hs6, hd7, hN10⟩ := aft ha5 hs0 hd0 hN0 hn4
  have h8 := ha5.fx 0 hp0
  have h9 := ha5.fx 1 hp1
  refine st_nil (hK1 _ _ ?_)
  refine wp_seq_k fun K11 hK11 => ?_
  refine wp_seq_k fun K12 hK12 => ?_
  refine wp_g0 [true, true, true] [] 19
    [ve (sv Au u cu),
     ve (iv (u.length : Int)),
     ve (iv 0)] hs6 (.eq (.eq (.eq (.nil)))) ?_ ?_
  refine .o1 (tk rfl rfl fun _ w hn k => ⟨_, v_move rfl (k.fx 0 h8), rfl⟩) ?_
  refine .o1 (tk rfl rfl fun _ w hn k => ⟨_, v_lenR rfl elU (k.eq1 0 6 rfl), rfl⟩) ?_
  refine .o1 (tk rfl rfl fun _ w hn k => ⟨_, v_move rfl rfl, rfl⟩) ?_
  exact .nil
  intro a13 w14 hn15 ha16
  obtain ⟨hs17, hd18, hN23⟩ := aft ha16 hs6 hd7 hN10 hn15
  have h19 := ha16.fx 0 h8
  have h20 := ha16.fx 1 h9
  have h21 := ha16.ge 1 7 rfl
  have h22 := ha16.ge 2 8 rfl
  refine st_nil (hK12 _ _ ?_)
  refine wp_block ?_
  refine wp_loopX (fun (mm : Nat) (aa : Act) (ww : World) => ∃ (i : Nat), mm = u.length - i ∧ aa.tmps.size = 19 ∧ aa.defers = [] ∧ New w ww ∧ aa.eval (.tmp 8) = iv (i : Int) ∧ aa.eval (.tmp 0) = sv Au u cu ∧ aa.eval (.tmp 1) = .int .u16 (x : Int) ∧ aa.eval (.tmp 7) = iv (u.length : Int) ∧ (i ≤ u.length) ∧ (∀ j, j < i → (fun y : Nat => decide ((x : Int) = (y : Int))) (u.getD j 0) = false)) (fun mm => mm) ⟨_, ⟨0, rfl, hs17, hd18, hN23, h22, h19, h20, h21, (Nat.zero_le _), (fun j h => absurd h (Nat.not_lt_zero _))⟩⟩ ?_
  rintro mm a24 w25 ⟨i, hmm, hs26, hd27, hN28, h29, h30, h31, h32, hi, hno⟩
  refine wp_seq_k fun K33 hK33 => ?_
  refine wp_g0 [true] [] 19
    [ve (.bool (decide ((i : Int) < (u.length : Int))))] hs26 (.eq (.nil)) ?_ ?_
  refine .o1 (tk rfl rfl fun _ w hn k => ⟨_, v_bin rfl (k.fx 8 h29) (k.fx 7 h32) (fun _ => rfl) (r_lssK rfl), rfl⟩) ?_
  exact .nil
  intro a34 w35 hn36 ha37
  obtain ⟨hs38, hd39, hN45⟩ := aft ha37 hs26 hd27 hN28 hn36
  have h40 := ha37.fx 8 h29
  have h41 := ha37.fx 0 h30
  have h42 := ha37.fx 1 h31
  have h43 := ha37.fx 7 h32
  have h44 := ha37.ge 0 9 rfl
  refine st_nil (hK33 _ _ ?_)
  refine wp_seq_k fun K46 hK46 => ?_
  rcases Bool.eq_false_or_eq_true (decide ((i : Int) < (u.length : Int))) with ht47 | ht47
  have ht47d := of_decide_eq_true ht47
  have hv48 := hB h44 ht47
  refine wp_cond_true hv48 ?_
  refine wp_skip ?_
  refine hK46 _ _ ?_
  refine wp_seq_k fun K49 hK49 => ?_
  refine wp_block ?_
  refine wp_seq_k fun K50 hK50 => ?_
  refine wp_g0 [true, true] [] 19
    [ve (iv (i : Int)),
     ve (iv (i : Int))] hs38 (.eq (.eq (.nil))) ?_ ?_
  refine .o1 (tk rfl rfl fun _ w hn k => ⟨_, v_move rfl (k.fx 8 h40), rfl⟩) ?_
  refine .o1 (tk rfl rfl fun _ w hn k => ⟨_, v_assign rfl (k.eq1 0 10 rfl), rfl⟩) ?_
  exact .nil
  intro a51 w52 hn53 ha54
  obtain ⟨hs55, hd56, hN62⟩ := aft ha54 hs38 hd39 hN45 hn53
  have h57 := ha54.fx 8 h40
  have h58 := ha54.fx 0 h41
  have h59 := ha54.fx 1 h42
  have h60 := ha54.fx 7 h43
  have h61 := ha54.ge 1 5 rfl
  refine st_nil (hK50 _ _ ?_)
  refine wp_seq_k fun K63 hK63 => ?_
  refine wp_g0 [true, true, true, true, true, true] [] 19
    [ve (.int .u16 (x : Int)),
     ve (sv Au u cu),
     ve (iv (i : Int)),
     (fun (v_ : Value) (W : World) => ∃ (b3 : Nat) (o4 : Nat), v_ = .pointer (some ⟨b3, o4, none⟩) ∧ SElem W b3 o4 (.int .u16 ((u.getD i 0 : Nat) : Int))),
     ve (.int .u16 ((u.getD i 0 : Nat) : Int)),
     ve (.bool (decide ((x : Int) = ((u.getD i 0 : Nat) : Int))))] hs55 (.eq (.eq (.eq (.cons (fun v W W' hn ⟨b3, o4, he, h0⟩ => ⟨b3, o4, he, h0.new_ hn⟩) (.eq (.eq (.nil))))))) ?_ ?_
  refine .o1 (tk rfl rfl fun _ w hn k => ⟨_, v_move rfl (k.fx 1 h59), rfl⟩) ?_
  refine .o1 (tk rfl rfl fun _ w hn k => ⟨_, v_move rfl (k.fx 0 h58), rfl⟩) ?_
  refine .o1 (tk rfl rfl fun _ w hn k => ⟨_, v_move rfl (k.fx 5 h61), rfl⟩) ?_
  refine .o1 (tk rfl rfl fun _ w hn k => (by
        exact x_eaddr (k := .u16) rfl elU (k.eq1 1 12 rfl) (k.eq1 2 13 rfl) (hru.new_ (hN62.transNew hn)) (by omega) fun b1 o2 hme => ⟨b1, o2, rfl, hme⟩)) ?_
  refine .o1 (tk rfl rfl fun _ w hn k => (by
        obtain ⟨b5, o6, e7, hx8⟩ : (fun (v_ : Value) (W : World) => ∃ (b3 : Nat) (o4 : Nat), v_ = .pointer (some ⟨b3, o4, none⟩) ∧ SElem W b3 o4 (.int .u16 ((u.getD i 0 : Nat) : Int))) _ _ := k.dep 3 14 (by kernel_rfl) (by kernel_rfl)
        exact ⟨_, v_load rfl e7 (l_one Try.isAgg66 hx8.1), rfl⟩)) ?_
  refine .o1 (tk rfl rfl fun _ w hn k => ⟨_, v_bin rfl (k.eq1 0 11 rfl) (k.eq1 4 15 rfl) (fun _ => rfl) (r_eql rfl), rfl⟩) ?_
  exact .nil
  intro a64 w65 hn66 ha67
  obtain ⟨hs68, hd69, hN76⟩ := aft ha67 hs55 hd56 hN62 hn66
  have h70 := ha67.fx 8 h57
  have h71 := ha67.fx 0 h58
  have h72 := ha67.fx 1 h59
  have h73 := ha67.fx 7 h60
  have h74 := ha67.fx 5 h61
  have h75 := ha67.ge 5 16 rfl
  refine st_nil (hK63 _ _ ?_)
  rcases Bool.eq_false_or_eq_true (decide ((x : Int) = ((u.getD i 0 : Nat) : Int))) with ht77 | ht77
  have ht77d := of_decide_eq_true ht77
  have hv78 := hB h75 ht77
  refine wp_cond_true hv78 ?_
  refine wp_seq_k fun K79 hK79 => ?_
  refine wp_g0 [true, true] [] 19
    [ve (iv (i : Int)),
     ve (iv (i : Int))] hs68 (.eq (.eq (.nil))) ?_ ?_
  refine .o1 (tk rfl rfl fun _ w hn k => ⟨_, v_move rfl (k.fx 5 h74), rfl⟩) ?_
  refine .o1 (tk rfl rfl fun _ w hn k => ⟨_, v_assign rfl (k.eq1 0 17 rfl), rfl⟩) ?_
  exact .nil
  intro a80 w81 hn82 ha83
  obtain ⟨hs84, hd85, hN87⟩ := aft ha83 hs68 hd69 hN76 hn82
  have h86 := ha83.ge 1 4 rfl
  refine st_nil (hK79 _ _ ?_)
  refine wp_ret (ret_k hd85 (v := iv (i : Int)) (res_t rfl h86 _) ?_)
  exact ⟨by rw [idxF_at (fun y : Nat => decide ((x : Int) = (y : Int))) u i (by omega) hno ht77], hN87⟩
  have ht77d := of_decide_eq_false ht77
  have hv88 := hB h75 ht77
  refine wp_cond_false hv88 ?_
  refine wp_skip ?_
  refine hK49 _ _ ?_
  refine wp_g0 [true, false] [(1, true)] 19
    [ve (iv ((i + 1 : Nat) : Int)),
     vt] hs68 (.eq (.tt (.nil))) ?_ ?_
  refine .o1 (tk rfl rfl fun _ w hn k => ⟨_, v_bin rfl (k.fx 8 h70) rfl (fun _ => rfl) (n_add (by omega) (IntWalk.i64_in _ (by omega))), rfl⟩) ?_
  refine .off ?_
  exact .nil
  intro a89 w90 hn91 ha92
  obtain ⟨hs93, hd94, hN100⟩ := aft ha92 hs68 hd69 hN76 hn91
  have h95 := ha92.fx 8 h70
  have h96 := ha92.fx 0 h71
  have h97 := ha92.fx 1 h72
  have h98 := ha92.fx 7 h73
  have h99 := ha92.ge 0 18 rfl
  refine st_take rfl rfl (y_move (v := iv ((i + 1 : Nat) : Int)) rfl h99) rfl ?_
  obtain ⟨a101, ha102⟩ : ∃ a', a' = a89.put (some 8) (iv ((i + 1 : Nat) : Int)) := ⟨_, rfl⟩
  have hs103 : a101.tmps.size = 19 := by rw [ha102, put_size]; exact hs93
  have hd104 : a101.defers = [] := by rw [ha102, put_defers]; exact hd94
  have h105 := pn ha102 h96 (by decide)
  have h106 := pn ha102 h97 (by decide)
  have h107 := pn ha102 h98 (by decide)
  have h108 := pn ha102 h99 (by decide)
  have h109 : a101.eval (.tmp 8) = iv ((i + 1 : Nat) : Int) := by rw [ha102]; exact put_same _ _ _ (by rw [hs93]; decide)
  show stepsTo _ _ _ _ _ (a89.put (some 8) (iv ((i + 1 : Nat) : Int))) _
  rw [← ha102]
  refine st_nil ?_
  refine then_n ?_
  exact ⟨_, ⟨i + 1, rfl, hs103, hd104, hN100, (h109.trans (congrArg (Value.int .i64) (by omega))), h105, h106, h107, (by omega), (up_false (p := (fun y : Nat => decide ((x : Int) = (y : Int)))) hno ht77)⟩, (by omega)⟩
  have ht47d := of_decide_eq_false ht47
  have hv110 := hB h44 ht47
  refine wp_cond_false hv110 ?_
  refine wp_exit ?_
  refine hK11 _ _ ?_
  refine wp_seq_k fun K111 hK111 => ?_
  refine wp_g0 [true] [] 19
    [ve (iv (-1))] hs38 (.eq (.nil)) ?_ ?_
  refine .o1 (tk rfl rfl fun _ w hn k => ⟨_, v_assign rfl rfl, rfl⟩) ?_
  exact .nil
  intro a112 w113 hn114 ha115
  obtain ⟨hs116, hd117, hN119⟩ := aft ha115 hs38 hd39 hN45 hn114
  have h118 := ha115.ge 0 4 rfl
  refine st_nil (hK111 _ _ ?_)
  refine wp_ret (ret_k hd117 (v := iv (-1)) (res_t rfl h118 _) ?_)
  exact ⟨by rw [idxF_none (fun y : Nat => decide ((x : Int) = (y : Int))) u (fun j hj => hno j (by omega))], hN119⟩
set_option maxHeartbeats 4000000 in
set_option maxRecDepth 100000 in
theorem contains16_c (Au : Option Addr) (u : List Nat) (cu : Nat) (x : Nat) (w : World) (hru : SRow w .u16 Au u cu) (hx : x < 65536) : Calls Try.prog 85 #[sv Au u cu, .int .u16 (x : Int)] w (IsRet (.bool (u.any (fun y : Nat => decide ((x : Int) = (y : Int))))) w) := by
  refine enter_abs Try.func85 rfl fun a0 hs0 hd0 hp => ?_
  have hs0 : a0.tmps.size = 9 := hs0
  have hN0 : New w w := Upd.refl _ _
  have hp0 : a0.eval (.tmp 0) = sv Au u cu := hp 0 _ rfl
  have hp1 : a0.eval (.tmp 1) = .int .u16 (x : Int) := hp 1 _ rfl
  refine wp_seq_k fun K1 hK1 => ?_
  refine wp_g0 [true] [] 9
    [ve (.bool false)] hs0 (.eq (.nil)) ?_ ?_
  refine .o1 (tk rfl rfl fun _ w hn k => ⟨_, v_assign rfl rfl, rfl⟩) ?_
  exact .nil
  intro a2 w3 hn4 ha5
  obtain ⟨hs6, hd7, hN10⟩ := aft ha5 hs0 hd0 hN0 hn4
  have h8 := ha5.fx 0 hp0
  have h9 := ha5.fx 1 hp1
  refine st_nil (hK1 _ _ ?_)
  refine wp_seq_k fun K11 hK11 => ?_
  rcases Bool.eq_false_or_eq_true (decide ((idxF (fun y : Nat => decide ((x : Int) = (y : Int))) u) < 0)) with ht12 | ht12
  have ht12d := of_decide_eq_true ht12
  refine wp_g0 [true, true, true, true, true] [] 9
    [ve (sv Au u cu),
     ve (.int .u16 (x : Int)),
     ve (iv (idxF (fun y : Nat => decide ((x : Int) = (y : Int))) u)),
     ve (.bool false),
     ve (.bool false)] hs6 (.eq (.eq (.eq (.eq (.eq (.nil)))))) ?_ ?_
  refine .o1 (tk rfl rfl fun _ w hn k => ⟨_, v_move rfl (k.fx 0 h8), rfl⟩) ?_
  refine .o1 (tk rfl rfl fun _ w hn k => ⟨_, v_move rfl (k.fx 1 h9), rfl⟩) ?_
  refine .o1 (ck rfl rfl rfl (fun _ w hn k => ⟨#[sv Au u cu, .int .u16 (x : Int)], args2 (k.eq1 0 5 rfl) (k.eq1 1 6 rfl), fun _ => by kernel_rfl, index16_c _ u _ x _ (hru.new_ (hN10.transNew hn)) (by omega)⟩) fun _ => rfl) ?_
  refine .o1 (tk rfl rfl fun _ w hn k => ⟨_, v_bin rfl (k.eq1 2 7 rfl) rfl (fun _ => rfl) (r_geqK ht12), rfl⟩) ?_
  refine .o1 (tk rfl rfl fun _ w hn k => ⟨_, v_assign rfl (k.eq1 3 8 rfl), rfl⟩) ?_
  exact .nil
  intro a13 w14 hn15 ha16
  obtain ⟨hs17, hd18, hN20⟩ := aft ha16 hs6 hd7 hN10 hn15
  have h19 := ha16.ge 4 4 rfl
  refine st_nil (hK11 _ _ ?_)
  refine wp_ret (ret_k hd18 (v := .bool false) (res_t rfl h19 _) ?_)
  exact ⟨by rw [← idxF_any (fun y : Nat => decide ((x : Int) = (y : Int))) u, ht12]; rfl, hN20⟩
  have ht12d := of_decide_eq_false ht12
  refine wp_g0 [true, true, true, true, true] [] 9
    [ve (sv Au u cu),
     ve (.int .u16 (x : Int)),
     ve (iv (idxF (fun y : Nat => decide ((x : Int) = (y : Int))) u)),
     ve (.bool true),
     ve (.bool true)] hs6 (.eq (.eq (.eq (.eq (.eq (.nil)))))) ?_ ?_
  refine .o1 (tk rfl rfl fun _ w hn k => ⟨_, v_move rfl (k.fx 0 h8), rfl⟩) ?_
  refine .o1 (tk rfl rfl fun _ w hn k => ⟨_, v_move rfl (k.fx 1 h9), rfl⟩) ?_
  refine .o1 (ck rfl rfl rfl (fun _ w hn k => ⟨#[sv Au u cu, .int .u16 (x : Int)], args2 (k.eq1 0 5 rfl) (k.eq1 1 6 rfl), fun _ => by kernel_rfl, index16_c _ u _ x _ (hru.new_ (hN10.transNew hn)) (by omega)⟩) fun _ => rfl) ?_
  refine .o1 (tk rfl rfl fun _ w hn k => ⟨_, v_bin rfl (k.eq1 2 7 rfl) rfl (fun _ => rfl) (r_geqK ht12), rfl⟩) ?_
  refine .o1 (tk rfl rfl fun _ w hn k => ⟨_, v_assign rfl (k.eq1 3 8 rfl), rfl⟩) ?_
  exact .nil
  intro a21 w22 hn23 ha24
  obtain ⟨hs25, hd26, hN28⟩ := aft ha24 hs6 hd7 hN10 hn23
  have h27 := ha24.ge 4 4 rfl
  refine st_nil (hK11 _ _ ?_)
  refine wp_ret (ret_k hd26 (v := .bool true) (res_t rfl h27 _) ?_)
  exact ⟨by rw [← idxF_any (fun y : Nat => decide ((x : Int) = (y : Int))) u, ht12]; rfl, hN28⟩
set_option maxHeartbeats 4000000 in
set_option maxRecDepth 100000 in
theorem nodigit_c (x : Nat) (w : World) (hx : x < 65536) : Calls Try.prog 68 #[.int .u16 (x : Int)] w (IsRet (.bool (!dgtN x)) w) := by
  refine enter_abs Try.func68 rfl fun a0 hs0 hd0 hp => ?_
  have hs0 : a0.tmps.size = 6 := hs0
  have hN0 : New w w := Upd.refl _ _
  have hp0 : a0.eval (.tmp 0) = .int .u16 (x : Int) := hp 0 _ rfl
  refine wp_seq_k fun K1 hK1 => ?_
  refine wp_g0 [true] [] 6
    [ve (.bool false)] hs0 (.eq (.nil)) ?_ ?_
  refine .o1 (tk rfl rfl fun _ w hn k => ⟨_, v_assign rfl rfl, rfl⟩) ?_
  exact .nil
  intro a2 w3 hn4 ha5
  obtain ⟨hs6, hd7, hN9⟩ := aft ha5 hs0 hd0 hN0 hn4
  have h8 := ha5.fx 0 hp0
  refine st_nil (hK1 _ _ ?_)
  refine wp_seq_k fun K10 hK10 => ?_
  rcases Bool.eq_false_or_eq_true (dgtN x) with ht11 | ht11
  refine wp_g0 [true, true, true, true] [] 6
    [ve (.int .u16 (x : Int)),
     ve (.bool true),
     ve (.bool false),
     ve (.bool false)] hs6 (.eq (.eq (.eq (.eq (.nil))))) ?_ ?_
  refine .o1 (tk rfl rfl fun _ w hn k => ⟨_, v_move rfl (k.fx 0 h8), rfl⟩) ?_
  refine .o1 (ck rfl rfl rfl (fun _ w hn k => ⟨#[.int .u16 (x : Int)], args1 (k.eq1 0 3 rfl), fun _ => by kernel_rfl, digit_c x _ (by omega)⟩) fun _ => congrArg Value.bool ht11) ?_
  refine .o1 (tk rfl rfl fun _ w hn k => ⟨_, v_not rfl (k.eq1 1 4 rfl), rfl⟩) ?_
  refine .o1 (tk rfl rfl fun _ w hn k => ⟨_, v_assign rfl (k.eq1 2 5 rfl), rfl⟩) ?_
  exact .nil
  intro a12 w13 hn14 ha15
  obtain ⟨hs16, hd17, hN19⟩ := aft ha15 hs6 hd7 hN9 hn14
  have h18 := ha15.ge 3 2 rfl
  refine st_nil (hK10 _ _ ?_)
  refine wp_ret (ret_k hd17 (v := .bool false) (res_t rfl h18 _) ?_)
  refine ⟨?_, hN19⟩
  show Ending.returned (.bool false) = Ending.returned (.bool (!dgtN x))
  first | rfl | (simp only [ht11, bsm] <;> rfl) | (simp [ht11]; done) | (exfalso; omega)
  refine wp_g0 [true, true, true, true] [] 6
    [ve (.int .u16 (x : Int)),
     ve (.bool false),
     ve (.bool true),
     ve (.bool true)] hs6 (.eq (.eq (.eq (.eq (.nil))))) ?_ ?_
  refine .o1 (tk rfl rfl fun _ w hn k => ⟨_, v_move rfl (k.fx 0 h8), rfl⟩) ?_
  refine .o1 (ck rfl rfl rfl (fun _ w hn k => ⟨#[.int .u16 (x : Int)], args1 (k.eq1 0 3 rfl), fun _ => by kernel_rfl, digit_c x _ (by omega)⟩) fun _ => congrArg Value.bool ht11) ?_
  refine .o1 (tk rfl rfl fun _ w hn k => ⟨_, v_not rfl (k.eq1 1 4 rfl), rfl⟩) ?_
  refine .o1 (tk rfl rfl fun _ w hn k => ⟨_, v_assign rfl (k.eq1 2 5 rfl), rfl⟩) ?_
  exact .nil
  intro a20 w21 hn22 ha23
  obtain ⟨hs24, hd25, hN27⟩ := aft ha23 hs6 hd7 hN9 hn22
  have h26 := ha23.ge 3 2 rfl
  refine st_nil (hK10 _ _ ?_)
  refine wp_ret (ret_k hd25 (v := .bool true) (res_t rfl h26 _) ?_)
  refine ⟨?_, hN27⟩
  show Ending.returned (.bool true) = Ending.returned (.bool (!dgtN x))
  first | rfl | (simp only [ht11, bsm] <;> rfl) | (simp [ht11]; done) | (exfalso; omega)
set_option maxHeartbeats 4000000 in
set_option maxRecDepth 100000 in
theorem indexf_c (Au : Option Addr) (u : List Nat) (cu : Nat) (w : World) (hru : SRow w .u16 Au u cu) (hu : U16s u) : Calls Try.prog 86 #[sv Au u cu, .func (.func 68) #[] #[]] w (IsRet (iv (idxF (fun y : Nat => !dgtN y) u)) w) := by
  refine enter_abs Try.func86 rfl fun a0 hs0 hd0 hp => ?_
  have hs0 : a0.tmps.size = 19 := hs0
  have hN0 : New w w := Upd.refl _ _
  have hp0 : a0.eval (.tmp 0) = sv Au u cu := hp 0 _ rfl
  have hp1 : a0.eval (.tmp 1) = .func (.func 68) #[] #[] := hp 1 _ rfl
  have hmx := hru.max
  refine wp_seq_k fun K1 hK1 => ?_
  refine wp_g0 [true] [] 19
    [ve (iv 0)] hs0 (.eq (.nil)) ?_ ?_
  refine .o1 (tk rfl rfl fun _ w hn k => ⟨_, v_assign rfl rfl, rfl⟩) ?_
  exact .nil
  intro a2 w3 hn4 ha5
  obtain ⟨hs6, hd7, hN10⟩ := aft ha5 hs0 hd0 hN0 hn4
  have h8 := ha5.fx 0 hp0
  have h9 := ha5.fx 1 hp1
  refine st_nil (hK1 _ _ ?_)
  refine wp_seq_k fun K11 hK11 => ?_
  refine wp_seq_k fun K12 hK12 => ?_
  refine wp_g0 [true, true, true] [] 19
    [ve (sv Au u cu),
     ve (iv (u.length : Int)),
     ve (iv 0)] hs6 (.eq (.eq (.eq (.nil)))) ?_ ?_
  refine .o1 (tk rfl rfl fun _ w hn k => ⟨_, v_move rfl (k.fx 0 h8), rfl⟩) ?_
  refine .o1 (tk rfl rfl fun _ w hn k => ⟨_, v_lenR rfl elU (k.eq1 0 6 rfl), rfl⟩) ?_
  refine .o1 (tk rfl rfl fun _ w hn k => ⟨_, v_move rfl rfl, rfl⟩) ?_
  exact .nil
  intro a13 w14 hn15 ha16
  obtain ⟨hs17, hd18, hN23⟩ := aft ha16 hs6 hd7 hN10 hn15
  have h19 := ha16.fx 0 h8
  have h20 := ha16.fx 1 h9
  have h21 := ha16.ge 1 7 rfl
  have h22 := ha16.ge 2 8 rfl
  refine st_nil (hK12 _ _ ?_)
  refine wp_block ?_
  refine wp_loopX (fun (mm : Nat) (aa : Act) (ww : World) => ∃ (i : Nat), mm = u.length - i ∧ aa.tmps.size = 19 ∧ aa.defers = [] ∧ New w ww ∧ aa.eval (.tmp 8) = iv (i : Int) ∧ aa.eval (.tmp 0) = sv Au u cu ∧ aa.eval (.tmp 1) = .func (.func 68) #[] #[] ∧ aa.eval (.tmp 7) = iv (u.length : Int) ∧ (i ≤ u.length) ∧ (∀ j, j < i → (fun y : Nat => !dgtN y) (u.getD j 0) = false)) (fun mm => mm) ⟨_, ⟨0, rfl, hs17, hd18, hN23, h22, h19, h20, h21, (Nat.zero_le _), (fun j h => absurd h (Nat.not_lt_zero _))⟩⟩ ?_
  rintro mm a24 w25 ⟨i, hmm, hs26, hd27, hN28, h29, h30, h31, h32, hi, hno⟩
  refine wp_seq_k fun K33 hK33 => ?_
  refine wp_g0 [true] [] 19
    [ve (.bool (decide ((i : Int) < (u.length : Int))))] hs26 (.eq (.nil)) ?_ ?_
  refine .o1 (tk rfl rfl fun _ w hn k => ⟨_, v_bin rfl (k.fx 8 h29) (k.fx 7 h32) (fun _ => rfl) (r_lssK rfl), rfl⟩) ?_
  exact .nil
  intro a34 w35 hn36 ha37
  obtain ⟨hs38, hd39, hN45⟩ := aft ha37 hs26 hd27 hN28 hn36
  have h40 := ha37.fx 8 h29
  have h41 := ha37.fx 0 h30
  have h42 := ha37.fx 1 h31
  have h43 := ha37.fx 7 h32
  have h44 := ha37.ge 0 9 rfl
  refine st_nil (hK33 _ _ ?_)
  refine wp_seq_k fun K46 hK46 => ?_
  rcases Bool.eq_false_or_eq_true (decide ((i : Int) < (u.length : Int))) with ht47 | ht47
  have ht47d := of_decide_eq_true ht47
  have hv48 := hB h44 ht47
  refine wp_cond_true hv48 ?_
  refine wp_skip ?_
  refine hK46 _ _ ?_
  refine wp_seq_k fun K49 hK49 => ?_
  refine wp_block ?_
  refine wp_seq_k fun K50 hK50 => ?_
  refine wp_g0 [true, true] [] 19
    [ve (iv (i : Int)),
     ve (iv (i : Int))] hs38 (.eq (.eq (.nil))) ?_ ?_
  refine .o1 (tk rfl rfl fun _ w hn k => ⟨_, v_move rfl (k.fx 8 h40), rfl⟩) ?_
  refine .o1 (tk rfl rfl fun _ w hn k => ⟨_, v_assign rfl (k.eq1 0 10 rfl), rfl⟩) ?_
  exact .nil
  intro a51 w52 hn53 ha54
  obtain ⟨hs55, hd56, hN62⟩ := aft ha54 hs38 hd39 hN45 hn53
  have h57 := ha54.fx 8 h40
  have h58 := ha54.fx 0 h41
  have h59 := ha54.fx 1 h42
  have h60 := ha54.fx 7 h43
  have h61 := ha54.ge 1 5 rfl
  refine st_nil (hK50 _ _ ?_)
  refine wp_seq_k fun K63 hK63 => ?_
  have hb := hu.at16 i
  refine wp_g0 [true, true, true, true, true, true] [] 19
    [ve (.func (.func 68) #[] #[]),
     ve (sv Au u cu),
     ve (iv (i : Int)),
     (fun (v_ : Value) (W : World) => ∃ (b3 : Nat) (o4 : Nat), v_ = .pointer (some ⟨b3, o4, none⟩) ∧ SElem W b3 o4 (.int .u16 ((u.getD i 0 : Nat) : Int))),
     ve (.int .u16 ((u.getD i 0 : Nat) : Int)),
     ve (.bool (!dgtN (u.getD i 0)))] hs55 (.eq (.eq (.eq (.cons (fun v W W' hn ⟨b3, o4, he, h0⟩ => ⟨b3, o4, he, h0.new_ hn⟩) (.eq (.eq (.nil))))))) ?_ ?_
  refine .o1 (tk rfl rfl fun _ w hn k => ⟨_, v_move rfl (k.fx 1 h59), rfl⟩) ?_
  refine .o1 (tk rfl rfl fun _ w hn k => ⟨_, v_move rfl (k.fx 0 h58), rfl⟩) ?_
  refine .o1 (tk rfl rfl fun _ w hn k => ⟨_, v_move rfl (k.fx 5 h61), rfl⟩) ?_
  refine .o1 (tk rfl rfl fun _ w hn k => (by
        exact x_eaddr (k := .u16) rfl elU (k.eq1 1 12 rfl) (k.eq1 2 13 rfl) (hru.new_ (hN62.transNew hn)) (by omega) fun b1 o2 hme => ⟨b1, o2, rfl, hme⟩)) ?_
  refine .o1 (tk rfl rfl fun _ w hn k => (by
        obtain ⟨b5, o6, e7, hx8⟩ : (fun (v_ : Value) (W : World) => ∃ (b3 : Nat) (o4 : Nat), v_ = .pointer (some ⟨b3, o4, none⟩) ∧ SElem W b3 o4 (.int .u16 ((u.getD i 0 : Nat) : Int))) _ _ := k.dep 3 14 (by kernel_rfl) (by kernel_rfl)
        exact ⟨_, v_load rfl e7 (l_one Try.isAgg66 hx8.1), rfl⟩)) ?_
  refine .o1 (tkV rfl (noG rfl) rfl fun _ w hn k => (by
        refine ⟨68, #[.int .u16 ((u.getD i 0 : Nat) : Int)], _, (k.eq1 0 11 rfl), args1 (k.eq1 4 15 rfl), fun w => by kernel_rfl, nodigit_c (u.getD i 0) _ (by omega), ?_⟩
        rintro e w' ⟨rfl, hm⟩
        exact ⟨_, rfl, hm, rfl⟩)) ?_
  exact .nil
  intro a64 w65 hn66 ha67
  obtain ⟨hs68, hd69, hN76⟩ := aft ha67 hs55 hd56 hN62 hn66
  have h70 := ha67.fx 8 h57
  have h71 := ha67.fx 0 h58
  have h72 := ha67.fx 1 h59
  have h73 := ha67.fx 7 h60
  have h74 := ha67.fx 5 h61
  have h75 := ha67.ge 5 16 rfl
  refine st_nil (hK63 _ _ ?_)
  rcases Bool.eq_false_or_eq_true ((!dgtN (u.getD i 0))) with ht77 | ht77
  have hv78 := hB h75 ht77
  refine wp_cond_true hv78 ?_
  refine wp_seq_k fun K79 hK79 => ?_
  refine wp_g0 [true, true] [] 19
    [ve (iv (i : Int)),
     ve (iv (i : Int))] hs68 (.eq (.eq (.nil))) ?_ ?_
  refine .o1 (tk rfl rfl fun _ w hn k => ⟨_, v_move rfl (k.fx 5 h74), rfl⟩) ?_
  refine .o1 (tk rfl rfl fun _ w hn k => ⟨_, v_assign rfl (k.eq1 0 17 rfl), rfl⟩) ?_
  exact .nil
  intro a80 w81 hn82 ha83
  obtain ⟨hs84, hd85, hN87⟩ := aft ha83 hs68 hd69 hN76 hn82
  have h86 := ha83.ge 1 4 rfl
  refine st_nil (hK79 _ _ ?_)
  refine wp_ret (ret_k hd85 (v := iv (i : Int)) (res_t rfl h86 _) ?_)
  exact ⟨by rw [idxF_at (fun y : Nat => !dgtN y) u i (by omega) hno ht77], hN87⟩
  have hv88 := hB h75 ht77
  refine wp_cond_false hv88 ?_
  refine wp_skip ?_
  refine hK49 _ _ ?_
  refine wp_g0 [true, false] [(1, true)] 19
    [ve (iv ((i + 1 : Nat) : Int)),
     vt] hs68 (.eq (.tt (.nil))) ?_ ?_
  refine .o1 (tk rfl rfl fun _ w hn k => ⟨_, v_bin rfl (k.fx 8 h70) rfl (fun _ => rfl) (n_add (by omega) (IntWalk.i64_in _ (by omega))), rfl⟩) ?_
  refine .off ?_
  exact .nil
  intro a89 w90 hn91 ha92
  obtain ⟨hs93, hd94, hN100⟩ := aft ha92 hs68 hd69 hN76 hn91
  have h95 := ha92.fx 8 h70
  have h96 := ha92.fx 0 h71
  have h97 := ha92.fx 1 h72
  have h98 := ha92.fx 7 h73
  have h99 := ha92.ge 0 18 rfl
  refine st_take rfl rfl (y_move (v := iv ((i + 1 : Nat) : Int)) rfl h99) rfl ?_
  obtain ⟨a101, ha102⟩ : ∃ a', a' = a89.put (some 8) (iv ((i + 1 : Nat) : Int)) := ⟨_, rfl⟩
  have hs103 : a101.tmps.size = 19 := by rw [ha102, put_size]; exact hs93
  have hd104 : a101.defers = [] := by rw [ha102, put_defers]; exact hd94
  have h105 := pn ha102 h96 (by decide)
  have h106 := pn ha102 h97 (by decide)
  have h107 := pn ha102 h98 (by decide)
  have h108 := pn ha102 h99 (by decide)
  have h109 : a101.eval (.tmp 8) = iv ((i + 1 : Nat) : Int) := by rw [ha102]; exact put_same _ _ _ (by rw [hs93]; decide)
  show stepsTo _ _ _ _ _ (a89.put (some 8) (iv ((i + 1 : Nat) : Int))) _
  rw [← ha102]
  refine st_nil ?_
  refine then_n ?_
  exact ⟨_, ⟨i + 1, rfl, hs103, hd104, hN100, (h109.trans (congrArg (Value.int .i64) (by omega))), h105, h106, h107, (by omega), (up_false (p := (fun y : Nat => !dgtN y)) hno ht77)⟩, (by omega)⟩
  have ht47d := of_decide_eq_false ht47
  have hv110 := hB h44 ht47
  refine wp_cond_false hv110 ?_
  refine wp_exit ?_
  refine hK11 _ _ ?_
  refine wp_seq_k fun K111 hK111 => ?_
  refine wp_g0 [true] [] 19
    [ve (iv (-1))] hs38 (.eq (.nil)) ?_ ?_
  refine .o1 (tk rfl rfl fun _ w hn k => ⟨_, v_assign rfl rfl, rfl⟩) ?_
  exact .nil
  intro a112 w113 hn114 ha115
  obtain ⟨hs116, hd117, hN119⟩ := aft ha115 hs38 hd39 hN45 hn114
  have h118 := ha115.ge 0 4 rfl
  refine st_nil (hK111 _ _ ?_)
  refine wp_ret (ret_k hd117 (v := iv (-1)) (res_t rfl h118 _) ?_)
  exact ⟨by rw [idxF_none (fun y : Nat => !dgtN y) u (fun j hj => hno j (by omega))], hN119⟩
set_option maxHeartbeats 4000000 in
set_option maxRecDepth 100000 in
theorem containsf_c (Au : Option Addr) (u : List Nat) (cu : Nat) (w : World) (hru : SRow w .u16 Au u cu) (hu : U16s u) : Calls Try.prog 67 #[sv Au u cu, .func (.func 68) #[] #[]] w (IsRet (.bool (u.any (fun y : Nat => !dgtN y))) w) := by
  refine enter_abs Try.func67 rfl fun a0 hs0 hd0 hp => ?_
  have hs0 : a0.tmps.size = 9 := hs0
  have hN0 : New w w := Upd.refl _ _
  have hp0 : a0.eval (.tmp 0) = sv Au u cu := hp 0 _ rfl
  have hp1 : a0.eval (.tmp 1) = .func (.func 68) #[] #[] := hp 1 _ rfl
  have hmx := hru.max
  refine wp_seq_k fun K1 hK1 => ?_
  refine wp_g0 [true] [] 9
    [ve (.bool false)] hs0 (.eq (.nil)) ?_ ?_
  refine .o1 (tk rfl rfl fun _ w hn k => ⟨_, v_assign rfl rfl, rfl⟩) ?_
  exact .nil
  intro a2 w3 hn4 ha5
  obtain ⟨hs6, hd7, hN10⟩ := aft ha5 hs0 hd0 hN0 hn4
  have h8 := ha5.fx 0 hp0
  have h9 := ha5.fx 1 hp1
  refine st_nil (hK1 _ _ ?_)
  refine wp_seq_k fun K11 hK11 => ?_
  rcases Bool.eq_false_or_eq_true (decide ((idxF (fun y : Nat => !dgtN y) u) < 0)) with ht12 | ht12
  have ht12d := of_decide_eq_true ht12
  refine wp_g0 [true, true, true, true, true] [] 9
    [ve (sv Au u cu),
     ve (.func (.func 68) #[] #[]),
     ve (iv (idxF (fun y : Nat => !dgtN y) u)),
     ve (.bool false),
     ve (.bool false)] hs6 (.eq (.eq (.eq (.eq (.eq (.nil)))))) ?_ ?_
  refine .o1 (tk rfl rfl fun _ w hn k => ⟨_, v_move rfl (k.fx 0 h8), rfl⟩) ?_
  refine .o1 (tk rfl rfl fun _ w hn k => ⟨_, v_move rfl (k.fx 1 h9), rfl⟩) ?_
  refine .o1 (ck rfl rfl rfl (fun _ w hn k => ⟨#[sv Au u cu, .func (.func 68) #[] #[]], args2 (k.eq1 0 5 rfl) (k.eq1 1 6 rfl), fun _ => by kernel_rfl, indexf_c _ u _ _ (hru.new_ (hN10.transNew hn)) hu⟩) fun _ => rfl) ?_
  refine .o1 (tk rfl rfl fun _ w hn k => ⟨_, v_bin rfl (k.eq1 2 7 rfl) rfl (fun _ => rfl) (r_geqK ht12), rfl⟩) ?_
  refine .o1 (tk rfl rfl fun _ w hn k => ⟨_, v_assign rfl (k.eq1 3 8 rfl), rfl⟩) ?_
  exact .nil
  intro a13 w14 hn15 ha16
  obtain ⟨hs17, hd18, hN20⟩ := aft ha16 hs6 hd7 hN10 hn15
  have h19 := ha16.ge 4 4 rfl
  refine st_nil (hK11 _ _ ?_)
  refine wp_ret (ret_k hd18 (v := .bool false) (res_t rfl h19 _) ?_)
  exact ⟨by rw [← idxF_any (fun y : Nat => !dgtN y) u, ht12]; rfl, hN20⟩
  have ht12d := of_decide_eq_false ht12
  refine wp_g0 [true, true, true, true, true] [] 9
    [ve (sv Au u cu),
     ve (.func (.func 68) #[] #[]),
     ve (iv (idxF (fun y : Nat => !dgtN y) u)),
     ve (.bool true),
     ve (.bool true)] hs6 (.eq (.eq (.eq (.eq (.eq (.nil)))))) ?_ ?_
  refine .o1 (tk rfl rfl fun _ w hn k => ⟨_, v_move rfl (k.fx 0 h8), rfl⟩) ?_
  refine .o1 (tk rfl rfl fun _ w hn k => ⟨_, v_move rfl (k.fx 1 h9), rfl⟩) ?_
  refine .o1 (ck rfl rfl rfl (fun _ w hn k => ⟨#[sv Au u cu, .func (.func 68) #[] #[]], args2 (k.eq1 0 5 rfl) (k.eq1 1 6 rfl), fun _ => by kernel_rfl, indexf_c _ u _ _ (hru.new_ (hN10.transNew hn)) hu⟩) fun _ => rfl) ?_
  refine .o1 (tk rfl rfl fun _ w hn k => ⟨_, v_bin rfl (k.eq1 2 7 rfl) rfl (fun _ => rfl) (r_geqK ht12), rfl⟩) ?_
  refine .o1 (tk rfl rfl fun _ w hn k => ⟨_, v_assign rfl (k.eq1 3 8 rfl), rfl⟩) ?_
  exact .nil
  intro a21 w22 hn23 ha24
  obtain ⟨hs25, hd26, hN28⟩ := aft ha24 hs6 hd7 hN10 hn23
  have h27 := ha24.ge 4 4 rfl
  refine st_nil (hK11 _ _ ?_)
  refine wp_ret (ret_k hd26 (v := .bool true) (res_t rfl h27 _) ?_)
  exact ⟨by rw [← idxF_any (fun y : Nat => !dgtN y) u, ht12]; rfl, hN28⟩
end Go.Proofs.Ytecgdgjlmlpcnaa
