import Derived.Test.YtecgdgjlmlpcnaaCvRefV
import Derived.Test.YtecgdgjlmlpcnaaShort
import Derived.Test.YtecgdgjlmlpcnaaCvIdx
import Derived.Test.YtecgdgjlmlpcnaaCvDc
namespace Go.Proofs.Ytecgdgjlmlpcnaa
open Go.RowKit
set_option linter.unusedSimpArgs false
set_option linter.unusedVariables false
set_option maxHeartbeats 4000000 in
set_option maxRecDepth 100000 in
theorem nan_c  (w : World) : Calls Try.prog 74 #[] w (IsRet (nv (Nm.mk 2 0)) w) := by
  refine enter_abs Try.func74 rfl fun a0 hs0 hd0 hp => ?_
  have hs0 : a0.tmps.size = 2 := hs0
  have hN0 : New w w := Upd.refl _ _
  refine wp_seq_k fun K1 hK1 => ?_
  refine wp_g [true] [] [] 2
    [IsNew w 23 [iv 0, iv 0]]
    [0] (newsCons (fun v w h => IsNew.old h) newsNil) hs0 (.nw (.nil)) ?_ (fun i h => by cases h) ?_
  refine .o2 (step_allocN (cs := [iv 0, iv 0]) (t := 23) rfl (noG rfl) (fun _ w hn k => rfl) (fun q _ hq hb => ⟨q, rfl, hq, hb⟩)) ?_
  exact .nil
  intro a2 w3 hn4 ha5
  obtain ⟨hs6, hd7, hN13⟩ := aft ha5 hs0 hd0 hN0 hn4
  obtain ⟨q9, h8, hq10, hb11⟩ : IsNew _ _ _ _ _ := ha5.got 0 0 rfl (by kernel_rfl)
  have hq12 := Nat.le_trans hN0.size hq10
  refine st_nil (hK1 _ _ ?_)
  refine wp_seq_k fun K14 hK14 => ?_
  refine wp_g0 [true, false] [(1, false)] 2
    [ve (nv (Nm.mk 2 0)),
     vt] hs6 (.eq (.tt (.nil))) ?_ ?_
  refine .o1 (tk rfl rfl fun _ w hn k => ⟨_, v_build (ps := [(0, iv 2)]) rfl (parts1 rfl) (by kernel_rfl), rfl⟩) ?_
  refine .off ?_
  exact .nil
  intro a15 w16 hn17 ha18
  obtain ⟨hs19, hd20, hN24⟩ := aft ha18 hs6 hd7 hN13 hn17
  have h21 := ha18.fx 0 h8
  have h22 := ha18.ge 0 1 rfl
  have hb23 := hb11.new_ hn17
  obtain ⟨w25, -, hst26, hb27, hu28, hf29⟩ := s_two (v0 := iv 2) (v1 := iv 0) Try.sizeOf23 rfl rfl rfl hb23
  refine st_act rfl rfl fun K30 hL31 => a_store' rfl h21 h22 hst26 (hL31 _ _ trivial ?_)
  have hN32 := hN24.trans hu28 (fun k hk hkb => by subst hkb; omega)
  refine st_nil (hK14 _ _ ?_)
  refine wp_ret (ret_k hd20 (v := nv (Nm.mk 2 0)) (res_c rfl h21 (l_two Try.isAgg23 Try.sizeOf23 hb27)) ?_)
  exact ⟨rfl, hN32⟩
set_option maxHeartbeats 4000000 in
set_option maxRecDepth 100000 in
theorem may_c (a : Nm) (w : World) : Calls Try.prog 43 #[nv a] w (IsRet (.bool (nmayB a)) w) := by
  refine enter_abs Try.func43 rfl fun a0 hs0 hd0 hp => ?_
  have hs0 : a0.tmps.size = 23 := hs0
  have hN0 : New w w := Upd.refl _ _
  have hp0 : a0.eval (.tmp 0) = nv a := hp 0 _ rfl
  refine wp_seq_k fun K1 hK1 => ?_
  refine wp_g [true, true] [] [] 23
    [IsNew w 23 [iv a.k, iv a.n],
     ve (.bool false)]
    [0] (newsCons (fun v w h => IsNew.old h) newsNil) hs0 (.nw (.eq (.nil))) ?_ (fun i h => by cases h) ?_
  refine .o2 (step_allocN (cs := [iv a.k, iv a.n]) (t := 23) rfl (noG rfl) (fun _ w hn k => v_box rfl (k.fx 0 hp0) (fun w => rfl)) (fun q _ hq hb => ⟨q, rfl, hq, hb⟩)) ?_
  refine .o1 (tk rfl rfl fun _ w hn k => ⟨_, v_assign rfl rfl, rfl⟩) ?_
  exact .nil
  intro a2 w3 hn4 ha5
  obtain ⟨hs6, hd7, hN13⟩ := aft ha5 hs0 hd0 hN0 hn4
  obtain ⟨q9, h8, hq10, hb11⟩ : IsNew _ _ _ _ _ := ha5.got 0 1 rfl (by kernel_rfl)
  have hq12 := Nat.le_trans hN0.size hq10
  refine st_nil (hK1 _ _ ?_)
  refine wp_seq_k fun K14 hK14 => ?_
  refine wp_seq_k fun K15 hK15 => ?_
  refine wp_g0 [true, true] [] 23
    [ve (pv q9),
     ve (iv a.k)] hs6 (.eq (.eq (.nil))) ?_ ?_
  refine .o1 (tk rfl rfl fun _ w hn k => ⟨_, v_field rfl (k.fx 1 h8) (fun w => rfl), rfl⟩) ?_
  refine .o1 (tk rfl rfl fun _ w hn k => ⟨_, v_load rfl (k.eq1 0 3 rfl) (l_one Try.isAgg3 ((hb11.new_ hn).cell 0)), rfl⟩) ?_
  exact .nil
  intro a16 w17 hn18 ha19
  obtain ⟨hs20, hd21, hN25⟩ := aft ha19 hs6 hd7 hN13 hn18
  have h22 := ha19.fx 1 h8
  have h23 := ha19.ge 1 4 rfl
  have hb24 := hb11.new_ hn18
  refine st_nil (hK15 _ _ ?_)
  refine wp_block ?_
  refine wp_seq_k fun K26 hK26 => ?_
  refine wp_g0 [true, true] [] 23
    [ve (.bool (decide (a.k = 0))),
     ve (.bool (decide (a.k = 0)))] hs20 (.eq (.eq (.nil))) ?_ ?_
  refine .o1 (tk rfl rfl fun _ w hn k => ⟨_, v_bin rfl (k.fx 4 h23) rfl (fun _ => rfl) (r_eql rfl), rfl⟩) ?_
  refine .o1 (tk rfl rfl fun _ w hn k => ⟨_, v_assign rfl (k.eq1 0 6 rfl), rfl⟩) ?_
  exact .nil
  intro a27 w28 hn29 ha30
  obtain ⟨hs31, hd32, hN37⟩ := aft ha30 hs20 hd21 hN25 hn29
  have h33 := ha30.fx 1 h22
  have h34 := ha30.fx 4 h23
  have h35 := ha30.ge 1 5 rfl
  have hb36 := hb24.new_ hn29
  refine st_nil (hK26 _ _ ?_)
  rcases Bool.eq_false_or_eq_true (decide (a.k = 0)) with ht38 | ht38
  have ht38d := of_decide_eq_true ht38
  have hv39 := hB h35 ht38
  refine wp_cond_true hv39 ?_
  refine wp_seq_k fun K40 hK40 => ?_
  rcases Bool.eq_false_or_eq_true (decide (a.n < -9007199254740991)) with ht41 | ht41
  have ht41d := of_decide_eq_true ht41
  refine wp_g0 [true, true, true, true, true, true, true, true, true] [] 23
    [ve (.pointer (some ⟨q9, 1, none⟩)),
     ve (iv a.n),
     ve (.bool false),
     ve (.bool false),
     ve undef,
     ve undef,
     ve undef,
     ve (.bool false),
     ve (.bool false)] hs31 (.eq (.eq (.eq (.eq (.eq (.eq (.eq (.eq (.eq (.nil)))))))))) ?_ ?_
  refine .o1 (tk rfl rfl fun _ w hn k => ⟨_, v_field rfl (k.fx 1 h33) (fun w => rfl), rfl⟩) ?_
  refine .o1 (tk rfl rfl fun _ w hn k => ⟨_, v_load rfl (k.eq1 0 7 rfl) (l_one Try.isAgg3 ((hb36.new_ hn).cell 1)), rfl⟩) ?_
  refine .o1 (tk rfl rfl fun _ w hn k => ⟨_, v_bin rfl (k.eq1 1 8 rfl) rfl (fun _ => rfl) (r_geqK ht41), rfl⟩) ?_
  refine .o1 (tk rfl rfl fun _ w hn k => ⟨_, v_move rfl (k.eq1 2 9 rfl), rfl⟩) ?_
  refine .o1 (sk rfl rfl rfl (fun _ _ _ k => k.eq1 3 10 rfl) (fun _ => rfl)) ?_
  refine .o1 (sk rfl rfl rfl (fun _ _ _ k => k.eq1 3 10 rfl) (fun _ => rfl)) ?_
  refine .o1 (sk rfl rfl rfl (fun _ _ _ k => k.eq1 3 10 rfl) (fun _ => rfl)) ?_
  refine .o1 (tk rfl rfl fun _ w hn k => ⟨_, v_pickF rfl (k.eq1 3 10 rfl) rfl, rfl⟩) ?_
  refine .o1 (tk rfl rfl fun _ w hn k => ⟨_, v_assign rfl (k.eq1 7 14 rfl), rfl⟩) ?_
  exact .nil
  intro a42 w43 hn44 ha45
  obtain ⟨hs46, hd47, hN49⟩ := aft ha45 hs31 hd32 hN37 hn44
  have h48 := ha45.ge 8 2 rfl
  refine st_nil (hK40 _ _ ?_)
  refine wp_ret (ret_k hd47 (v := .bool false) (res_t rfl h48 _) ?_)
  refine ⟨?_, hN49⟩
  show Ending.returned (.bool false) = Ending.returned (.bool (nmayB a))
  first | rfl | (simp only [nmayB, ht38, ht41, bsm] <;> rfl) | (simp [nmayB, ht38, ht41]; done) | (exfalso; omega)
  have ht41d := of_decide_eq_false ht41
  refine wp_g0 [true, true, true, true, true, true, true, true, true] [] 23
    [ve (.pointer (some ⟨q9, 1, none⟩)),
     ve (iv a.n),
     ve (.bool true),
     ve (.bool true),
     ve (.pointer (some ⟨q9, 1, none⟩)),
     ve (iv a.n),
     ve (.bool (decide (a.n ≤ 9007199254740991))),
     ve (.bool (decide (a.n ≤ 9007199254740991))),
     ve (.bool (decide (a.n ≤ 9007199254740991)))] hs31 (.eq (.eq (.eq (.eq (.eq (.eq (.eq (.eq (.eq (.nil)))))))))) ?_ ?_
  refine .o1 (tk rfl rfl fun _ w hn k => ⟨_, v_field rfl (k.fx 1 h33) (fun w => rfl), rfl⟩) ?_
  refine .o1 (tk rfl rfl fun _ w hn k => ⟨_, v_load rfl (k.eq1 0 7 rfl) (l_one Try.isAgg3 ((hb36.new_ hn).cell 1)), rfl⟩) ?_
  refine .o1 (tk rfl rfl fun _ w hn k => ⟨_, v_bin rfl (k.eq1 1 8 rfl) rfl (fun _ => rfl) (r_geqK ht41), rfl⟩) ?_
  refine .o1 (tk rfl rfl fun _ w hn k => ⟨_, v_move rfl (k.eq1 2 9 rfl), rfl⟩) ?_
  refine .o1 (tg rfl rfl rfl (fun _ _ k => k.eq1 3 10 rfl) fun _ w hn k => ⟨_, v_field rfl (k.fx 1 h33) (fun w => rfl), rfl⟩) ?_
  refine .o1 (tg rfl rfl rfl (fun _ _ k => k.eq1 3 10 rfl) fun _ w hn k => ⟨_, v_load rfl (k.eq1 4 11 rfl) (l_one Try.isAgg3 ((hb36.new_ hn).cell 1)), rfl⟩) ?_
  refine .o1 (tg rfl rfl rfl (fun _ _ k => k.eq1 3 10 rfl) fun _ w hn k => ⟨_, v_bin rfl (k.eq1 5 12 rfl) rfl (fun _ => rfl) (r_leqK rfl), rfl⟩) ?_
  refine .o1 (tk rfl rfl fun _ w hn k => ⟨_, v_pickT rfl (k.eq1 3 10 rfl) (k.eq1 6 13 rfl), rfl⟩) ?_
  refine .o1 (tk rfl rfl fun _ w hn k => ⟨_, v_assign rfl (k.eq1 7 14 rfl), rfl⟩) ?_
  exact .nil
  intro a50 w51 hn52 ha53
  obtain ⟨hs54, hd55, hN57⟩ := aft ha53 hs31 hd32 hN37 hn52
  have h56 := ha53.ge 8 2 rfl
  refine st_nil (hK40 _ _ ?_)
  refine wp_ret (ret_k hd55 (v := .bool (decide (a.n ≤ 9007199254740991))) (res_t rfl h56 _) ?_)
  refine ⟨?_, hN57⟩
  show Ending.returned (.bool (decide (a.n ≤ 9007199254740991))) = Ending.returned (.bool (nmayB a))
  first | rfl | (simp only [nmayB, ht38, ht41, bsm] <;> rfl) | (simp [nmayB, ht38, ht41]; done) | (exfalso; omega)
  have ht38d := of_decide_eq_false ht38
  have hv58 := hB h35 ht38
  refine wp_cond_false hv58 ?_
  refine wp_seq_k fun K59 hK59 => ?_
  refine wp_seq_k fun K60 hK60 => ?_
  refine wp_g0 [true, true] [] 23
    [ve (.bool (decide (a.k = 1))),
     ve (.bool (decide (a.k = 1)))] hs31 (.eq (.eq (.nil))) ?_ ?_
  refine .o1 (tk rfl rfl fun _ w hn k => ⟨_, v_bin rfl (k.fx 4 h34) rfl (fun _ => rfl) (r_eql rfl), rfl⟩) ?_
  refine .o1 (tk rfl rfl fun _ w hn k => ⟨_, v_assign rfl (k.eq1 0 16 rfl), rfl⟩) ?_
  exact .nil
  intro a61 w62 hn63 ha64
  obtain ⟨hs65, hd66, hN71⟩ := aft ha64 hs31 hd32 hN37 hn63
  have h67 := ha64.fx 1 h33
  have h68 := ha64.fx 4 h34
  have h69 := ha64.ge 1 15 rfl
  have hb70 := hb36.new_ hn63
  refine st_nil (hK60 _ _ ?_)
  rcases Bool.eq_false_or_eq_true (decide (a.k = 1)) with ht72 | ht72
  have ht72d := of_decide_eq_true ht72
  have hv73 := hB h69 ht72
  refine wp_cond_true hv73 ?_
  refine wp_skip ?_
  refine hK59 _ _ ?_
  refine wp_cond_true hv73 ?_
  refine wp_seq_k fun K74 hK74 => ?_
  refine wp_g0 [true, true, true, true] [] 23
    [ve (.pointer (some ⟨q9, 1, none⟩)),
     ve (iv a.n),
     ve (.bool (decide (a.n = 0))),
     ve (.bool (decide (a.n = 0)))] hs65 (.eq (.eq (.eq (.eq (.nil))))) ?_ ?_
  refine .o1 (tk rfl rfl fun _ w hn k => ⟨_, v_field rfl (k.fx 1 h67) (fun w => rfl), rfl⟩) ?_
  refine .o1 (tk rfl rfl fun _ w hn k => ⟨_, v_load rfl (k.eq1 0 20 rfl) (l_one Try.isAgg3 ((hb70.new_ hn).cell 1)), rfl⟩) ?_
  refine .o1 (tk rfl rfl fun _ w hn k => ⟨_, v_bin rfl (k.eq1 1 21 rfl) rfl (fun _ => rfl) (r_eql rfl), rfl⟩) ?_
  refine .o1 (tk rfl rfl fun _ w hn k => ⟨_, v_assign rfl (k.eq1 2 22 rfl), rfl⟩) ?_
  exact .nil
  intro a75 w76 hn77 ha78
  obtain ⟨hs79, hd80, hN82⟩ := aft ha78 hs65 hd66 hN71 hn77
  have h81 := ha78.ge 3 2 rfl
  refine st_nil (hK74 _ _ ?_)
  refine wp_ret (ret_k hd80 (v := .bool (decide (a.n = 0))) (res_t rfl h81 _) ?_)
  refine ⟨?_, hN82⟩
  show Ending.returned (.bool (decide (a.n = 0))) = Ending.returned (.bool (nmayB a))
  first | rfl | (simp only [nmayB, ht38, ht72, bsm] <;> rfl) | (simp [nmayB, ht38, ht72]; done) | (exfalso; omega)
  have ht72d := of_decide_eq_false ht72
  have hv83 := hB h69 ht72
  refine wp_cond_false hv83 ?_
  refine wp_seq_k fun K84 hK84 => ?_
  refine wp_g0 [true, true] [] 23
    [ve (.bool (decide (a.k = 2))),
     ve (.bool (decide (a.k = 2)))] hs65 (.eq (.eq (.nil))) ?_ ?_
  refine .o1 (tk rfl rfl fun _ w hn k => ⟨_, v_bin rfl (k.fx 4 h68) rfl (fun _ => rfl) (r_eql rfl), rfl⟩) ?_
  refine .o1 (tk rfl rfl fun _ w hn k => ⟨_, v_assign rfl (k.eq1 0 17 rfl), rfl⟩) ?_
  exact .nil
  intro a85 w86 hn87 ha88
  obtain ⟨hs89, hd90, hN95⟩ := aft ha88 hs65 hd66 hN71 hn87
  have h91 := ha88.fx 1 h67
  have h92 := ha88.fx 4 h68
  have h93 := ha88.ge 1 15 rfl
  have hb94 := hb70.new_ hn87
  refine st_nil (hK84 _ _ ?_)
  rcases Bool.eq_false_or_eq_true (decide (a.k = 2)) with ht96 | ht96
  have ht96d := of_decide_eq_true ht96
  have hv97 := hB h93 ht96
  refine wp_cond_true hv97 ?_
  refine wp_skip ?_
  refine hK59 _ _ ?_
  refine wp_cond_true hv97 ?_
  refine wp_seq_k fun K98 hK98 => ?_
  refine wp_g0 [true, true, true, true] [] 23
    [ve (.pointer (some ⟨q9, 1, none⟩)),
     ve (iv a.n),
     ve (.bool (decide (a.n = 0))),
     ve (.bool (decide (a.n = 0)))] hs89 (.eq (.eq (.eq (.eq (.nil))))) ?_ ?_
  refine .o1 (tk rfl rfl fun _ w hn k => ⟨_, v_field rfl (k.fx 1 h91) (fun w => rfl), rfl⟩) ?_
  refine .o1 (tk rfl rfl fun _ w hn k => ⟨_, v_load rfl (k.eq1 0 20 rfl) (l_one Try.isAgg3 ((hb94.new_ hn).cell 1)), rfl⟩) ?_
  refine .o1 (tk rfl rfl fun _ w hn k => ⟨_, v_bin rfl (k.eq1 1 21 rfl) rfl (fun _ => rfl) (r_eql rfl), rfl⟩) ?_
  refine .o1 (tk rfl rfl fun _ w hn k => ⟨_, v_assign rfl (k.eq1 2 22 rfl), rfl⟩) ?_
  exact .nil
  intro a99 w100 hn101 ha102
  obtain ⟨hs103, hd104, hN106⟩ := aft ha102 hs89 hd90 hN95 hn101
  have h105 := ha102.ge 3 2 rfl
  refine st_nil (hK98 _ _ ?_)
  refine wp_ret (ret_k hd104 (v := .bool (decide (a.n = 0))) (res_t rfl h105 _) ?_)
  refine ⟨?_, hN106⟩
  show Ending.returned (.bool (decide (a.n = 0))) = Ending.returned (.bool (nmayB a))
  first | rfl | (simp only [nmayB, ht38, ht72, ht96, bsm] <;> rfl) | (simp [nmayB, ht38, ht72, ht96]; done) | (exfalso; omega)
  have ht96d := of_decide_eq_false ht96
  have hv107 := hB h93 ht96
  refine wp_cond_false hv107 ?_
  refine wp_seq_k fun K108 hK108 => ?_
  refine wp_g0 [true, true] [] 23
    [ve (.bool (decide (a.k = 3))),
     ve (.bool (decide (a.k = 3)))] hs89 (.eq (.eq (.nil))) ?_ ?_
  refine .o1 (tk rfl rfl fun _ w hn k => ⟨_, v_bin rfl (k.fx 4 h92) rfl (fun _ => rfl) (r_eql rfl), rfl⟩) ?_
  refine .o1 (tk rfl rfl fun _ w hn k => ⟨_, v_assign rfl (k.eq1 0 18 rfl), rfl⟩) ?_
  exact .nil
  intro a109 w110 hn111 ha112
  obtain ⟨hs113, hd114, hN119⟩ := aft ha112 hs89 hd90 hN95 hn111
  have h115 := ha112.fx 1 h91
  have h116 := ha112.fx 4 h92
  have h117 := ha112.ge 1 15 rfl
  have hb118 := hb94.new_ hn111
  refine st_nil (hK108 _ _ ?_)
  rcases Bool.eq_false_or_eq_true (decide (a.k = 3)) with ht120 | ht120
  have ht120d := of_decide_eq_true ht120
  have hv121 := hB h117 ht120
  refine wp_cond_true hv121 ?_
  refine wp_skip ?_
  refine hK59 _ _ ?_
  refine wp_cond_true hv121 ?_
  refine wp_seq_k fun K122 hK122 => ?_
  refine wp_g0 [true, true, true, true] [] 23
    [ve (.pointer (some ⟨q9, 1, none⟩)),
     ve (iv a.n),
     ve (.bool (decide (a.n = 0))),
     ve (.bool (decide (a.n = 0)))] hs113 (.eq (.eq (.eq (.eq (.nil))))) ?_ ?_
  refine .o1 (tk rfl rfl fun _ w hn k => ⟨_, v_field rfl (k.fx 1 h115) (fun w => rfl), rfl⟩) ?_
  refine .o1 (tk rfl rfl fun _ w hn k => ⟨_, v_load rfl (k.eq1 0 20 rfl) (l_one Try.isAgg3 ((hb118.new_ hn).cell 1)), rfl⟩) ?_
  refine .o1 (tk rfl rfl fun _ w hn k => ⟨_, v_bin rfl (k.eq1 1 21 rfl) rfl (fun _ => rfl) (r_eql rfl), rfl⟩) ?_
  refine .o1 (tk rfl rfl fun _ w hn k => ⟨_, v_assign rfl (k.eq1 2 22 rfl), rfl⟩) ?_
  exact .nil
  intro a123 w124 hn125 ha126
  obtain ⟨hs127, hd128, hN130⟩ := aft ha126 hs113 hd114 hN119 hn125
  have h129 := ha126.ge 3 2 rfl
  refine st_nil (hK122 _ _ ?_)
  refine wp_ret (ret_k hd128 (v := .bool (decide (a.n = 0))) (res_t rfl h129 _) ?_)
  refine ⟨?_, hN130⟩
  show Ending.returned (.bool (decide (a.n = 0))) = Ending.returned (.bool (nmayB a))
  first | rfl | (simp only [nmayB, ht38, ht72, ht96, ht120, bsm] <;> rfl) | (simp [nmayB, ht38, ht72, ht96, ht120]; done) | (exfalso; omega)
  have ht120d := of_decide_eq_false ht120
  have hv131 := hB h117 ht120
  refine wp_cond_false hv131 ?_
  refine wp_g0 [true, true] [] 23
    [ve (.bool (decide (a.k = 4))),
     ve (.bool (decide (a.k = 4)))] hs113 (.eq (.eq (.nil))) ?_ ?_
  refine .o1 (tk rfl rfl fun _ w hn k => ⟨_, v_bin rfl (k.fx 4 h116) rfl (fun _ => rfl) (r_eql rfl), rfl⟩) ?_
  refine .o1 (tk rfl rfl fun _ w hn k => ⟨_, v_assign rfl (k.eq1 0 19 rfl), rfl⟩) ?_
  exact .nil
  intro a132 w133 hn134 ha135
  obtain ⟨hs136, hd137, hN141⟩ := aft ha135 hs113 hd114 hN119 hn134
  have h138 := ha135.fx 1 h115
  have h139 := ha135.ge 1 15 rfl
  have hb140 := hb118.new_ hn134
  refine st_nil (hK59 _ _ ?_)
  rcases Bool.eq_false_or_eq_true (decide (a.k = 4)) with ht142 | ht142
  have ht142d := of_decide_eq_true ht142
  have hv143 := hB h139 ht142
  refine wp_cond_true hv143 ?_
  refine wp_seq_k fun K144 hK144 => ?_
  refine wp_g0 [true, true, true, true] [] 23
    [ve (.pointer (some ⟨q9, 1, none⟩)),
     ve (iv a.n),
     ve (.bool (decide (a.n = 0))),
     ve (.bool (decide (a.n = 0)))] hs136 (.eq (.eq (.eq (.eq (.nil))))) ?_ ?_
  refine .o1 (tk rfl rfl fun _ w hn k => ⟨_, v_field rfl (k.fx 1 h138) (fun w => rfl), rfl⟩) ?_
  refine .o1 (tk rfl rfl fun _ w hn k => ⟨_, v_load rfl (k.eq1 0 20 rfl) (l_one Try.isAgg3 ((hb140.new_ hn).cell 1)), rfl⟩) ?_
  refine .o1 (tk rfl rfl fun _ w hn k => ⟨_, v_bin rfl (k.eq1 1 21 rfl) rfl (fun _ => rfl) (r_eql rfl), rfl⟩) ?_
  refine .o1 (tk rfl rfl fun _ w hn k => ⟨_, v_assign rfl (k.eq1 2 22 rfl), rfl⟩) ?_
  exact .nil
  intro a145 w146 hn147 ha148
  obtain ⟨hs149, hd150, hN152⟩ := aft ha148 hs136 hd137 hN141 hn147
  have h151 := ha148.ge 3 2 rfl
  refine st_nil (hK144 _ _ ?_)
  refine wp_ret (ret_k hd150 (v := .bool (decide (a.n = 0))) (res_t rfl h151 _) ?_)
  refine ⟨?_, hN152⟩
  show Ending.returned (.bool (decide (a.n = 0))) = Ending.returned (.bool (nmayB a))
  first | rfl | (simp only [nmayB, ht38, ht72, ht96, ht120, ht142, bsm] <;> rfl) | (simp [nmayB, ht38, ht72, ht96, ht120, ht142]; done) | (exfalso; omega)
  have ht142d := of_decide_eq_false ht142
  have hv153 := hB h139 ht142
  refine wp_cond_false hv153 ?_
  refine wp_skip ?_
  refine hK14 _ _ ?_
  refine wp_seq_k fun K154 hK154 => ?_
  refine wp_g0 [true] [] 23
    [ve (.bool false)] hs136 (.eq (.nil)) ?_ ?_
  refine .o1 (tk rfl rfl fun _ w hn k => ⟨_, v_assign rfl rfl, rfl⟩) ?_
  exact .nil
  intro a155 w156 hn157 ha158
  obtain ⟨hs159, hd160, hN162⟩ := aft ha158 hs136 hd137 hN141 hn157
  have h161 := ha158.ge 0 2 rfl
  refine st_nil (hK154 _ _ ?_)
  refine wp_ret (ret_k hd160 (v := .bool false) (res_t rfl h161 _) ?_)
  refine ⟨?_, hN162⟩
  show Ending.returned (.bool false) = Ending.returned (.bool (nmayB a))
  first | rfl | (simp only [nmayB, ht38, ht72, ht96, ht120, ht142, bsm] <;> rfl) | (simp [nmayB, ht38, ht72, ht96, ht120, ht142]; done) | (exfalso; omega)
set_option maxHeartbeats 4000000 in
set_option maxRecDepth 100000 in
theorem bmay_c (a : Bool) (Aa : Option Addr) (ma : List Nat) (ca : Nat) (w : World) (hra : SRow w .u32 Aa ma ca) : Calls Try.prog 44 #[.agg #[.bool a, sv Aa ma ca]] w (IsRet (.bool (mayB a ma)) w) := by
  refine enter_abs Try.func44 rfl fun a0 hs0 hd0 hp => ?_
  have hs0 : a0.tmps.size = 31 := hs0
  have hN0 : New w w := Upd.refl _ _
  have hp0 : a0.eval (.tmp 0) = .agg #[.bool a, sv Aa ma ca] := hp 0 _ rfl
  have hmx := hra.max
  refine wp_seq_k fun K1 hK1 => ?_
  refine wp_g [true, true] [] [] 31
    [IsNew w 26 [.bool a, sv Aa ma ca],
     ve (.bool false)]
    [0] (newsCons (fun v w h => IsNew.old h) newsNil) hs0 (.nw (.eq (.nil))) ?_ (fun i h => by cases h) ?_
  refine .o2 (step_allocN (cs := [.bool a, sv Aa ma ca]) (t := 26) rfl (noG rfl) (fun _ w hn k => v_box rfl (k.fx 0 hp0) (fun w => rfl)) (fun q _ hq hb => ⟨q, rfl, hq, hb⟩)) ?_
  refine .o1 (tk rfl rfl fun _ w hn k => ⟨_, v_assign rfl rfl, rfl⟩) ?_
  exact .nil
  intro a2 w3 hn4 ha5
  obtain ⟨hs6, hd7, hN13⟩ := aft ha5 hs0 hd0 hN0 hn4
  obtain ⟨q9, h8, hq10, hb11⟩ : IsNew _ _ _ _ _ := ha5.got 0 1 rfl (by kernel_rfl)
  have hq12 := Nat.le_trans hN0.size hq10
  refine st_nil (hK1 _ _ ?_)
  refine wp_seq_k fun K14 hK14 => ?_
  refine wp_g0 [true, true, true, true] [] 31
    [ve (.pointer (some ⟨q9, 1, none⟩)),
     ve (sv Aa ma ca),
     ve (iv (ma.length : Int)),
     ve (iv (ma.length : Int))] hs6 (.eq (.eq (.eq (.eq (.nil))))) ?_ ?_
  refine .o1 (tk rfl rfl fun _ w hn k => ⟨_, v_field rfl (k.fx 1 h8) (fun w => rfl), rfl⟩) ?_
  refine .o1 (tk rfl rfl fun _ w hn k => ⟨_, v_load rfl (k.eq1 0 4 rfl) (l_one Try.isAgg24 ((hb11.new_ hn).cell 1)), rfl⟩) ?_
  refine .o1 (tk rfl rfl fun _ w hn k => ⟨_, v_lenR rfl elW (k.eq1 1 5 rfl), rfl⟩) ?_
  refine .o1 (tk rfl rfl fun _ w hn k => ⟨_, v_assign rfl (k.eq1 2 6 rfl), rfl⟩) ?_
  exact .nil
  intro a15 w16 hn17 ha18
  obtain ⟨hs19, hd20, hN24⟩ := aft ha18 hs6 hd7 hN13 hn17
  have h21 := ha18.fx 1 h8
  have h22 := ha18.ge 3 3 rfl
  have hb23 := hb11.new_ hn17
  refine st_nil (hK14 _ _ ?_)
  refine wp_seq_k fun K25 hK25 => ?_
  rcases Bool.eq_false_or_eq_true (decide ((ma.length : Int) ≤ 8)) with ht26 | ht26
  have ht26d := of_decide_eq_true ht26
  rcases Bool.eq_false_or_eq_true (decide ((ma.length : Int) = 0)) with ht27 | ht27
  have ht27d := of_decide_eq_true ht27
  rcases Bool.eq_false_or_eq_true (a) with ht28 | ht28
  rcases Bool.eq_false_or_eq_true (decide ((ma.length : Int) ≤ 0)) with ht29 | ht29
  have ht29d := of_decide_eq_true ht29
  refine wp_g0 [true, true, true, true, true, true, true, true, true, true, true, true, true, true, true, true, true, true, true, true, true, true, true, true, true] [] 31
    [ve (iv (ma.length : Int)),
     ve (.bool true),
     ve (.bool true),
     ve (iv (ma.length : Int)),
     ve (.bool true),
     ve (.bool true),
     ve (pv q9),
     ve (.bool true),
     ve (.bool false),
     ve (.bool false),
     ve (.bool false),
     ve (iv (ma.length : Int)),
     ve (.bool false),
     ve (.bool false),
     ve undef,
     ve undef,
     ve undef,
     ve undef,
     ve undef,
     ve undef,
     ve undef,
     ve (.bool false),
     ve (.bool false),
     ve (.bool false),
     ve (.bool false)] hs19 (.eq (.eq (.eq (.eq (.eq (.eq (.eq (.eq (.eq (.eq (.eq (.eq (.eq (.eq (.eq (.eq (.eq (.eq (.eq (.eq (.eq (.eq (.eq (.eq (.eq (.nil)))))))))))))))))))))))))) ?_ ?_
  refine .o1 (tk rfl rfl fun _ w hn k => ⟨_, v_move rfl (k.fx 3 h22), rfl⟩) ?_
  refine .o1 (tk rfl rfl fun _ w hn k => ⟨_, v_bin rfl (k.eq1 0 7 rfl) rfl (fun _ => rfl) (r_leqK ht26), rfl⟩) ?_
  refine .o1 (tk rfl rfl fun _ w hn k => ⟨_, v_move rfl (k.eq1 1 8 rfl), rfl⟩) ?_
  refine .o1 (tg rfl rfl rfl (fun _ _ k => k.eq1 2 9 rfl) fun _ w hn k => ⟨_, v_move rfl (k.fx 3 h22), rfl⟩) ?_
  refine .o1 (tg rfl rfl rfl (fun _ _ k => k.eq1 2 9 rfl) fun _ w hn k => ⟨_, v_bin rfl (k.eq1 3 10 rfl) rfl (fun _ => rfl) (r_eql ht27), rfl⟩) ?_
  refine .o1 (tg rfl rfl rfl (fun _ _ k => k.eq1 2 9 rfl) fun _ w hn k => ⟨_, v_move rfl (k.eq1 4 11 rfl), rfl⟩) ?_
  refine .o1 (tg rfl rfl rfl (fun _ _ k => k.eq1 5 12 rfl) fun _ w hn k => ⟨_, v_field rfl (k.fx 1 h21) (fun w => rfl), rfl⟩) ?_
  refine .o1 (tg rfl rfl rfl (fun _ _ k => k.eq1 5 12 rfl) fun _ w hn k => ⟨_, v_load rfl (k.eq1 6 13 rfl) (l_one Try.isAgg4 ((hb23.new_ hn).cell 0)), congrArg Value.bool ht28⟩) ?_
  refine .o1 (tg rfl rfl rfl (fun _ _ k => k.eq1 5 12 rfl) fun _ w hn k => ⟨_, v_not rfl (k.eq1 7 14 rfl), rfl⟩) ?_
  refine .o1 (tg rfl rfl rfl (fun _ _ k => k.eq1 2 9 rfl) fun _ w hn k => ⟨_, v_pickT rfl (k.eq1 5 12 rfl) (k.eq1 8 15 rfl), rfl⟩) ?_
  refine .o1 (tg rfl rfl rfl (fun _ _ k => k.eq1 2 9 rfl) fun _ w hn k => ⟨_, v_move rfl (k.eq1 9 16 rfl), rfl⟩) ?_
  refine .o1 (tg rfl rfl rfl (fun _ _ k => k.eq1 10 17 rfl) fun _ w hn k => ⟨_, v_move rfl (k.fx 3 h22), rfl⟩) ?_
  refine .o1 (tg rfl rfl rfl (fun _ _ k => k.eq1 10 17 rfl) fun _ w hn k => ⟨_, v_bin rfl (k.eq1 11 18 rfl) rfl (fun _ => rfl) (r_gtrK ht29), rfl⟩) ?_
  refine .o1 (tg rfl rfl rfl (fun _ _ k => k.eq1 10 17 rfl) fun _ w hn k => ⟨_, v_move rfl (k.eq1 12 19 rfl), rfl⟩) ?_
  refine .o1 (sk rfl rfl rfl (fun _ _ _ k => k.eq1 13 20 rfl) (fun _ => rfl)) ?_
  refine .o1 (sk rfl rfl rfl (fun _ _ _ k => k.eq1 13 20 rfl) (fun _ => rfl)) ?_
  refine .o1 (sk rfl rfl rfl (fun _ _ _ k => k.eq1 13 20 rfl) (fun _ => rfl)) ?_
  refine .o1 (sk rfl rfl rfl (fun _ _ _ k => k.eq1 13 20 rfl) (fun _ => rfl)) ?_
  refine .o1 (sk rfl rfl rfl (fun _ _ _ k => k.eq1 13 20 rfl) (fun _ => rfl)) ?_
  refine .o1 (sk rfl rfl rfl (fun _ _ _ k => k.eq1 13 20 rfl) (fun _ => rfl)) ?_
  refine .o1 (sk rfl rfl rfl (fun _ _ _ k => k.eq1 13 20 rfl) (fun _ => rfl)) ?_
  refine .o1 (tg rfl rfl rfl (fun _ _ k => k.eq1 10 17 rfl) fun _ w hn k => ⟨_, v_pickF rfl (k.eq1 13 20 rfl) rfl, rfl⟩) ?_
  refine .o1 (tg rfl rfl rfl (fun _ _ k => k.eq1 2 9 rfl) fun _ w hn k => ⟨_, v_pickF rfl (k.eq1 10 17 rfl) (k.eq1 21 28 rfl), rfl⟩) ?_
  refine .o1 (tk rfl rfl fun _ w hn k => ⟨_, v_pickT rfl (k.eq1 2 9 rfl) (k.eq1 22 29 rfl), rfl⟩) ?_
  refine .o1 (tk rfl rfl fun _ w hn k => ⟨_, v_assign rfl (k.eq1 23 30 rfl), rfl⟩) ?_
  exact .nil
  intro a30 w31 hn32 ha33
  obtain ⟨hs34, hd35, hN37⟩ := aft ha33 hs19 hd20 hN24 hn32
  have h36 := ha33.ge 24 2 rfl
  refine st_nil (hK25 _ _ ?_)
  refine wp_ret (ret_k hd35 (v := .bool false) (res_t rfl h36 _) ?_)
  have hix : ((ma.length : Int) - 1).toNat = ma.length - 1 := by omega
  have q8 : decide (ma.length ≤ 8) = true := decide_eq_true (by omega)
  have q0 : decide (ma.length = 0) = true := decide_eq_true (by omega)
  have q1 : decide (0 < ma.length) = false := decide_eq_false (by omega)
  refine ⟨?_, hN37⟩
  rw [show mayB a ma = false from by unfold mayB; simp only [q8, q0, q1, ht28]; first | rfl | (exfalso; omega)]
  have ht29d := of_decide_eq_false ht29
  rcases Bool.eq_false_or_eq_true (decide (((ma.getD (((ma.length : Int) - 1 : Int).toNat) 0 : Nat) : Int) = 0)) with ht38 | ht38
  have ht38d := of_decide_eq_true ht38
  refine wp_g0 [true, true, true, true, true, true, true, true, true, true, true, true, true, true, true, true, true, true, true, true, true, true, true, true, true] [] 31
    [ve (iv (ma.length : Int)),
     ve (.bool true),
     ve (.bool true),
     ve (iv (ma.length : Int)),
     ve (.bool true),
     ve (.bool true),
     ve (pv q9),
     ve (.bool true),
     ve (.bool false),
     ve (.bool false),
     ve (.bool false),
     ve (iv (ma.length : Int)),
     ve (.bool true),
     ve (.bool true),
     ve (.pointer (some ⟨q9, 1, none⟩)),
     ve (sv Aa ma ca),
     ve (iv (ma.length : Int)),
     ve (iv ((ma.length : Int) - 1)),
     (fun (v_ : Value) (W : World) => ∃ (b11 : Nat) (o12 : Nat), v_ = .pointer (some ⟨b11, o12, none⟩) ∧ SElem W b11 o12 (.int .u32 ((ma.getD (((ma.length : Int) - 1 : Int).toNat) 0 : Nat) : Int))),
     ve (.int .u32 ((ma.getD (((ma.length : Int) - 1 : Int).toNat) 0 : Nat) : Int)),
     ve (.bool false),
     ve (.bool false),
     ve (.bool false),
     ve (.bool false),
     ve (.bool false)] hs19 (.eq (.eq (.eq (.eq (.eq (.eq (.eq (.eq (.eq (.eq (.eq (.eq (.eq (.eq (.eq (.eq (.eq (.eq (.cons (fun v W W' hn ⟨b11, o12, he, h0⟩ => ⟨b11, o12, he, h0.new_ hn⟩) (.eq (.eq (.eq (.eq (.eq (.eq (.nil)))))))))))))))))))))))))) ?_ ?_
  refine .o1 (tk rfl rfl fun _ w hn k => ⟨_, v_move rfl (k.fx 3 h22), rfl⟩) ?_
  refine .o1 (tk rfl rfl fun _ w hn k => ⟨_, v_bin rfl (k.eq1 0 7 rfl) rfl (fun _ => rfl) (r_leqK ht26), rfl⟩) ?_
  refine .o1 (tk rfl rfl fun _ w hn k => ⟨_, v_move rfl (k.eq1 1 8 rfl), rfl⟩) ?_
  refine .o1 (tg rfl rfl rfl (fun _ _ k => k.eq1 2 9 rfl) fun _ w hn k => ⟨_, v_move rfl (k.fx 3 h22), rfl⟩) ?_
  refine .o1 (tg rfl rfl rfl (fun _ _ k => k.eq1 2 9 rfl) fun _ w hn k => ⟨_, v_bin rfl (k.eq1 3 10 rfl) rfl (fun _ => rfl) (r_eql ht27), rfl⟩) ?_
  refine .o1 (tg rfl rfl rfl (fun _ _ k => k.eq1 2 9 rfl) fun _ w hn k => ⟨_, v_move rfl (k.eq1 4 11 rfl), rfl⟩) ?_
  refine .o1 (tg rfl rfl rfl (fun _ _ k => k.eq1 5 12 rfl) fun _ w hn k => ⟨_, v_field rfl (k.fx 1 h21) (fun w => rfl), rfl⟩) ?_
  refine .o1 (tg rfl rfl rfl (fun _ _ k => k.eq1 5 12 rfl) fun _ w hn k => ⟨_, v_load rfl (k.eq1 6 13 rfl) (l_one Try.isAgg4 ((hb23.new_ hn).cell 0)), congrArg Value.bool ht28⟩) ?_
  refine .o1 (tg rfl rfl rfl (fun _ _ k => k.eq1 5 12 rfl) fun _ w hn k => ⟨_, v_not rfl (k.eq1 7 14 rfl), rfl⟩) ?_
  refine .o1 (tg rfl rfl rfl (fun _ _ k => k.eq1 2 9 rfl) fun _ w hn k => ⟨_, v_pickT rfl (k.eq1 5 12 rfl) (k.eq1 8 15 rfl), rfl⟩) ?_
  refine .o1 (tg rfl rfl rfl (fun _ _ k => k.eq1 2 9 rfl) fun _ w hn k => ⟨_, v_move rfl (k.eq1 9 16 rfl), rfl⟩) ?_
  refine .o1 (tg rfl rfl rfl (fun _ _ k => k.eq1 10 17 rfl) fun _ w hn k => ⟨_, v_move rfl (k.fx 3 h22), rfl⟩) ?_
  refine .o1 (tg rfl rfl rfl (fun _ _ k => k.eq1 10 17 rfl) fun _ w hn k => ⟨_, v_bin rfl (k.eq1 11 18 rfl) rfl (fun _ => rfl) (r_gtrK ht29), rfl⟩) ?_
  refine .o1 (tg rfl rfl rfl (fun _ _ k => k.eq1 10 17 rfl) fun _ w hn k => ⟨_, v_move rfl (k.eq1 12 19 rfl), rfl⟩) ?_
  refine .o1 (tg rfl rfl rfl (fun _ _ k => k.eq1 13 20 rfl) fun _ w hn k => ⟨_, v_field rfl (k.fx 1 h21) (fun w => rfl), rfl⟩) ?_
  refine .o1 (tg rfl rfl rfl (fun _ _ k => k.eq1 13 20 rfl) fun _ w hn k => ⟨_, v_load rfl (k.eq1 14 21 rfl) (l_one Try.isAgg24 ((hb23.new_ hn).cell 1)), rfl⟩) ?_
  refine .o1 (tg rfl rfl rfl (fun _ _ k => k.eq1 13 20 rfl) fun _ w hn k => ⟨_, v_move rfl (k.fx 3 h22), rfl⟩) ?_
  refine .o1 (tg rfl rfl rfl (fun _ _ k => k.eq1 13 20 rfl) fun _ w hn k => ⟨_, v_bin rfl (k.eq1 16 23 rfl) rfl (fun _ => rfl) (r_sub rfl (by omega)), rfl⟩) ?_
  refine .o1 (tg rfl rfl rfl (fun _ _ k => k.eq1 13 20 rfl) fun _ w hn k => (by
        exact x_eaddr (k := .u32) rfl elW (k.eq1 15 22 rfl) (k.eq1 17 24 rfl) (hra.new_ (hN24.transNew hn)) (by omega) fun b9 o10 hme => ⟨b9, o10, rfl, hme⟩)) ?_
  refine .o1 (tg rfl rfl rfl (fun _ _ k => k.eq1 13 20 rfl) fun _ w hn k => (by
        obtain ⟨b13, o14, e15, hx16⟩ : (fun (v_ : Value) (W : World) => ∃ (b11 : Nat) (o12 : Nat), v_ = .pointer (some ⟨b11, o12, none⟩) ∧ SElem W b11 o12 (.int .u32 ((ma.getD (((ma.length : Int) - 1 : Int).toNat) 0 : Nat) : Int))) _ _ := k.dep 18 25 (by kernel_rfl) (by kernel_rfl)
        exact ⟨_, v_load rfl e15 (l_one Try.isAgg56 hx16.1), rfl⟩)) ?_
  refine .o1 (tg rfl rfl rfl (fun _ _ k => k.eq1 13 20 rfl) fun _ w hn k => ⟨_, v_bin rfl (k.eq1 19 26 rfl) rfl (fun _ => rfl) (r_neq ht38), rfl⟩) ?_
  refine .o1 (tg rfl rfl rfl (fun _ _ k => k.eq1 10 17 rfl) fun _ w hn k => ⟨_, v_pickT rfl (k.eq1 13 20 rfl) (k.eq1 20 27 rfl), rfl⟩) ?_
  refine .o1 (tg rfl rfl rfl (fun _ _ k => k.eq1 2 9 rfl) fun _ w hn k => ⟨_, v_pickF rfl (k.eq1 10 17 rfl) (k.eq1 21 28 rfl), rfl⟩) ?_
  refine .o1 (tk rfl rfl fun _ w hn k => ⟨_, v_pickT rfl (k.eq1 2 9 rfl) (k.eq1 22 29 rfl), rfl⟩) ?_
  refine .o1 (tk rfl rfl fun _ w hn k => ⟨_, v_assign rfl (k.eq1 23 30 rfl), rfl⟩) ?_
  exact .nil
  intro a39 w40 hn41 ha42
  obtain ⟨hs43, hd44, hN46⟩ := aft ha42 hs19 hd20 hN24 hn41
  have h45 := ha42.ge 24 2 rfl
  refine st_nil (hK25 _ _ ?_)
  refine wp_ret (ret_k hd44 (v := .bool false) (res_t rfl h45 _) ?_)
  have hix : ((ma.length : Int) - 1).toNat = ma.length - 1 := by omega
  have q8 : decide (ma.length ≤ 8) = true := decide_eq_true (by omega)
  have q0 : decide (ma.length = 0) = true := decide_eq_true (by omega)
  have q1 : decide (0 < ma.length) = false := decide_eq_false (by omega)
  rw [hix] at ht38d
  have q2 : decide (ma.getD (ma.length - 1) 0 ≠ 0) = false := decide_eq_false (by omega)
  refine ⟨?_, hN46⟩
  rw [show mayB a ma = false from by unfold mayB; simp only [q8, q0, q1, ht28, q2]; first | rfl | (exfalso; omega)]
  have ht38d := of_decide_eq_false ht38
  refine wp_g0 [true, true, true, true, true, true, true, true, true, true, true, true, true, true, true, true, true, true, true, true, true, true, true, true, true] [] 31
    [ve (iv (ma.length : Int)),
     ve (.bool true),
     ve (.bool true),
     ve (iv (ma.length : Int)),
     ve (.bool true),
     ve (.bool true),
     ve (pv q9),
     ve (.bool true),
     ve (.bool false),
     ve (.bool false),
     ve (.bool false),
     ve (iv (ma.length : Int)),
     ve (.bool true),
     ve (.bool true),
     ve (.pointer (some ⟨q9, 1, none⟩)),
     ve (sv Aa ma ca),
     ve (iv (ma.length : Int)),
     ve (iv ((ma.length : Int) - 1)),
     (fun (v_ : Value) (W : World) => ∃ (b19 : Nat) (o20 : Nat), v_ = .pointer (some ⟨b19, o20, none⟩) ∧ SElem W b19 o20 (.int .u32 ((ma.getD (((ma.length : Int) - 1 : Int).toNat) 0 : Nat) : Int))),
     ve (.int .u32 ((ma.getD (((ma.length : Int) - 1 : Int).toNat) 0 : Nat) : Int)),
     ve (.bool true),
     ve (.bool true),
     ve (.bool true),
     ve (.bool true),
     ve (.bool true)] hs19 (.eq (.eq (.eq (.eq (.eq (.eq (.eq (.eq (.eq (.eq (.eq (.eq (.eq (.eq (.eq (.eq (.eq (.eq (.cons (fun v W W' hn ⟨b19, o20, he, h0⟩ => ⟨b19, o20, he, h0.new_ hn⟩) (.eq (.eq (.eq (.eq (.eq (.eq (.nil)))))))))))))))))))))))))) ?_ ?_
  refine .o1 (tk rfl rfl fun _ w hn k => ⟨_, v_move rfl (k.fx 3 h22), rfl⟩) ?_
  refine .o1 (tk rfl rfl fun _ w hn k => ⟨_, v_bin rfl (k.eq1 0 7 rfl) rfl (fun _ => rfl) (r_leqK ht26), rfl⟩) ?_
  refine .o1 (tk rfl rfl fun _ w hn k => ⟨_, v_move rfl (k.eq1 1 8 rfl), rfl⟩) ?_
  refine .o1 (tg rfl rfl rfl (fun _ _ k => k.eq1 2 9 rfl) fun _ w hn k => ⟨_, v_move rfl (k.fx 3 h22), rfl⟩) ?_
  refine .o1 (tg rfl rfl rfl (fun _ _ k => k.eq1 2 9 rfl) fun _ w hn k => ⟨_, v_bin rfl (k.eq1 3 10 rfl) rfl (fun _ => rfl) (r_eql ht27), rfl⟩) ?_
  refine .o1 (tg rfl rfl rfl (fun _ _ k => k.eq1 2 9 rfl) fun _ w hn k => ⟨_, v_move rfl (k.eq1 4 11 rfl), rfl⟩) ?_
  refine .o1 (tg rfl rfl rfl (fun _ _ k => k.eq1 5 12 rfl) fun _ w hn k => ⟨_, v_field rfl (k.fx 1 h21) (fun w => rfl), rfl⟩) ?_
  refine .o1 (tg rfl rfl rfl (fun _ _ k => k.eq1 5 12 rfl) fun _ w hn k => ⟨_, v_load rfl (k.eq1 6 13 rfl) (l_one Try.isAgg4 ((hb23.new_ hn).cell 0)), congrArg Value.bool ht28⟩) ?_
  refine .o1 (tg rfl rfl rfl (fun _ _ k => k.eq1 5 12 rfl) fun _ w hn k => ⟨_, v_not rfl (k.eq1 7 14 rfl), rfl⟩) ?_
  refine .o1 (tg rfl rfl rfl (fun _ _ k => k.eq1 2 9 rfl) fun _ w hn k => ⟨_, v_pickT rfl (k.eq1 5 12 rfl) (k.eq1 8 15 rfl), rfl⟩) ?_
  refine .o1 (tg rfl rfl rfl (fun _ _ k => k.eq1 2 9 rfl) fun _ w hn k => ⟨_, v_move rfl (k.eq1 9 16 rfl), rfl⟩) ?_
  refine .o1 (tg rfl rfl rfl (fun _ _ k => k.eq1 10 17 rfl) fun _ w hn k => ⟨_, v_move rfl (k.fx 3 h22), rfl⟩) ?_
  refine .o1 (tg rfl rfl rfl (fun _ _ k => k.eq1 10 17 rfl) fun _ w hn k => ⟨_, v_bin rfl (k.eq1 11 18 rfl) rfl (fun _ => rfl) (r_gtrK ht29), rfl⟩) ?_
  refine .o1 (tg rfl rfl rfl (fun _ _ k => k.eq1 10 17 rfl) fun _ w hn k => ⟨_, v_move rfl (k.eq1 12 19 rfl), rfl⟩) ?_
  refine .o1 (tg rfl rfl rfl (fun _ _ k => k.eq1 13 20 rfl) fun _ w hn k => ⟨_, v_field rfl (k.fx 1 h21) (fun w => rfl), rfl⟩) ?_
  refine .o1 (tg rfl rfl rfl (fun _ _ k => k.eq1 13 20 rfl) fun _ w hn k => ⟨_, v_load rfl (k.eq1 14 21 rfl) (l_one Try.isAgg24 ((hb23.new_ hn).cell 1)), rfl⟩) ?_
  refine .o1 (tg rfl rfl rfl (fun _ _ k => k.eq1 13 20 rfl) fun _ w hn k => ⟨_, v_move rfl (k.fx 3 h22), rfl⟩) ?_
  refine .o1 (tg rfl rfl rfl (fun _ _ k => k.eq1 13 20 rfl) fun _ w hn k => ⟨_, v_bin rfl (k.eq1 16 23 rfl) rfl (fun _ => rfl) (r_sub rfl (by omega)), rfl⟩) ?_
  refine .o1 (tg rfl rfl rfl (fun _ _ k => k.eq1 13 20 rfl) fun _ w hn k => (by
        exact x_eaddr (k := .u32) rfl elW (k.eq1 15 22 rfl) (k.eq1 17 24 rfl) (hra.new_ (hN24.transNew hn)) (by omega) fun b17 o18 hme => ⟨b17, o18, rfl, hme⟩)) ?_
  refine .o1 (tg rfl rfl rfl (fun _ _ k => k.eq1 13 20 rfl) fun _ w hn k => (by
        obtain ⟨b21, o22, e23, hx24⟩ : (fun (v_ : Value) (W : World) => ∃ (b19 : Nat) (o20 : Nat), v_ = .pointer (some ⟨b19, o20, none⟩) ∧ SElem W b19 o20 (.int .u32 ((ma.getD (((ma.length : Int) - 1 : Int).toNat) 0 : Nat) : Int))) _ _ := k.dep 18 25 (by kernel_rfl) (by kernel_rfl)
        exact ⟨_, v_load rfl e23 (l_one Try.isAgg56 hx24.1), rfl⟩)) ?_
  refine .o1 (tg rfl rfl rfl (fun _ _ k => k.eq1 13 20 rfl) fun _ w hn k => ⟨_, v_bin rfl (k.eq1 19 26 rfl) rfl (fun _ => rfl) (r_neq ht38), rfl⟩) ?_
  refine .o1 (tg rfl rfl rfl (fun _ _ k => k.eq1 10 17 rfl) fun _ w hn k => ⟨_, v_pickT rfl (k.eq1 13 20 rfl) (k.eq1 20 27 rfl), rfl⟩) ?_
  refine .o1 (tg rfl rfl rfl (fun _ _ k => k.eq1 2 9 rfl) fun _ w hn k => ⟨_, v_pickF rfl (k.eq1 10 17 rfl) (k.eq1 21 28 rfl), rfl⟩) ?_
  refine .o1 (tk rfl rfl fun _ w hn k => ⟨_, v_pickT rfl (k.eq1 2 9 rfl) (k.eq1 22 29 rfl), rfl⟩) ?_
  refine .o1 (tk rfl rfl fun _ w hn k => ⟨_, v_assign rfl (k.eq1 23 30 rfl), rfl⟩) ?_
  exact .nil
  intro a47 w48 hn49 ha50
  obtain ⟨hs51, hd52, hN54⟩ := aft ha50 hs19 hd20 hN24 hn49
  have h53 := ha50.ge 24 2 rfl
  refine st_nil (hK25 _ _ ?_)
  refine wp_ret (ret_k hd52 (v := .bool true) (res_t rfl h53 _) ?_)
  have hix : ((ma.length : Int) - 1).toNat = ma.length - 1 := by omega
  have q8 : decide (ma.length ≤ 8) = true := decide_eq_true (by omega)
  have q0 : decide (ma.length = 0) = true := decide_eq_true (by omega)
  have q1 : decide (0 < ma.length) = false := decide_eq_false (by omega)
  rw [hix] at ht38d
  have q2 : decide (ma.getD (ma.length - 1) 0 ≠ 0) = true := decide_eq_true (by omega)
  refine ⟨?_, hN54⟩
  rw [show mayB a ma = true from by unfold mayB; simp only [q8, q0, q1, ht28, q2]; first | rfl | (exfalso; omega)]
  refine wp_g0 [true, true, true, true, true, true, true, true, true, true, true, true, true, true, true, true, true, true, true, true, true, true, true, true, true] [] 31
    [ve (iv (ma.length : Int)),
     ve (.bool true),
     ve (.bool true),
     ve (iv (ma.length : Int)),
     ve (.bool true),
     ve (.bool true),
     ve (pv q9),
     ve (.bool false),
     ve (.bool true),
     ve (.bool true),
     ve (.bool true),
     ve undef,
     ve undef,
     ve undef,
     ve undef,
     ve undef,
     ve undef,
     ve undef,
     ve undef,
     ve undef,
     ve undef,
     ve undef,
     ve (.bool true),
     ve (.bool true),
     ve (.bool true)] hs19 (.eq (.eq (.eq (.eq (.eq (.eq (.eq (.eq (.eq (.eq (.eq (.eq (.eq (.eq (.eq (.eq (.eq (.eq (.eq (.eq (.eq (.eq (.eq (.eq (.eq (.nil)))))))))))))))))))))))))) ?_ ?_
  refine .o1 (tk rfl rfl fun _ w hn k => ⟨_, v_move rfl (k.fx 3 h22), rfl⟩) ?_
  refine .o1 (tk rfl rfl fun _ w hn k => ⟨_, v_bin rfl (k.eq1 0 7 rfl) rfl (fun _ => rfl) (r_leqK ht26), rfl⟩) ?_
  refine .o1 (tk rfl rfl fun _ w hn k => ⟨_, v_move rfl (k.eq1 1 8 rfl), rfl⟩) ?_
  refine .o1 (tg rfl rfl rfl (fun _ _ k => k.eq1 2 9 rfl) fun _ w hn k => ⟨_, v_move rfl (k.fx 3 h22), rfl⟩) ?_
  refine .o1 (tg rfl rfl rfl (fun _ _ k => k.eq1 2 9 rfl) fun _ w hn k => ⟨_, v_bin rfl (k.eq1 3 10 rfl) rfl (fun _ => rfl) (r_eql ht27), rfl⟩) ?_
  refine .o1 (tg rfl rfl rfl (fun _ _ k => k.eq1 2 9 rfl) fun _ w hn k => ⟨_, v_move rfl (k.eq1 4 11 rfl), rfl⟩) ?_
  refine .o1 (tg rfl rfl rfl (fun _ _ k => k.eq1 5 12 rfl) fun _ w hn k => ⟨_, v_field rfl (k.fx 1 h21) (fun w => rfl), rfl⟩) ?_
  refine .o1 (tg rfl rfl rfl (fun _ _ k => k.eq1 5 12 rfl) fun _ w hn k => ⟨_, v_load rfl (k.eq1 6 13 rfl) (l_one Try.isAgg4 ((hb23.new_ hn).cell 0)), congrArg Value.bool ht28⟩) ?_
  refine .o1 (tg rfl rfl rfl (fun _ _ k => k.eq1 5 12 rfl) fun _ w hn k => ⟨_, v_not rfl (k.eq1 7 14 rfl), rfl⟩) ?_
  refine .o1 (tg rfl rfl rfl (fun _ _ k => k.eq1 2 9 rfl) fun _ w hn k => ⟨_, v_pickT rfl (k.eq1 5 12 rfl) (k.eq1 8 15 rfl), rfl⟩) ?_
  refine .o1 (tg rfl rfl rfl (fun _ _ k => k.eq1 2 9 rfl) fun _ w hn k => ⟨_, v_move rfl (k.eq1 9 16 rfl), rfl⟩) ?_
  refine .o1 (sk rfl rfl rfl (fun _ _ _ k => k.eq1 10 17 rfl) (fun _ => rfl)) ?_
  refine .o1 (sk rfl rfl rfl (fun _ _ _ k => k.eq1 10 17 rfl) (fun _ => rfl)) ?_
  refine .o1 (sk rfl rfl rfl (fun _ _ _ k => k.eq1 10 17 rfl) (fun _ => rfl)) ?_
  refine .o1 (su rfl rfl rfl (fun _ _ _ k => k.eq1 13 20 rfl) (fun _ => rfl)) ?_
  refine .o1 (su rfl rfl rfl (fun _ _ _ k => k.eq1 13 20 rfl) (fun _ => rfl)) ?_
  refine .o1 (su rfl rfl rfl (fun _ _ _ k => k.eq1 13 20 rfl) (fun _ => rfl)) ?_
  refine .o1 (su rfl rfl rfl (fun _ _ _ k => k.eq1 13 20 rfl) (fun _ => rfl)) ?_
  refine .o1 (su rfl rfl rfl (fun _ _ _ k => k.eq1 13 20 rfl) (fun _ => rfl)) ?_
  refine .o1 (su rfl rfl rfl (fun _ _ _ k => k.eq1 13 20 rfl) (fun _ => rfl)) ?_
  refine .o1 (su rfl rfl rfl (fun _ _ _ k => k.eq1 13 20 rfl) (fun _ => rfl)) ?_
  refine .o1 (sk rfl rfl rfl (fun _ _ _ k => k.eq1 10 17 rfl) (fun _ => rfl)) ?_
  refine .o1 (tg rfl rfl rfl (fun _ _ k => k.eq1 2 9 rfl) fun _ w hn k => ⟨_, v_pickT rfl (k.eq1 10 17 rfl) rfl, rfl⟩) ?_
  refine .o1 (tk rfl rfl fun _ w hn k => ⟨_, v_pickT rfl (k.eq1 2 9 rfl) (k.eq1 22 29 rfl), rfl⟩) ?_
  refine .o1 (tk rfl rfl fun _ w hn k => ⟨_, v_assign rfl (k.eq1 23 30 rfl), rfl⟩) ?_
  exact .nil
  intro a55 w56 hn57 ha58
  obtain ⟨hs59, hd60, hN62⟩ := aft ha58 hs19 hd20 hN24 hn57
  have h61 := ha58.ge 24 2 rfl
  refine st_nil (hK25 _ _ ?_)
  refine wp_ret (ret_k hd60 (v := .bool true) (res_t rfl h61 _) ?_)
  have hix : ((ma.length : Int) - 1).toNat = ma.length - 1 := by omega
  have q8 : decide (ma.length ≤ 8) = true := decide_eq_true (by omega)
  have q0 : decide (ma.length = 0) = true := decide_eq_true (by omega)
  have q1 : decide (0 < ma.length) = false := decide_eq_false (by omega)
  refine ⟨?_, hN62⟩
  rw [show mayB a ma = true from by unfold mayB; simp only [q8, q0, q1, ht28]; first | rfl | (exfalso; omega)]
  have ht27d := of_decide_eq_false ht27
  rcases Bool.eq_false_or_eq_true (decide ((ma.length : Int) ≤ 0)) with ht63 | ht63
  have ht63d := of_decide_eq_true ht63
  refine wp_g0 [true, true, true, true, true, true, true, true, true, true, true, true, true, true, true, true, true, true, true, true, true, true, true, true, true] [] 31
    [ve (iv (ma.length : Int)),
     ve (.bool true),
     ve (.bool true),
     ve (iv (ma.length : Int)),
     ve (.bool false),
     ve (.bool false),
     ve undef,
     ve undef,
     ve undef,
     ve (.bool false),
     ve (.bool false),
     ve (iv (ma.length : Int)),
     ve (.bool false),
     ve (.bool false),
     ve undef,
     ve undef,
     ve undef,
     ve undef,
     ve undef,
     ve undef,
     ve undef,
     ve (.bool false),
     ve (.bool false),
     ve (.bool false),
     ve (.bool false)] hs19 (.eq (.eq (.eq (.eq (.eq (.eq (.eq (.eq (.eq (.eq (.eq (.eq (.eq (.eq (.eq (.eq (.eq (.eq (.eq (.eq (.eq (.eq (.eq (.eq (.eq (.nil)))))))))))))))))))))))))) ?_ ?_
  refine .o1 (tk rfl rfl fun _ w hn k => ⟨_, v_move rfl (k.fx 3 h22), rfl⟩) ?_
  refine .o1 (tk rfl rfl fun _ w hn k => ⟨_, v_bin rfl (k.eq1 0 7 rfl) rfl (fun _ => rfl) (r_leqK ht26), rfl⟩) ?_
  refine .o1 (tk rfl rfl fun _ w hn k => ⟨_, v_move rfl (k.eq1 1 8 rfl), rfl⟩) ?_
  refine .o1 (tg rfl rfl rfl (fun _ _ k => k.eq1 2 9 rfl) fun _ w hn k => ⟨_, v_move rfl (k.fx 3 h22), rfl⟩) ?_
  refine .o1 (tg rfl rfl rfl (fun _ _ k => k.eq1 2 9 rfl) fun _ w hn k => ⟨_, v_bin rfl (k.eq1 3 10 rfl) rfl (fun _ => rfl) (r_eql ht27), rfl⟩) ?_
  refine .o1 (tg rfl rfl rfl (fun _ _ k => k.eq1 2 9 rfl) fun _ w hn k => ⟨_, v_move rfl (k.eq1 4 11 rfl), rfl⟩) ?_
  refine .o1 (sk rfl rfl rfl (fun _ _ _ k => k.eq1 5 12 rfl) (fun _ => rfl)) ?_
  refine .o1 (sk rfl rfl rfl (fun _ _ _ k => k.eq1 5 12 rfl) (fun _ => rfl)) ?_
  refine .o1 (sk rfl rfl rfl (fun _ _ _ k => k.eq1 5 12 rfl) (fun _ => rfl)) ?_
  refine .o1 (tg rfl rfl rfl (fun _ _ k => k.eq1 2 9 rfl) fun _ w hn k => ⟨_, v_pickF rfl (k.eq1 5 12 rfl) rfl, rfl⟩) ?_
  refine .o1 (tg rfl rfl rfl (fun _ _ k => k.eq1 2 9 rfl) fun _ w hn k => ⟨_, v_move rfl (k.eq1 9 16 rfl), rfl⟩) ?_
  refine .o1 (tg rfl rfl rfl (fun _ _ k => k.eq1 10 17 rfl) fun _ w hn k => ⟨_, v_move rfl (k.fx 3 h22), rfl⟩) ?_
  refine .o1 (tg rfl rfl rfl (fun _ _ k => k.eq1 10 17 rfl) fun _ w hn k => ⟨_, v_bin rfl (k.eq1 11 18 rfl) rfl (fun _ => rfl) (r_gtrK ht63), rfl⟩) ?_
  refine .o1 (tg rfl rfl rfl (fun _ _ k => k.eq1 10 17 rfl) fun _ w hn k => ⟨_, v_move rfl (k.eq1 12 19 rfl), rfl⟩) ?_
  refine .o1 (sk rfl rfl rfl (fun _ _ _ k => k.eq1 13 20 rfl) (fun _ => rfl)) ?_
  refine .o1 (sk rfl rfl rfl (fun _ _ _ k => k.eq1 13 20 rfl) (fun _ => rfl)) ?_
  refine .o1 (sk rfl rfl rfl (fun _ _ _ k => k.eq1 13 20 rfl) (fun _ => rfl)) ?_
  refine .o1 (sk rfl rfl rfl (fun _ _ _ k => k.eq1 13 20 rfl) (fun _ => rfl)) ?_
  refine .o1 (sk rfl rfl rfl (fun _ _ _ k => k.eq1 13 20 rfl) (fun _ => rfl)) ?_
  refine .o1 (sk rfl rfl rfl (fun _ _ _ k => k.eq1 13 20 rfl) (fun _ => rfl)) ?_
  refine .o1 (sk rfl rfl rfl (fun _ _ _ k => k.eq1 13 20 rfl) (fun _ => rfl)) ?_
  refine .o1 (tg rfl rfl rfl (fun _ _ k => k.eq1 10 17 rfl) fun _ w hn k => ⟨_, v_pickF rfl (k.eq1 13 20 rfl) rfl, rfl⟩) ?_
  refine .o1 (tg rfl rfl rfl (fun _ _ k => k.eq1 2 9 rfl) fun _ w hn k => ⟨_, v_pickF rfl (k.eq1 10 17 rfl) (k.eq1 21 28 rfl), rfl⟩) ?_
  refine .o1 (tk rfl rfl fun _ w hn k => ⟨_, v_pickT rfl (k.eq1 2 9 rfl) (k.eq1 22 29 rfl), rfl⟩) ?_
  refine .o1 (tk rfl rfl fun _ w hn k => ⟨_, v_assign rfl (k.eq1 23 30 rfl), rfl⟩) ?_
  exact .nil
  intro a64 w65 hn66 ha67
  obtain ⟨hs68, hd69, hN71⟩ := aft ha67 hs19 hd20 hN24 hn66
  have h70 := ha67.ge 24 2 rfl
  refine st_nil (hK25 _ _ ?_)
  refine wp_ret (ret_k hd69 (v := .bool false) (res_t rfl h70 _) ?_)
  have hix : ((ma.length : Int) - 1).toNat = ma.length - 1 := by omega
  have q8 : decide (ma.length ≤ 8) = true := decide_eq_true (by omega)
  have q0 : decide (ma.length = 0) = false := decide_eq_false (by omega)
  have q1 : decide (0 < ma.length) = true := decide_eq_true (by omega)
  refine ⟨?_, hN71⟩
  rw [show mayB a ma = false from by unfold mayB; simp only [q8, q0, q1]; first | rfl | (exfalso; omega)]
  have ht63d := of_decide_eq_false ht63
  rcases Bool.eq_false_or_eq_true (decide (((ma.getD (((ma.length : Int) - 1 : Int).toNat) 0 : Nat) : Int) = 0)) with ht72 | ht72
  have ht72d := of_decide_eq_true ht72
  refine wp_g0 [true, true, true, true, true, true, true, true, true, true, true, true, true, true, true, true, true, true, true, true, true, true, true, true, true] [] 31
    [ve (iv (ma.length : Int)),
     ve (.bool true),
     ve (.bool true),
     ve (iv (ma.length : Int)),
     ve (.bool false),
     ve (.bool false),
     ve undef,
     ve undef,
     ve undef,
     ve (.bool false),
     ve (.bool false),
     ve (iv (ma.length : Int)),
     ve (.bool true),
     ve (.bool true),
     ve (.pointer (some ⟨q9, 1, none⟩)),
     ve (sv Aa ma ca),
     ve (iv (ma.length : Int)),
     ve (iv ((ma.length : Int) - 1)),
     (fun (v_ : Value) (W : World) => ∃ (b35 : Nat) (o36 : Nat), v_ = .pointer (some ⟨b35, o36, none⟩) ∧ SElem W b35 o36 (.int .u32 ((ma.getD (((ma.length : Int) - 1 : Int).toNat) 0 : Nat) : Int))),
     ve (.int .u32 ((ma.getD (((ma.length : Int) - 1 : Int).toNat) 0 : Nat) : Int)),
     ve (.bool false),
     ve (.bool false),
     ve (.bool false),
     ve (.bool false),
     ve (.bool false)] hs19 (.eq (.eq (.eq (.eq (.eq (.eq (.eq (.eq (.eq (.eq (.eq (.eq (.eq (.eq (.eq (.eq (.eq (.eq (.cons (fun v W W' hn ⟨b35, o36, he, h0⟩ => ⟨b35, o36, he, h0.new_ hn⟩) (.eq (.eq (.eq (.eq (.eq (.eq (.nil)))))))))))))))))))))))))) ?_ ?_
  refine .o1 (tk rfl rfl fun _ w hn k => ⟨_, v_move rfl (k.fx 3 h22), rfl⟩) ?_
  refine .o1 (tk rfl rfl fun _ w hn k => ⟨_, v_bin rfl (k.eq1 0 7 rfl) rfl (fun _ => rfl) (r_leqK ht26), rfl⟩) ?_
  refine .o1 (tk rfl rfl fun _ w hn k => ⟨_, v_move rfl (k.eq1 1 8 rfl), rfl⟩) ?_
  refine .o1 (tg rfl rfl rfl (fun _ _ k => k.eq1 2 9 rfl) fun _ w hn k => ⟨_, v_move rfl (k.fx 3 h22), rfl⟩) ?_
  refine .o1 (tg rfl rfl rfl (fun _ _ k => k.eq1 2 9 rfl) fun _ w hn k => ⟨_, v_bin rfl (k.eq1 3 10 rfl) rfl (fun _ => rfl) (r_eql ht27), rfl⟩) ?_
  refine .o1 (tg rfl rfl rfl (fun _ _ k => k.eq1 2 9 rfl) fun _ w hn k => ⟨_, v_move rfl (k.eq1 4 11 rfl), rfl⟩) ?_
  refine .o1 (sk rfl rfl rfl (fun _ _ _ k => k.eq1 5 12 rfl) (fun _ => rfl)) ?_
  refine .o1 (sk rfl rfl rfl (fun _ _ _ k => k.eq1 5 12 rfl) (fun _ => rfl)) ?_
  refine .o1 (sk rfl rfl rfl (fun _ _ _ k => k.eq1 5 12 rfl) (fun _ => rfl)) ?_
  refine .o1 (tg rfl rfl rfl (fun _ _ k => k.eq1 2 9 rfl) fun _ w hn k => ⟨_, v_pickF rfl (k.eq1 5 12 rfl) rfl, rfl⟩) ?_
  refine .o1 (tg rfl rfl rfl (fun _ _ k => k.eq1 2 9 rfl) fun _ w hn k => ⟨_, v_move rfl (k.eq1 9 16 rfl), rfl⟩) ?_
  refine .o1 (tg rfl rfl rfl (fun _ _ k => k.eq1 10 17 rfl) fun _ w hn k => ⟨_, v_move rfl (k.fx 3 h22), rfl⟩) ?_
  refine .o1 (tg rfl rfl rfl (fun _ _ k => k.eq1 10 17 rfl) fun _ w hn k => ⟨_, v_bin rfl (k.eq1 11 18 rfl) rfl (fun _ => rfl) (r_gtrK ht63), rfl⟩) ?_
  refine .o1 (tg rfl rfl rfl (fun _ _ k => k.eq1 10 17 rfl) fun _ w hn k => ⟨_, v_move rfl (k.eq1 12 19 rfl), rfl⟩) ?_
  refine .o1 (tg rfl rfl rfl (fun _ _ k => k.eq1 13 20 rfl) fun _ w hn k => ⟨_, v_field rfl (k.fx 1 h21) (fun w => rfl), rfl⟩) ?_
  refine .o1 (tg rfl rfl rfl (fun _ _ k => k.eq1 13 20 rfl) fun _ w hn k => ⟨_, v_load rfl (k.eq1 14 21 rfl) (l_one Try.isAgg24 ((hb23.new_ hn).cell 1)), rfl⟩) ?_
  refine .o1 (tg rfl rfl rfl (fun _ _ k => k.eq1 13 20 rfl) fun _ w hn k => ⟨_, v_move rfl (k.fx 3 h22), rfl⟩) ?_
  refine .o1 (tg rfl rfl rfl (fun _ _ k => k.eq1 13 20 rfl) fun _ w hn k => ⟨_, v_bin rfl (k.eq1 16 23 rfl) rfl (fun _ => rfl) (r_sub rfl (by omega)), rfl⟩) ?_
  refine .o1 (tg rfl rfl rfl (fun _ _ k => k.eq1 13 20 rfl) fun _ w hn k => (by
        exact x_eaddr (k := .u32) rfl elW (k.eq1 15 22 rfl) (k.eq1 17 24 rfl) (hra.new_ (hN24.transNew hn)) (by omega) fun b33 o34 hme => ⟨b33, o34, rfl, hme⟩)) ?_
  refine .o1 (tg rfl rfl rfl (fun _ _ k => k.eq1 13 20 rfl) fun _ w hn k => (by
        obtain ⟨b37, o38, e39, hx40⟩ : (fun (v_ : Value) (W : World) => ∃ (b35 : Nat) (o36 : Nat), v_ = .pointer (some ⟨b35, o36, none⟩) ∧ SElem W b35 o36 (.int .u32 ((ma.getD (((ma.length : Int) - 1 : Int).toNat) 0 : Nat) : Int))) _ _ := k.dep 18 25 (by kernel_rfl) (by kernel_rfl)
        exact ⟨_, v_load rfl e39 (l_one Try.isAgg56 hx40.1), rfl⟩)) ?_
  refine .o1 (tg rfl rfl rfl (fun _ _ k => k.eq1 13 20 rfl) fun _ w hn k => ⟨_, v_bin rfl (k.eq1 19 26 rfl) rfl (fun _ => rfl) (r_neq ht72), rfl⟩) ?_
  refine .o1 (tg rfl rfl rfl (fun _ _ k => k.eq1 10 17 rfl) fun _ w hn k => ⟨_, v_pickT rfl (k.eq1 13 20 rfl) (k.eq1 20 27 rfl), rfl⟩) ?_
  refine .o1 (tg rfl rfl rfl (fun _ _ k => k.eq1 2 9 rfl) fun _ w hn k => ⟨_, v_pickF rfl (k.eq1 10 17 rfl) (k.eq1 21 28 rfl), rfl⟩) ?_
  refine .o1 (tk rfl rfl fun _ w hn k => ⟨_, v_pickT rfl (k.eq1 2 9 rfl) (k.eq1 22 29 rfl), rfl⟩) ?_
  refine .o1 (tk rfl rfl fun _ w hn k => ⟨_, v_assign rfl (k.eq1 23 30 rfl), rfl⟩) ?_
  exact .nil
  intro a73 w74 hn75 ha76
  obtain ⟨hs77, hd78, hN80⟩ := aft ha76 hs19 hd20 hN24 hn75
  have h79 := ha76.ge 24 2 rfl
  refine st_nil (hK25 _ _ ?_)
  refine wp_ret (ret_k hd78 (v := .bool false) (res_t rfl h79 _) ?_)
  have hix : ((ma.length : Int) - 1).toNat = ma.length - 1 := by omega
  have q8 : decide (ma.length ≤ 8) = true := decide_eq_true (by omega)
  have q0 : decide (ma.length = 0) = false := decide_eq_false (by omega)
  have q1 : decide (0 < ma.length) = true := decide_eq_true (by omega)
  rw [hix] at ht72d
  have q2 : decide (ma.getD (ma.length - 1) 0 ≠ 0) = false := decide_eq_false (by omega)
  refine ⟨?_, hN80⟩
  rw [show mayB a ma = false from by unfold mayB; simp only [q8, q0, q1, q2]; first | rfl | (exfalso; omega)]
  have ht72d := of_decide_eq_false ht72
  refine wp_g0 [true, true, true, true, true, true, true, true, true, true, true, true, true, true, true, true, true, true, true, true, true, true, true, true, true] [] 31
    [ve (iv (ma.length : Int)),
     ve (.bool true),
     ve (.bool true),
     ve (iv (ma.length : Int)),
     ve (.bool false),
     ve (.bool false),
     ve undef,
     ve undef,
     ve undef,
     ve (.bool false),
     ve (.bool false),
     ve (iv (ma.length : Int)),
     ve (.bool true),
     ve (.bool true),
     ve (.pointer (some ⟨q9, 1, none⟩)),
     ve (sv Aa ma ca),
     ve (iv (ma.length : Int)),
     ve (iv ((ma.length : Int) - 1)),
     (fun (v_ : Value) (W : World) => ∃ (b43 : Nat) (o44 : Nat), v_ = .pointer (some ⟨b43, o44, none⟩) ∧ SElem W b43 o44 (.int .u32 ((ma.getD (((ma.length : Int) - 1 : Int).toNat) 0 : Nat) : Int))),
     ve (.int .u32 ((ma.getD (((ma.length : Int) - 1 : Int).toNat) 0 : Nat) : Int)),
     ve (.bool true),
     ve (.bool true),
     ve (.bool true),
     ve (.bool true),
     ve (.bool true)] hs19 (.eq (.eq (.eq (.eq (.eq (.eq (.eq (.eq (.eq (.eq (.eq (.eq (.eq (.eq (.eq (.eq (.eq (.eq (.cons (fun v W W' hn ⟨b43, o44, he, h0⟩ => ⟨b43, o44, he, h0.new_ hn⟩) (.eq (.eq (.eq (.eq (.eq (.eq (.nil)))))))))))))))))))))))))) ?_ ?_
  refine .o1 (tk rfl rfl fun _ w hn k => ⟨_, v_move rfl (k.fx 3 h22), rfl⟩) ?_
  refine .o1 (tk rfl rfl fun _ w hn k => ⟨_, v_bin rfl (k.eq1 0 7 rfl) rfl (fun _ => rfl) (r_leqK ht26), rfl⟩) ?_
  refine .o1 (tk rfl rfl fun _ w hn k => ⟨_, v_move rfl (k.eq1 1 8 rfl), rfl⟩) ?_
  refine .o1 (tg rfl rfl rfl (fun _ _ k => k.eq1 2 9 rfl) fun _ w hn k => ⟨_, v_move rfl (k.fx 3 h22), rfl⟩) ?_
  refine .o1 (tg rfl rfl rfl (fun _ _ k => k.eq1 2 9 rfl) fun _ w hn k => ⟨_, v_bin rfl (k.eq1 3 10 rfl) rfl (fun _ => rfl) (r_eql ht27), rfl⟩) ?_
  refine .o1 (tg rfl rfl rfl (fun _ _ k => k.eq1 2 9 rfl) fun _ w hn k => ⟨_, v_move rfl (k.eq1 4 11 rfl), rfl⟩) ?_
  refine .o1 (sk rfl rfl rfl (fun _ _ _ k => k.eq1 5 12 rfl) (fun _ => rfl)) ?_
  refine .o1 (sk rfl rfl rfl (fun _ _ _ k => k.eq1 5 12 rfl) (fun _ => rfl)) ?_
  refine .o1 (sk rfl rfl rfl (fun _ _ _ k => k.eq1 5 12 rfl) (fun _ => rfl)) ?_
  refine .o1 (tg rfl rfl rfl (fun _ _ k => k.eq1 2 9 rfl) fun _ w hn k => ⟨_, v_pickF rfl (k.eq1 5 12 rfl) rfl, rfl⟩) ?_
  refine .o1 (tg rfl rfl rfl (fun _ _ k => k.eq1 2 9 rfl) fun _ w hn k => ⟨_, v_move rfl (k.eq1 9 16 rfl), rfl⟩) ?_
  refine .o1 (tg rfl rfl rfl (fun _ _ k => k.eq1 10 17 rfl) fun _ w hn k => ⟨_, v_move rfl (k.fx 3 h22), rfl⟩) ?_
  refine .o1 (tg rfl rfl rfl (fun _ _ k => k.eq1 10 17 rfl) fun _ w hn k => ⟨_, v_bin rfl (k.eq1 11 18 rfl) rfl (fun _ => rfl) (r_gtrK ht63), rfl⟩) ?_
  refine .o1 (tg rfl rfl rfl (fun _ _ k => k.eq1 10 17 rfl) fun _ w hn k => ⟨_, v_move rfl (k.eq1 12 19 rfl), rfl⟩) ?_
  refine .o1 (tg rfl rfl rfl (fun _ _ k => k.eq1 13 20 rfl) fun _ w hn k => ⟨_, v_field rfl (k.fx 1 h21) (fun w => rfl), rfl⟩) ?_
  refine .o1 (tg rfl rfl rfl (fun _ _ k => k.eq1 13 20 rfl) fun _ w hn k => ⟨_, v_load rfl (k.eq1 14 21 rfl) (l_one Try.isAgg24 ((hb23.new_ hn).cell 1)), rfl⟩) ?_
  refine .o1 (tg rfl rfl rfl (fun _ _ k => k.eq1 13 20 rfl) fun _ w hn k => ⟨_, v_move rfl (k.fx 3 h22), rfl⟩) ?_
  refine .o1 (tg rfl rfl rfl (fun _ _ k => k.eq1 13 20 rfl) fun _ w hn k => ⟨_, v_bin rfl (k.eq1 16 23 rfl) rfl (fun _ => rfl) (r_sub rfl (by omega)), rfl⟩) ?_
  refine .o1 (tg rfl rfl rfl (fun _ _ k => k.eq1 13 20 rfl) fun _ w hn k => (by
        exact x_eaddr (k := .u32) rfl elW (k.eq1 15 22 rfl) (k.eq1 17 24 rfl) (hra.new_ (hN24.transNew hn)) (by omega) fun b41 o42 hme => ⟨b41, o42, rfl, hme⟩)) ?_
  refine .o1 (tg rfl rfl rfl (fun _ _ k => k.eq1 13 20 rfl) fun _ w hn k => (by
        obtain ⟨b45, o46, e47, hx48⟩ : (fun (v_ : Value) (W : World) => ∃ (b43 : Nat) (o44 : Nat), v_ = .pointer (some ⟨b43, o44, none⟩) ∧ SElem W b43 o44 (.int .u32 ((ma.getD (((ma.length : Int) - 1 : Int).toNat) 0 : Nat) : Int))) _ _ := k.dep 18 25 (by kernel_rfl) (by kernel_rfl)
        exact ⟨_, v_load rfl e47 (l_one Try.isAgg56 hx48.1), rfl⟩)) ?_
  refine .o1 (tg rfl rfl rfl (fun _ _ k => k.eq1 13 20 rfl) fun _ w hn k => ⟨_, v_bin rfl (k.eq1 19 26 rfl) rfl (fun _ => rfl) (r_neq ht72), rfl⟩) ?_
  refine .o1 (tg rfl rfl rfl (fun _ _ k => k.eq1 10 17 rfl) fun _ w hn k => ⟨_, v_pickT rfl (k.eq1 13 20 rfl) (k.eq1 20 27 rfl), rfl⟩) ?_
  refine .o1 (tg rfl rfl rfl (fun _ _ k => k.eq1 2 9 rfl) fun _ w hn k => ⟨_, v_pickF rfl (k.eq1 10 17 rfl) (k.eq1 21 28 rfl), rfl⟩) ?_
  refine .o1 (tk rfl rfl fun _ w hn k => ⟨_, v_pickT rfl (k.eq1 2 9 rfl) (k.eq1 22 29 rfl), rfl⟩) ?_
  refine .o1 (tk rfl rfl fun _ w hn k => ⟨_, v_assign rfl (k.eq1 23 30 rfl), rfl⟩) ?_
  exact .nil
  intro a81 w82 hn83 ha84
  obtain ⟨hs85, hd86, hN88⟩ := aft ha84 hs19 hd20 hN24 hn83
  have h87 := ha84.ge 24 2 rfl
  refine st_nil (hK25 _ _ ?_)
  refine wp_ret (ret_k hd86 (v := .bool true) (res_t rfl h87 _) ?_)
  have hix : ((ma.length : Int) - 1).toNat = ma.length - 1 := by omega
  have q8 : decide (ma.length ≤ 8) = true := decide_eq_true (by omega)
  have q0 : decide (ma.length = 0) = false := decide_eq_false (by omega)
  have q1 : decide (0 < ma.length) = true := decide_eq_true (by omega)
  rw [hix] at ht72d
  have q2 : decide (ma.getD (ma.length - 1) 0 ≠ 0) = true := decide_eq_true (by omega)
  refine ⟨?_, hN88⟩
  rw [show mayB a ma = true from by unfold mayB; simp only [q8, q0, q1, q2]; first | rfl | (exfalso; omega)]
  have ht26d := of_decide_eq_false ht26
  refine wp_g0 [true, true, true, true, true, true, true, true, true, true, true, true, true, true, true, true, true, true, true, true, true, true, true, true, true] [] 31
    [ve (iv (ma.length : Int)),
     ve (.bool false),
     ve (.bool false),
     ve undef,
     ve undef,
     ve undef,
     ve undef,
     ve undef,
     ve undef,
     ve undef,
     ve undef,
     ve undef,
     ve undef,
     ve undef,
     ve undef,
     ve undef,
     ve undef,
     ve undef,
     ve undef,
     ve undef,
     ve undef,
     ve undef,
     ve undef,
     ve (.bool false),
     ve (.bool false)] hs19 (.eq (.eq (.eq (.eq (.eq (.eq (.eq (.eq (.eq (.eq (.eq (.eq (.eq (.eq (.eq (.eq (.eq (.eq (.eq (.eq (.eq (.eq (.eq (.eq (.eq (.nil)))))))))))))))))))))))))) ?_ ?_
  refine .o1 (tk rfl rfl fun _ w hn k => ⟨_, v_move rfl (k.fx 3 h22), rfl⟩) ?_
  refine .o1 (tk rfl rfl fun _ w hn k => ⟨_, v_bin rfl (k.eq1 0 7 rfl) rfl (fun _ => rfl) (r_leqK ht26), rfl⟩) ?_
  refine .o1 (tk rfl rfl fun _ w hn k => ⟨_, v_move rfl (k.eq1 1 8 rfl), rfl⟩) ?_
  refine .o1 (sk rfl rfl rfl (fun _ _ _ k => k.eq1 2 9 rfl) (fun _ => rfl)) ?_
  refine .o1 (sk rfl rfl rfl (fun _ _ _ k => k.eq1 2 9 rfl) (fun _ => rfl)) ?_
  refine .o1 (sk rfl rfl rfl (fun _ _ _ k => k.eq1 2 9 rfl) (fun _ => rfl)) ?_
  refine .o1 (su rfl rfl rfl (fun _ _ _ k => k.eq1 5 12 rfl) (fun _ => rfl)) ?_
  refine .o1 (su rfl rfl rfl (fun _ _ _ k => k.eq1 5 12 rfl) (fun _ => rfl)) ?_
  refine .o1 (su rfl rfl rfl (fun _ _ _ k => k.eq1 5 12 rfl) (fun _ => rfl)) ?_
  refine .o1 (sk rfl rfl rfl (fun _ _ _ k => k.eq1 2 9 rfl) (fun _ => rfl)) ?_
  refine .o1 (sk rfl rfl rfl (fun _ _ _ k => k.eq1 2 9 rfl) (fun _ => rfl)) ?_
  refine .o1 (su rfl rfl rfl (fun _ _ _ k => k.eq1 10 17 rfl) (fun _ => rfl)) ?_
  refine .o1 (su rfl rfl rfl (fun _ _ _ k => k.eq1 10 17 rfl) (fun _ => rfl)) ?_
  refine .o1 (su rfl rfl rfl (fun _ _ _ k => k.eq1 10 17 rfl) (fun _ => rfl)) ?_
  refine .o1 (su rfl rfl rfl (fun _ _ _ k => k.eq1 13 20 rfl) (fun _ => rfl)) ?_
  refine .o1 (su rfl rfl rfl (fun _ _ _ k => k.eq1 13 20 rfl) (fun _ => rfl)) ?_
  refine .o1 (su rfl rfl rfl (fun _ _ _ k => k.eq1 13 20 rfl) (fun _ => rfl)) ?_
  refine .o1 (su rfl rfl rfl (fun _ _ _ k => k.eq1 13 20 rfl) (fun _ => rfl)) ?_
  refine .o1 (su rfl rfl rfl (fun _ _ _ k => k.eq1 13 20 rfl) (fun _ => rfl)) ?_
  refine .o1 (su rfl rfl rfl (fun _ _ _ k => k.eq1 13 20 rfl) (fun _ => rfl)) ?_
  refine .o1 (su rfl rfl rfl (fun _ _ _ k => k.eq1 13 20 rfl) (fun _ => rfl)) ?_
  refine .o1 (su rfl rfl rfl (fun _ _ _ k => k.eq1 10 17 rfl) (fun _ => rfl)) ?_
  refine .o1 (sk rfl rfl rfl (fun _ _ _ k => k.eq1 2 9 rfl) (fun _ => rfl)) ?_
  refine .o1 (tk rfl rfl fun _ w hn k => ⟨_, v_pickF rfl (k.eq1 2 9 rfl) rfl, rfl⟩) ?_
  refine .o1 (tk rfl rfl fun _ w hn k => ⟨_, v_assign rfl (k.eq1 23 30 rfl), rfl⟩) ?_
  exact .nil
  intro a89 w90 hn91 ha92
  obtain ⟨hs93, hd94, hN96⟩ := aft ha92 hs19 hd20 hN24 hn91
  have h95 := ha92.ge 24 2 rfl
  refine st_nil (hK25 _ _ ?_)
  refine wp_ret (ret_k hd94 (v := .bool false) (res_t rfl h95 _) ?_)
  have hix : ((ma.length : Int) - 1).toNat = ma.length - 1 := by omega
  have q8 : decide (ma.length ≤ 8) = false := decide_eq_false (by omega)
  refine ⟨?_, hN96⟩
  rw [show mayB a ma = false from by unfold mayB; simp only [q8]; first | rfl | (exfalso; omega)]
set_option maxHeartbeats 4000000 in
set_option maxRecDepth 100000 in
theorem zero_c (v : Vl) (Av : Option Addr) (cv : Nat) (Bv : Option Addr) (dv : Nat) (w : World) (hmv : SRow w .u32 Av v.mag cv) (hsv : SRow w .u16 Bv v.s dv) : Calls Try.prog 42 #[vv v Av cv Bv dv] w (IsRet (.bool (zeroV v)) w) := by
  refine enter_abs Try.func42 rfl fun a0 hs0 hd0 hp => ?_
  have hs0 : a0.tmps.size = 31 := hs0
  have hN0 : New w w := Upd.refl _ _
  have hp0 : a0.eval (.tmp 0) = vv v Av cv Bv dv := hp 0 _ rfl
  refine wp_seq_k fun K1 hK1 => ?_
  refine wp_g [true, true] [] [] 31
    [IsNew w 29 [iv v.k, iv v.nk, iv v.nn, .bool v.neg, sv Av v.mag cv, sv Bv v.s dv, iv v.ref],
     ve (.bool false)]
    [0] (newsCons (fun v w h => IsNew.old h) newsNil) hs0 (.nw (.eq (.nil))) ?_ (fun i h => by cases h) ?_
  refine .o2 (step_allocN (cs := [iv v.k, iv v.nk, iv v.nn, .bool v.neg, sv Av v.mag cv, sv Bv v.s dv, iv v.ref]) (t := 29) rfl (noG rfl) (fun _ w hn k => v_box rfl (k.fx 0 hp0) (fun w => rfl)) (fun q _ hq hb => ⟨q, rfl, hq, hb⟩)) ?_
  refine .o1 (tk rfl rfl fun _ w hn k => ⟨_, v_assign rfl rfl, rfl⟩) ?_
  exact .nil
  intro a2 w3 hn4 ha5
  obtain ⟨hs6, hd7, hN13⟩ := aft ha5 hs0 hd0 hN0 hn4
  obtain ⟨q9, h8, hq10, hb11⟩ : IsNew _ _ _ _ _ := ha5.got 0 1 rfl (by kernel_rfl)
  have hq12 := Nat.le_trans hN0.size hq10
  refine st_nil (hK1 _ _ ?_)
  refine wp_seq_k fun K14 hK14 => ?_
  rcases Bool.eq_false_or_eq_true (decide (v.nk = 0)) with ht15 | ht15
  have ht15d := of_decide_eq_true ht15
  rcases Bool.eq_false_or_eq_true (decide (v.nn = 0)) with ht16 | ht16
  have ht16d := of_decide_eq_true ht16
  rcases Bool.eq_false_or_eq_true (v.neg) with ht17 | ht17
  refine wp_g0 [true, true, true, true, true, true, true, true, true, true, true, true, true, true, true, true, true, true, true, true, true, true, true, true, true, true, true, true, true] [] 31
    [ve (.pointer (some ⟨q9, 1, none⟩)),
     ve (nv (Nm.mk v.nk v.nn)),
     ve (nv (Nm.mk 0 0)),
     ve (.bool true),
     ve (.bool true),
     ve (.pointer (some ⟨q9, 3, none⟩)),
     ve (.pointer (some ⟨q9, 3, none⟩)),
     ve (.bool true),
     ve (.bool false),
     ve (.bool false),
     ve (.bool false),
     ve undef,
     ve undef,
     ve undef,
     ve undef,
     ve undef,
     ve (.bool false),
     ve (.bool false),
     ve undef,
     ve undef,
     ve undef,
     ve undef,
     ve (.bool false),
     ve (.bool false),
     ve undef,
     ve undef,
     ve undef,
     ve (.bool false),
     ve (.bool false)] hs6 (.eq (.eq (.eq (.eq (.eq (.eq (.eq (.eq (.eq (.eq (.eq (.eq (.eq (.eq (.eq (.eq (.eq (.eq (.eq (.eq (.eq (.eq (.eq (.eq (.eq (.eq (.eq (.eq (.eq (.nil)))))))))))))))))))))))))))))) ?_ ?_
  refine .o1 (tk rfl rfl fun _ w hn k => ⟨_, v_field rfl (k.fx 1 h8) (fun w => rfl), rfl⟩) ?_
  refine .o1 (tk rfl rfl fun _ w hn k => ⟨_, v_load rfl (k.eq1 0 3 rfl) (l_part Try.isAgg23 Try.sizeOf23 (hb11.new_ hn) (Nat.le_of_ble_eq_true rfl)), rfl⟩) ?_
  refine .o1 (tk rfl rfl fun _ w hn k => ⟨_, v_build (ps := []) rfl parts0 (by kernel_rfl), rfl⟩) ?_
  refine .o1 (tk rfl rfl fun _ w hn k => ⟨_, v_bin rfl (k.eq1 1 4 rfl) (k.eq1 2 5 rfl) (gNum _ _ _ _) (eqlNum _ _ _ _ (by show (decide (v.nk = 0) && decide (v.nn = 0)) = true; simp [ht15, ht16])), rfl⟩) ?_
  refine .o1 (tk rfl rfl fun _ w hn k => ⟨_, v_move rfl (k.eq1 3 6 rfl), rfl⟩) ?_
  refine .o1 (tg rfl rfl rfl (fun _ _ k => k.eq1 4 7 rfl) fun _ w hn k => ⟨_, v_field rfl (k.fx 1 h8) (fun w => rfl), rfl⟩) ?_
  refine .o1 (tg rfl rfl rfl (fun _ _ k => k.eq1 4 7 rfl) fun _ w hn k => ⟨_, v_field rfl (k.eq1 5 8 rfl) (fun w => rfl), rfl⟩) ?_
  refine .o1 (tg rfl rfl rfl (fun _ _ k => k.eq1 4 7 rfl) fun _ w hn k => ⟨_, v_load rfl (k.eq1 6 9 rfl) (l_one Try.isAgg4 ((hb11.new_ hn).cell 3)), congrArg Value.bool ht17⟩) ?_
  refine .o1 (tg rfl rfl rfl (fun _ _ k => k.eq1 4 7 rfl) fun _ w hn k => ⟨_, v_not rfl (k.eq1 7 10 rfl), rfl⟩) ?_
  refine .o1 (tk rfl rfl fun _ w hn k => ⟨_, v_pickT rfl (k.eq1 4 7 rfl) (k.eq1 8 11 rfl), rfl⟩) ?_
  refine .o1 (tk rfl rfl fun _ w hn k => ⟨_, v_move rfl (k.eq1 9 12 rfl), rfl⟩) ?_
  refine .o1 (sk rfl rfl rfl (fun _ _ _ k => k.eq1 10 13 rfl) (fun _ => rfl)) ?_
  refine .o1 (sk rfl rfl rfl (fun _ _ _ k => k.eq1 10 13 rfl) (fun _ => rfl)) ?_
  refine .o1 (sk rfl rfl rfl (fun _ _ _ k => k.eq1 10 13 rfl) (fun _ => rfl)) ?_
  refine .o1 (sk rfl rfl rfl (fun _ _ _ k => k.eq1 10 13 rfl) (fun _ => rfl)) ?_
  refine .o1 (sk rfl rfl rfl (fun _ _ _ k => k.eq1 10 13 rfl) (fun _ => rfl)) ?_
  refine .o1 (tk rfl rfl fun _ w hn k => ⟨_, v_pickF rfl (k.eq1 10 13 rfl) rfl, rfl⟩) ?_
  refine .o1 (tk rfl rfl fun _ w hn k => ⟨_, v_move rfl (k.eq1 16 19 rfl), rfl⟩) ?_
  refine .o1 (sk rfl rfl rfl (fun _ _ _ k => k.eq1 17 20 rfl) (fun _ => rfl)) ?_
  refine .o1 (sk rfl rfl rfl (fun _ _ _ k => k.eq1 17 20 rfl) (fun _ => rfl)) ?_
  refine .o1 (sk rfl rfl rfl (fun _ _ _ k => k.eq1 17 20 rfl) (fun _ => rfl)) ?_
  refine .o1 (sk rfl rfl rfl (fun _ _ _ k => k.eq1 17 20 rfl) (fun _ => rfl)) ?_
  refine .o1 (tk rfl rfl fun _ w hn k => ⟨_, v_pickF rfl (k.eq1 17 20 rfl) rfl, rfl⟩) ?_
  refine .o1 (tk rfl rfl fun _ w hn k => ⟨_, v_move rfl (k.eq1 22 25 rfl), rfl⟩) ?_
  refine .o1 (sk rfl rfl rfl (fun _ _ _ k => k.eq1 23 26 rfl) (fun _ => rfl)) ?_
  refine .o1 (sk rfl rfl rfl (fun _ _ _ k => k.eq1 23 26 rfl) (fun _ => rfl)) ?_
  refine .o1 (sk rfl rfl rfl (fun _ _ _ k => k.eq1 23 26 rfl) (fun _ => rfl)) ?_
  refine .o1 (tk rfl rfl fun _ w hn k => ⟨_, v_pickF rfl (k.eq1 23 26 rfl) rfl, rfl⟩) ?_
  refine .o1 (tk rfl rfl fun _ w hn k => ⟨_, v_assign rfl (k.eq1 27 30 rfl), rfl⟩) ?_
  exact .nil
  intro a18 w19 hn20 ha21
  obtain ⟨hs22, hd23, hN25⟩ := aft ha21 hs6 hd7 hN13 hn20
  have h24 := ha21.ge 28 2 rfl
  refine st_nil (hK14 _ _ ?_)
  refine wp_ret (ret_k hd23 (v := .bool false) (res_t rfl h24 _) ?_)
  refine ⟨?_, hN25⟩
  show Ending.returned (.bool false) = Ending.returned (.bool (zeroV v))
  first | rfl | (simp only [zeroV, ht15, ht16, ht17, bsm] <;> rfl) | (simp [zeroV, ht15, ht16, ht17]; done) | (exfalso; omega)
  rcases Bool.eq_false_or_eq_true (decide ((v.mag.length : Int) = 0)) with ht26 | ht26
  have ht26d := of_decide_eq_true ht26
  rcases Bool.eq_false_or_eq_true (decide ((v.s.length : Int) = 0)) with ht27 | ht27
  have ht27d := of_decide_eq_true ht27
  refine wp_g0 [true, true, true, true, true, true, true, true, true, true, true, true, true, true, true, true, true, true, true, true, true, true, true, true, true, true, true, true, true] [] 31
    [ve (.pointer (some ⟨q9, 1, none⟩)),
     ve (nv (Nm.mk v.nk v.nn)),
     ve (nv (Nm.mk 0 0)),
     ve (.bool true),
     ve (.bool true),
     ve (.pointer (some ⟨q9, 3, none⟩)),
     ve (.pointer (some ⟨q9, 3, none⟩)),
     ve (.bool false),
     ve (.bool true),
     ve (.bool true),
     ve (.bool true),
     ve (.pointer (some ⟨q9, 3, none⟩)),
     ve (.pointer (some ⟨q9, 4, none⟩)),
     ve (sv Av v.mag cv),
     ve (iv (v.mag.length : Int)),
     ve (.bool true),
     ve (.bool true),
     ve (.bool true),
     ve (.pointer (some ⟨q9, 5, none⟩)),
     ve (sv Bv v.s dv),
     ve (iv (v.s.length : Int)),
     ve (.bool true),
     ve (.bool true),
     ve (.bool true),
     ve (.pointer (some ⟨q9, 6, none⟩)),
     ve (iv v.ref),
     ve (.bool (decide (v.ref = 0))),
     ve (.bool (decide (v.ref = 0))),
     ve (.bool (decide (v.ref = 0)))] hs6 (.eq (.eq (.eq (.eq (.eq (.eq (.eq (.eq (.eq (.eq (.eq (.eq (.eq (.eq (.eq (.eq (.eq (.eq (.eq (.eq (.eq (.eq (.eq (.eq (.eq (.eq (.eq (.eq (.eq (.nil)))))))))))))))))))))))))))))) ?_ ?_
  refine .o1 (tk rfl rfl fun _ w hn k => ⟨_, v_field rfl (k.fx 1 h8) (fun w => rfl), rfl⟩) ?_
  refine .o1 (tk rfl rfl fun _ w hn k => ⟨_, v_load rfl (k.eq1 0 3 rfl) (l_part Try.isAgg23 Try.sizeOf23 (hb11.new_ hn) (Nat.le_of_ble_eq_true rfl)), rfl⟩) ?_
  refine .o1 (tk rfl rfl fun _ w hn k => ⟨_, v_build (ps := []) rfl parts0 (by kernel_rfl), rfl⟩) ?_
  refine .o1 (tk rfl rfl fun _ w hn k => ⟨_, v_bin rfl (k.eq1 1 4 rfl) (k.eq1 2 5 rfl) (gNum _ _ _ _) (eqlNum _ _ _ _ (by show (decide (v.nk = 0) && decide (v.nn = 0)) = true; simp [ht15, ht16])), rfl⟩) ?_
  refine .o1 (tk rfl rfl fun _ w hn k => ⟨_, v_move rfl (k.eq1 3 6 rfl), rfl⟩) ?_
  refine .o1 (tg rfl rfl rfl (fun _ _ k => k.eq1 4 7 rfl) fun _ w hn k => ⟨_, v_field rfl (k.fx 1 h8) (fun w => rfl), rfl⟩) ?_
  refine .o1 (tg rfl rfl rfl (fun _ _ k => k.eq1 4 7 rfl) fun _ w hn k => ⟨_, v_field rfl (k.eq1 5 8 rfl) (fun w => rfl), rfl⟩) ?_
  refine .o1 (tg rfl rfl rfl (fun _ _ k => k.eq1 4 7 rfl) fun _ w hn k => ⟨_, v_load rfl (k.eq1 6 9 rfl) (l_one Try.isAgg4 ((hb11.new_ hn).cell 3)), congrArg Value.bool ht17⟩) ?_
  refine .o1 (tg rfl rfl rfl (fun _ _ k => k.eq1 4 7 rfl) fun _ w hn k => ⟨_, v_not rfl (k.eq1 7 10 rfl), rfl⟩) ?_
  refine .o1 (tk rfl rfl fun _ w hn k => ⟨_, v_pickT rfl (k.eq1 4 7 rfl) (k.eq1 8 11 rfl), rfl⟩) ?_
  refine .o1 (tk rfl rfl fun _ w hn k => ⟨_, v_move rfl (k.eq1 9 12 rfl), rfl⟩) ?_
  refine .o1 (tg rfl rfl rfl (fun _ _ k => k.eq1 10 13 rfl) fun _ w hn k => ⟨_, v_field rfl (k.fx 1 h8) (fun w => rfl), rfl⟩) ?_
  refine .o1 (tg rfl rfl rfl (fun _ _ k => k.eq1 10 13 rfl) fun _ w hn k => ⟨_, v_field rfl (k.eq1 11 14 rfl) (fun w => rfl), rfl⟩) ?_
  refine .o1 (tg rfl rfl rfl (fun _ _ k => k.eq1 10 13 rfl) fun _ w hn k => ⟨_, v_load rfl (k.eq1 12 15 rfl) (l_one Try.isAgg24 ((hb11.new_ hn).cell 4)), rfl⟩) ?_
  refine .o1 (tg rfl rfl rfl (fun _ _ k => k.eq1 10 13 rfl) fun _ w hn k => ⟨_, v_lenR rfl elW (k.eq1 13 16 rfl), rfl⟩) ?_
  refine .o1 (tg rfl rfl rfl (fun _ _ k => k.eq1 10 13 rfl) fun _ w hn k => ⟨_, v_bin rfl (k.eq1 14 17 rfl) rfl (fun _ => rfl) (r_eql ht26), rfl⟩) ?_
  refine .o1 (tk rfl rfl fun _ w hn k => ⟨_, v_pickT rfl (k.eq1 10 13 rfl) (k.eq1 15 18 rfl), rfl⟩) ?_
  refine .o1 (tk rfl rfl fun _ w hn k => ⟨_, v_move rfl (k.eq1 16 19 rfl), rfl⟩) ?_
  refine .o1 (tg rfl rfl rfl (fun _ _ k => k.eq1 17 20 rfl) fun _ w hn k => ⟨_, v_field rfl (k.fx 1 h8) (fun w => rfl), rfl⟩) ?_
  refine .o1 (tg rfl rfl rfl (fun _ _ k => k.eq1 17 20 rfl) fun _ w hn k => ⟨_, v_load rfl (k.eq1 18 21 rfl) (l_one Try.isAgg27 ((hb11.new_ hn).cell 5)), rfl⟩) ?_
  refine .o1 (tg rfl rfl rfl (fun _ _ k => k.eq1 17 20 rfl) fun _ w hn k => ⟨_, v_lenR rfl elU (k.eq1 19 22 rfl), rfl⟩) ?_
  refine .o1 (tg rfl rfl rfl (fun _ _ k => k.eq1 17 20 rfl) fun _ w hn k => ⟨_, v_bin rfl (k.eq1 20 23 rfl) rfl (fun _ => rfl) (r_eql ht27), rfl⟩) ?_
  refine .o1 (tk rfl rfl fun _ w hn k => ⟨_, v_pickT rfl (k.eq1 17 20 rfl) (k.eq1 21 24 rfl), rfl⟩) ?_
  refine .o1 (tk rfl rfl fun _ w hn k => ⟨_, v_move rfl (k.eq1 22 25 rfl), rfl⟩) ?_
  refine .o1 (tg rfl rfl rfl (fun _ _ k => k.eq1 23 26 rfl) fun _ w hn k => ⟨_, v_field rfl (k.fx 1 h8) (fun w => rfl), rfl⟩) ?_
  refine .o1 (tg rfl rfl rfl (fun _ _ k => k.eq1 23 26 rfl) fun _ w hn k => ⟨_, v_load rfl (k.eq1 24 27 rfl) (l_one Try.isAgg3 ((hb11.new_ hn).cell 6)), rfl⟩) ?_
  refine .o1 (tg rfl rfl rfl (fun _ _ k => k.eq1 23 26 rfl) fun _ w hn k => ⟨_, v_bin rfl (k.eq1 25 28 rfl) rfl (fun _ => rfl) (r_eql rfl), rfl⟩) ?_
  refine .o1 (tk rfl rfl fun _ w hn k => ⟨_, v_pickT rfl (k.eq1 23 26 rfl) (k.eq1 26 29 rfl), rfl⟩) ?_
  refine .o1 (tk rfl rfl fun _ w hn k => ⟨_, v_assign rfl (k.eq1 27 30 rfl), rfl⟩) ?_
  exact .nil
  intro a28 w29 hn30 ha31
  obtain ⟨hs32, hd33, hN35⟩ := aft ha31 hs6 hd7 hN13 hn30
  have h34 := ha31.ge 28 2 rfl
  refine st_nil (hK14 _ _ ?_)
  refine wp_ret (ret_k hd33 (v := .bool (decide (v.ref = 0))) (res_t rfl h34 _) ?_)
  refine ⟨?_, hN35⟩
  show Ending.returned (.bool (decide (v.ref = 0))) = Ending.returned (.bool (zeroV v))
  first | rfl | (simp only [zeroV, ht15, ht16, ht17, ht26, ht27, bsm] <;> rfl) | (simp [zeroV, ht15, ht16, ht17, ht26, ht27]; done) | (exfalso; omega)
  have ht27d := of_decide_eq_false ht27
  refine wp_g0 [true, true, true, true, true, true, true, true, true, true, true, true, true, true, true, true, true, true, true, true, true, true, true, true, true, true, true, true, true] [] 31
    [ve (.pointer (some ⟨q9, 1, none⟩)),
     ve (nv (Nm.mk v.nk v.nn)),
     ve (nv (Nm.mk 0 0)),
     ve (.bool true),
     ve (.bool true),
     ve (.pointer (some ⟨q9, 3, none⟩)),
     ve (.pointer (some ⟨q9, 3, none⟩)),
     ve (.bool false),
     ve (.bool true),
     ve (.bool true),
     ve (.bool true),
     ve (.pointer (some ⟨q9, 3, none⟩)),
     ve (.pointer (some ⟨q9, 4, none⟩)),
     ve (sv Av v.mag cv),
     ve (iv (v.mag.length : Int)),
     ve (.bool true),
     ve (.bool true),
     ve (.bool true),
     ve (.pointer (some ⟨q9, 5, none⟩)),
     ve (sv Bv v.s dv),
     ve (iv (v.s.length : Int)),
     ve (.bool false),
     ve (.bool false),
     ve (.bool false),
     ve undef,
     ve undef,
     ve undef,
     ve (.bool false),
     ve (.bool false)] hs6 (.eq (.eq (.eq (.eq (.eq (.eq (.eq (.eq (.eq (.eq (.eq (.eq (.eq (.eq (.eq (.eq (.eq (.eq (.eq (.eq (.eq (.eq (.eq (.eq (.eq (.eq (.eq (.eq (.eq (.nil)))))))))))))))))))))))))))))) ?_ ?_
  refine .o1 (tk rfl rfl fun _ w hn k => ⟨_, v_field rfl (k.fx 1 h8) (fun w => rfl), rfl⟩) ?_
  refine .o1 (tk rfl rfl fun _ w hn k => ⟨_, v_load rfl (k.eq1 0 3 rfl) (l_part Try.isAgg23 Try.sizeOf23 (hb11.new_ hn) (Nat.le_of_ble_eq_true rfl)), rfl⟩) ?_
  refine .o1 (tk rfl rfl fun _ w hn k => ⟨_, v_build (ps := []) rfl parts0 (by kernel_rfl), rfl⟩) ?_
  refine .o1 (tk rfl rfl fun _ w hn k => ⟨_, v_bin rfl (k.eq1 1 4 rfl) (k.eq1 2 5 rfl) (gNum _ _ _ _) (eqlNum _ _ _ _ (by show (decide (v.nk = 0) && decide (v.nn = 0)) = true; simp [ht15, ht16])), rfl⟩) ?_
  refine .o1 (tk rfl rfl fun _ w hn k => ⟨_, v_move rfl (k.eq1 3 6 rfl), rfl⟩) ?_
  refine .o1 (tg rfl rfl rfl (fun _ _ k => k.eq1 4 7 rfl) fun _ w hn k => ⟨_, v_field rfl (k.fx 1 h8) (fun w => rfl), rfl⟩) ?_
  refine .o1 (tg rfl rfl rfl (fun _ _ k => k.eq1 4 7 rfl) fun _ w hn k => ⟨_, v_field rfl (k.eq1 5 8 rfl) (fun w => rfl), rfl⟩) ?_
  refine .o1 (tg rfl rfl rfl (fun _ _ k => k.eq1 4 7 rfl) fun _ w hn k => ⟨_, v_load rfl (k.eq1 6 9 rfl) (l_one Try.isAgg4 ((hb11.new_ hn).cell 3)), congrArg Value.bool ht17⟩) ?_
  refine .o1 (tg rfl rfl rfl (fun _ _ k => k.eq1 4 7 rfl) fun _ w hn k => ⟨_, v_not rfl (k.eq1 7 10 rfl), rfl⟩) ?_
  refine .o1 (tk rfl rfl fun _ w hn k => ⟨_, v_pickT rfl (k.eq1 4 7 rfl) (k.eq1 8 11 rfl), rfl⟩) ?_
  refine .o1 (tk rfl rfl fun _ w hn k => ⟨_, v_move rfl (k.eq1 9 12 rfl), rfl⟩) ?_
  refine .o1 (tg rfl rfl rfl (fun _ _ k => k.eq1 10 13 rfl) fun _ w hn k => ⟨_, v_field rfl (k.fx 1 h8) (fun w => rfl), rfl⟩) ?_
  refine .o1 (tg rfl rfl rfl (fun _ _ k => k.eq1 10 13 rfl) fun _ w hn k => ⟨_, v_field rfl (k.eq1 11 14 rfl) (fun w => rfl), rfl⟩) ?_
  refine .o1 (tg rfl rfl rfl (fun _ _ k => k.eq1 10 13 rfl) fun _ w hn k => ⟨_, v_load rfl (k.eq1 12 15 rfl) (l_one Try.isAgg24 ((hb11.new_ hn).cell 4)), rfl⟩) ?_
  refine .o1 (tg rfl rfl rfl (fun _ _ k => k.eq1 10 13 rfl) fun _ w hn k => ⟨_, v_lenR rfl elW (k.eq1 13 16 rfl), rfl⟩) ?_
  refine .o1 (tg rfl rfl rfl (fun _ _ k => k.eq1 10 13 rfl) fun _ w hn k => ⟨_, v_bin rfl (k.eq1 14 17 rfl) rfl (fun _ => rfl) (r_eql ht26), rfl⟩) ?_
  refine .o1 (tk rfl rfl fun _ w hn k => ⟨_, v_pickT rfl (k.eq1 10 13 rfl) (k.eq1 15 18 rfl), rfl⟩) ?_
  refine .o1 (tk rfl rfl fun _ w hn k => ⟨_, v_move rfl (k.eq1 16 19 rfl), rfl⟩) ?_
  refine .o1 (tg rfl rfl rfl (fun _ _ k => k.eq1 17 20 rfl) fun _ w hn k => ⟨_, v_field rfl (k.fx 1 h8) (fun w => rfl), rfl⟩) ?_
  refine .o1 (tg rfl rfl rfl (fun _ _ k => k.eq1 17 20 rfl) fun _ w hn k => ⟨_, v_load rfl (k.eq1 18 21 rfl) (l_one Try.isAgg27 ((hb11.new_ hn).cell 5)), rfl⟩) ?_
  refine .o1 (tg rfl rfl rfl (fun _ _ k => k.eq1 17 20 rfl) fun _ w hn k => ⟨_, v_lenR rfl elU (k.eq1 19 22 rfl), rfl⟩) ?_
  refine .o1 (tg rfl rfl rfl (fun _ _ k => k.eq1 17 20 rfl) fun _ w hn k => ⟨_, v_bin rfl (k.eq1 20 23 rfl) rfl (fun _ => rfl) (r_eql ht27), rfl⟩) ?_
  refine .o1 (tk rfl rfl fun _ w hn k => ⟨_, v_pickT rfl (k.eq1 17 20 rfl) (k.eq1 21 24 rfl), rfl⟩) ?_
  refine .o1 (tk rfl rfl fun _ w hn k => ⟨_, v_move rfl (k.eq1 22 25 rfl), rfl⟩) ?_
  refine .o1 (sk rfl rfl rfl (fun _ _ _ k => k.eq1 23 26 rfl) (fun _ => rfl)) ?_
  refine .o1 (sk rfl rfl rfl (fun _ _ _ k => k.eq1 23 26 rfl) (fun _ => rfl)) ?_
  refine .o1 (sk rfl rfl rfl (fun _ _ _ k => k.eq1 23 26 rfl) (fun _ => rfl)) ?_
  refine .o1 (tk rfl rfl fun _ w hn k => ⟨_, v_pickF rfl (k.eq1 23 26 rfl) rfl, rfl⟩) ?_
  refine .o1 (tk rfl rfl fun _ w hn k => ⟨_, v_assign rfl (k.eq1 27 30 rfl), rfl⟩) ?_
  exact .nil
  intro a36 w37 hn38 ha39
  obtain ⟨hs40, hd41, hN43⟩ := aft ha39 hs6 hd7 hN13 hn38
  have h42 := ha39.ge 28 2 rfl
  refine st_nil (hK14 _ _ ?_)
  refine wp_ret (ret_k hd41 (v := .bool false) (res_t rfl h42 _) ?_)
  refine ⟨?_, hN43⟩
  show Ending.returned (.bool false) = Ending.returned (.bool (zeroV v))
  first | rfl | (simp only [zeroV, ht15, ht16, ht17, ht26, ht27, bsm] <;> rfl) | (simp [zeroV, ht15, ht16, ht17, ht26, ht27]; done) | (exfalso; omega)
  have ht26d := of_decide_eq_false ht26
  refine wp_g0 [true, true, true, true, true, true, true, true, true, true, true, true, true, true, true, true, true, true, true, true, true, true, true, true, true, true, true, true, true] [] 31
    [ve (.pointer (some ⟨q9, 1, none⟩)),
     ve (nv (Nm.mk v.nk v.nn)),
     ve (nv (Nm.mk 0 0)),
     ve (.bool true),
     ve (.bool true),
     ve (.pointer (some ⟨q9, 3, none⟩)),
     ve (.pointer (some ⟨q9, 3, none⟩)),
     ve (.bool false),
     ve (.bool true),
     ve (.bool true),
     ve (.bool true),
     ve (.pointer (some ⟨q9, 3, none⟩)),
     ve (.pointer (some ⟨q9, 4, none⟩)),
     ve (sv Av v.mag cv),
     ve (iv (v.mag.length : Int)),
     ve (.bool false),
     ve (.bool false),
     ve (.bool false),
     ve undef,
     ve undef,
     ve undef,
     ve undef,
     ve (.bool false),
     ve (.bool false),
     ve undef,
     ve undef,
     ve undef,
     ve (.bool false),
     ve (.bool false)] hs6 (.eq (.eq (.eq (.eq (.eq (.eq (.eq (.eq (.eq (.eq (.eq (.eq (.eq (.eq (.eq (.eq (.eq (.eq (.eq (.eq (.eq (.eq (.eq (.eq (.eq (.eq (.eq (.eq (.eq (.nil)))))))))))))))))))))))))))))) ?_ ?_
  refine .o1 (tk rfl rfl fun _ w hn k => ⟨_, v_field rfl (k.fx 1 h8) (fun w => rfl), rfl⟩) ?_
  refine .o1 (tk rfl rfl fun _ w hn k => ⟨_, v_load rfl (k.eq1 0 3 rfl) (l_part Try.isAgg23 Try.sizeOf23 (hb11.new_ hn) (Nat.le_of_ble_eq_true rfl)), rfl⟩) ?_
  refine .o1 (tk rfl rfl fun _ w hn k => ⟨_, v_build (ps := []) rfl parts0 (by kernel_rfl), rfl⟩) ?_
  refine .o1 (tk rfl rfl fun _ w hn k => ⟨_, v_bin rfl (k.eq1 1 4 rfl) (k.eq1 2 5 rfl) (gNum _ _ _ _) (eqlNum _ _ _ _ (by show (decide (v.nk = 0) && decide (v.nn = 0)) = true; simp [ht15, ht16])), rfl⟩) ?_
  refine .o1 (tk rfl rfl fun _ w hn k => ⟨_, v_move rfl (k.eq1 3 6 rfl), rfl⟩) ?_
  refine .o1 (tg rfl rfl rfl (fun _ _ k => k.eq1 4 7 rfl) fun _ w hn k => ⟨_, v_field rfl (k.fx 1 h8) (fun w => rfl), rfl⟩) ?_
  refine .o1 (tg rfl rfl rfl (fun _ _ k => k.eq1 4 7 rfl) fun _ w hn k => ⟨_, v_field rfl (k.eq1 5 8 rfl) (fun w => rfl), rfl⟩) ?_
  refine .o1 (tg rfl rfl rfl (fun _ _ k => k.eq1 4 7 rfl) fun _ w hn k => ⟨_, v_load rfl (k.eq1 6 9 rfl) (l_one Try.isAgg4 ((hb11.new_ hn).cell 3)), congrArg Value.bool ht17⟩) ?_
  refine .o1 (tg rfl rfl rfl (fun _ _ k => k.eq1 4 7 rfl) fun _ w hn k => ⟨_, v_not rfl (k.eq1 7 10 rfl), rfl⟩) ?_
  refine .o1 (tk rfl rfl fun _ w hn k => ⟨_, v_pickT rfl (k.eq1 4 7 rfl) (k.eq1 8 11 rfl), rfl⟩) ?_
  refine .o1 (tk rfl rfl fun _ w hn k => ⟨_, v_move rfl (k.eq1 9 12 rfl), rfl⟩) ?_
  refine .o1 (tg rfl rfl rfl (fun _ _ k => k.eq1 10 13 rfl) fun _ w hn k => ⟨_, v_field rfl (k.fx 1 h8) (fun w => rfl), rfl⟩) ?_
  refine .o1 (tg rfl rfl rfl (fun _ _ k => k.eq1 10 13 rfl) fun _ w hn k => ⟨_, v_field rfl (k.eq1 11 14 rfl) (fun w => rfl), rfl⟩) ?_
  refine .o1 (tg rfl rfl rfl (fun _ _ k => k.eq1 10 13 rfl) fun _ w hn k => ⟨_, v_load rfl (k.eq1 12 15 rfl) (l_one Try.isAgg24 ((hb11.new_ hn).cell 4)), rfl⟩) ?_
  refine .o1 (tg rfl rfl rfl (fun _ _ k => k.eq1 10 13 rfl) fun _ w hn k => ⟨_, v_lenR rfl elW (k.eq1 13 16 rfl), rfl⟩) ?_
  refine .o1 (tg rfl rfl rfl (fun _ _ k => k.eq1 10 13 rfl) fun _ w hn k => ⟨_, v_bin rfl (k.eq1 14 17 rfl) rfl (fun _ => rfl) (r_eql ht26), rfl⟩) ?_
  refine .o1 (tk rfl rfl fun _ w hn k => ⟨_, v_pickT rfl (k.eq1 10 13 rfl) (k.eq1 15 18 rfl), rfl⟩) ?_
  refine .o1 (tk rfl rfl fun _ w hn k => ⟨_, v_move rfl (k.eq1 16 19 rfl), rfl⟩) ?_
  refine .o1 (sk rfl rfl rfl (fun _ _ _ k => k.eq1 17 20 rfl) (fun _ => rfl)) ?_
  refine .o1 (sk rfl rfl rfl (fun _ _ _ k => k.eq1 17 20 rfl) (fun _ => rfl)) ?_
  refine .o1 (sk rfl rfl rfl (fun _ _ _ k => k.eq1 17 20 rfl) (fun _ => rfl)) ?_
  refine .o1 (sk rfl rfl rfl (fun _ _ _ k => k.eq1 17 20 rfl) (fun _ => rfl)) ?_
  refine .o1 (tk rfl rfl fun _ w hn k => ⟨_, v_pickF rfl (k.eq1 17 20 rfl) rfl, rfl⟩) ?_
  refine .o1 (tk rfl rfl fun _ w hn k => ⟨_, v_move rfl (k.eq1 22 25 rfl), rfl⟩) ?_
  refine .o1 (sk rfl rfl rfl (fun _ _ _ k => k.eq1 23 26 rfl) (fun _ => rfl)) ?_
  refine .o1 (sk rfl rfl rfl (fun _ _ _ k => k.eq1 23 26 rfl) (fun _ => rfl)) ?_
  refine .o1 (sk rfl rfl rfl (fun _ _ _ k => k.eq1 23 26 rfl) (fun _ => rfl)) ?_
  refine .o1 (tk rfl rfl fun _ w hn k => ⟨_, v_pickF rfl (k.eq1 23 26 rfl) rfl, rfl⟩) ?_
  refine .o1 (tk rfl rfl fun _ w hn k => ⟨_, v_assign rfl (k.eq1 27 30 rfl), rfl⟩) ?_
  exact .nil
  intro a44 w45 hn46 ha47
  obtain ⟨hs48, hd49, hN51⟩ := aft ha47 hs6 hd7 hN13 hn46
  have h50 := ha47.ge 28 2 rfl
  refine st_nil (hK14 _ _ ?_)
  refine wp_ret (ret_k hd49 (v := .bool false) (res_t rfl h50 _) ?_)
  refine ⟨?_, hN51⟩
  show Ending.returned (.bool false) = Ending.returned (.bool (zeroV v))
  first | rfl | (simp only [zeroV, ht15, ht16, ht17, ht26, bsm] <;> rfl) | (simp [zeroV, ht15, ht16, ht17, ht26]; done) | (exfalso; omega)
  have ht16d := of_decide_eq_false ht16
  refine wp_g0 [true, true, true, true, true, true, true, true, true, true, true, true, true, true, true, true, true, true, true, true, true, true, true, true, true, true, true, true, true] [] 31
    [ve (.pointer (some ⟨q9, 1, none⟩)),
     ve (nv (Nm.mk v.nk v.nn)),
     ve (nv (Nm.mk 0 0)),
     ve (.bool false),
     ve (.bool false),
     ve undef,
     ve undef,
     ve undef,
     ve undef,
     ve (.bool false),
     ve (.bool false),
     ve undef,
     ve undef,
     ve undef,
     ve undef,
     ve undef,
     ve (.bool false),
     ve (.bool false),
     ve undef,
     ve undef,
     ve undef,
     ve undef,
     ve (.bool false),
     ve (.bool false),
     ve undef,
     ve undef,
     ve undef,
     ve (.bool false),
     ve (.bool false)] hs6 (.eq (.eq (.eq (.eq (.eq (.eq (.eq (.eq (.eq (.eq (.eq (.eq (.eq (.eq (.eq (.eq (.eq (.eq (.eq (.eq (.eq (.eq (.eq (.eq (.eq (.eq (.eq (.eq (.eq (.nil)))))))))))))))))))))))))))))) ?_ ?_
  refine .o1 (tk rfl rfl fun _ w hn k => ⟨_, v_field rfl (k.fx 1 h8) (fun w => rfl), rfl⟩) ?_
  refine .o1 (tk rfl rfl fun _ w hn k => ⟨_, v_load rfl (k.eq1 0 3 rfl) (l_part Try.isAgg23 Try.sizeOf23 (hb11.new_ hn) (Nat.le_of_ble_eq_true rfl)), rfl⟩) ?_
  refine .o1 (tk rfl rfl fun _ w hn k => ⟨_, v_build (ps := []) rfl parts0 (by kernel_rfl), rfl⟩) ?_
  refine .o1 (tk rfl rfl fun _ w hn k => ⟨_, v_bin rfl (k.eq1 1 4 rfl) (k.eq1 2 5 rfl) (gNum _ _ _ _) (eqlNum _ _ _ _ (by show (decide (v.nk = 0) && decide (v.nn = 0)) = false; simp [ht15, ht16])), rfl⟩) ?_
  refine .o1 (tk rfl rfl fun _ w hn k => ⟨_, v_move rfl (k.eq1 3 6 rfl), rfl⟩) ?_
  refine .o1 (sk rfl rfl rfl (fun _ _ _ k => k.eq1 4 7 rfl) (fun _ => rfl)) ?_
  refine .o1 (sk rfl rfl rfl (fun _ _ _ k => k.eq1 4 7 rfl) (fun _ => rfl)) ?_
  refine .o1 (sk rfl rfl rfl (fun _ _ _ k => k.eq1 4 7 rfl) (fun _ => rfl)) ?_
  refine .o1 (sk rfl rfl rfl (fun _ _ _ k => k.eq1 4 7 rfl) (fun _ => rfl)) ?_
  refine .o1 (tk rfl rfl fun _ w hn k => ⟨_, v_pickF rfl (k.eq1 4 7 rfl) rfl, rfl⟩) ?_
  refine .o1 (tk rfl rfl fun _ w hn k => ⟨_, v_move rfl (k.eq1 9 12 rfl), rfl⟩) ?_
  refine .o1 (sk rfl rfl rfl (fun _ _ _ k => k.eq1 10 13 rfl) (fun _ => rfl)) ?_
  refine .o1 (sk rfl rfl rfl (fun _ _ _ k => k.eq1 10 13 rfl) (fun _ => rfl)) ?_
  refine .o1 (sk rfl rfl rfl (fun _ _ _ k => k.eq1 10 13 rfl) (fun _ => rfl)) ?_
  refine .o1 (sk rfl rfl rfl (fun _ _ _ k => k.eq1 10 13 rfl) (fun _ => rfl)) ?_
  refine .o1 (sk rfl rfl rfl (fun _ _ _ k => k.eq1 10 13 rfl) (fun _ => rfl)) ?_
  refine .o1 (tk rfl rfl fun _ w hn k => ⟨_, v_pickF rfl (k.eq1 10 13 rfl) rfl, rfl⟩) ?_
  refine .o1 (tk rfl rfl fun _ w hn k => ⟨_, v_move rfl (k.eq1 16 19 rfl), rfl⟩) ?_
  refine .o1 (sk rfl rfl rfl (fun _ _ _ k => k.eq1 17 20 rfl) (fun _ => rfl)) ?_
  refine .o1 (sk rfl rfl rfl (fun _ _ _ k => k.eq1 17 20 rfl) (fun _ => rfl)) ?_
  refine .o1 (sk rfl rfl rfl (fun _ _ _ k => k.eq1 17 20 rfl) (fun _ => rfl)) ?_
  refine .o1 (sk rfl rfl rfl (fun _ _ _ k => k.eq1 17 20 rfl) (fun _ => rfl)) ?_
  refine .o1 (tk rfl rfl fun _ w hn k => ⟨_, v_pickF rfl (k.eq1 17 20 rfl) rfl, rfl⟩) ?_
  refine .o1 (tk rfl rfl fun _ w hn k => ⟨_, v_move rfl (k.eq1 22 25 rfl), rfl⟩) ?_
  refine .o1 (sk rfl rfl rfl (fun _ _ _ k => k.eq1 23 26 rfl) (fun _ => rfl)) ?_
  refine .o1 (sk rfl rfl rfl (fun _ _ _ k => k.eq1 23 26 rfl) (fun _ => rfl)) ?_
  refine .o1 (sk rfl rfl rfl (fun _ _ _ k => k.eq1 23 26 rfl) (fun _ => rfl)) ?_
  refine .o1 (tk rfl rfl fun _ w hn k => ⟨_, v_pickF rfl (k.eq1 23 26 rfl) rfl, rfl⟩) ?_
  refine .o1 (tk rfl rfl fun _ w hn k => ⟨_, v_assign rfl (k.eq1 27 30 rfl), rfl⟩) ?_
  exact .nil
  intro a52 w53 hn54 ha55
  obtain ⟨hs56, hd57, hN59⟩ := aft ha55 hs6 hd7 hN13 hn54
  have h58 := ha55.ge 28 2 rfl
  refine st_nil (hK14 _ _ ?_)
  refine wp_ret (ret_k hd57 (v := .bool false) (res_t rfl h58 _) ?_)
  refine ⟨?_, hN59⟩
  show Ending.returned (.bool false) = Ending.returned (.bool (zeroV v))
  first | rfl | (simp only [zeroV, ht15, ht16, bsm] <;> rfl) | (simp [zeroV, ht15, ht16]; done) | (exfalso; omega)
  have ht15d := of_decide_eq_false ht15
  refine wp_g0 [true, true, true, true, true, true, true, true, true, true, true, true, true, true, true, true, true, true, true, true, true, true, true, true, true, true, true, true, true] [] 31
    [ve (.pointer (some ⟨q9, 1, none⟩)),
     ve (nv (Nm.mk v.nk v.nn)),
     ve (nv (Nm.mk 0 0)),
     ve (.bool false),
     ve (.bool false),
     ve undef,
     ve undef,
     ve undef,
     ve undef,
     ve (.bool false),
     ve (.bool false),
     ve undef,
     ve undef,
     ve undef,
     ve undef,
     ve undef,
     ve (.bool false),
     ve (.bool false),
     ve undef,
     ve undef,
     ve undef,
     ve undef,
     ve (.bool false),
     ve (.bool false),
     ve undef,
     ve undef,
     ve undef,
     ve (.bool false),
     ve (.bool false)] hs6 (.eq (.eq (.eq (.eq (.eq (.eq (.eq (.eq (.eq (.eq (.eq (.eq (.eq (.eq (.eq (.eq (.eq (.eq (.eq (.eq (.eq (.eq (.eq (.eq (.eq (.eq (.eq (.eq (.eq (.nil)))))))))))))))))))))))))))))) ?_ ?_
  refine .o1 (tk rfl rfl fun _ w hn k => ⟨_, v_field rfl (k.fx 1 h8) (fun w => rfl), rfl⟩) ?_
  refine .o1 (tk rfl rfl fun _ w hn k => ⟨_, v_load rfl (k.eq1 0 3 rfl) (l_part Try.isAgg23 Try.sizeOf23 (hb11.new_ hn) (Nat.le_of_ble_eq_true rfl)), rfl⟩) ?_
  refine .o1 (tk rfl rfl fun _ w hn k => ⟨_, v_build (ps := []) rfl parts0 (by kernel_rfl), rfl⟩) ?_
  refine .o1 (tk rfl rfl fun _ w hn k => ⟨_, v_bin rfl (k.eq1 1 4 rfl) (k.eq1 2 5 rfl) (gNum _ _ _ _) (eqlNum _ _ _ _ (by show (decide (v.nk = 0) && decide (v.nn = 0)) = false; simp [ht15])), rfl⟩) ?_
  refine .o1 (tk rfl rfl fun _ w hn k => ⟨_, v_move rfl (k.eq1 3 6 rfl), rfl⟩) ?_
  refine .o1 (sk rfl rfl rfl (fun _ _ _ k => k.eq1 4 7 rfl) (fun _ => rfl)) ?_
  refine .o1 (sk rfl rfl rfl (fun _ _ _ k => k.eq1 4 7 rfl) (fun _ => rfl)) ?_
  refine .o1 (sk rfl rfl rfl (fun _ _ _ k => k.eq1 4 7 rfl) (fun _ => rfl)) ?_
  refine .o1 (sk rfl rfl rfl (fun _ _ _ k => k.eq1 4 7 rfl) (fun _ => rfl)) ?_
  refine .o1 (tk rfl rfl fun _ w hn k => ⟨_, v_pickF rfl (k.eq1 4 7 rfl) rfl, rfl⟩) ?_
  refine .o1 (tk rfl rfl fun _ w hn k => ⟨_, v_move rfl (k.eq1 9 12 rfl), rfl⟩) ?_
  refine .o1 (sk rfl rfl rfl (fun _ _ _ k => k.eq1 10 13 rfl) (fun _ => rfl)) ?_
  refine .o1 (sk rfl rfl rfl (fun _ _ _ k => k.eq1 10 13 rfl) (fun _ => rfl)) ?_
  refine .o1 (sk rfl rfl rfl (fun _ _ _ k => k.eq1 10 13 rfl) (fun _ => rfl)) ?_
  refine .o1 (sk rfl rfl rfl (fun _ _ _ k => k.eq1 10 13 rfl) (fun _ => rfl)) ?_
  refine .o1 (sk rfl rfl rfl (fun _ _ _ k => k.eq1 10 13 rfl) (fun _ => rfl)) ?_
  refine .o1 (tk rfl rfl fun _ w hn k => ⟨_, v_pickF rfl (k.eq1 10 13 rfl) rfl, rfl⟩) ?_
  refine .o1 (tk rfl rfl fun _ w hn k => ⟨_, v_move rfl (k.eq1 16 19 rfl), rfl⟩) ?_
  refine .o1 (sk rfl rfl rfl (fun _ _ _ k => k.eq1 17 20 rfl) (fun _ => rfl)) ?_
  refine .o1 (sk rfl rfl rfl (fun _ _ _ k => k.eq1 17 20 rfl) (fun _ => rfl)) ?_
  refine .o1 (sk rfl rfl rfl (fun _ _ _ k => k.eq1 17 20 rfl) (fun _ => rfl)) ?_
  refine .o1 (sk rfl rfl rfl (fun _ _ _ k => k.eq1 17 20 rfl) (fun _ => rfl)) ?_
  refine .o1 (tk rfl rfl fun _ w hn k => ⟨_, v_pickF rfl (k.eq1 17 20 rfl) rfl, rfl⟩) ?_
  refine .o1 (tk rfl rfl fun _ w hn k => ⟨_, v_move rfl (k.eq1 22 25 rfl), rfl⟩) ?_
  refine .o1 (sk rfl rfl rfl (fun _ _ _ k => k.eq1 23 26 rfl) (fun _ => rfl)) ?_
  refine .o1 (sk rfl rfl rfl (fun _ _ _ k => k.eq1 23 26 rfl) (fun _ => rfl)) ?_
  refine .o1 (sk rfl rfl rfl (fun _ _ _ k => k.eq1 23 26 rfl) (fun _ => rfl)) ?_
  refine .o1 (tk rfl rfl fun _ w hn k => ⟨_, v_pickF rfl (k.eq1 23 26 rfl) rfl, rfl⟩) ?_
  refine .o1 (tk rfl rfl fun _ w hn k => ⟨_, v_assign rfl (k.eq1 27 30 rfl), rfl⟩) ?_
  exact .nil
  intro a60 w61 hn62 ha63
  obtain ⟨hs64, hd65, hN67⟩ := aft ha63 hs6 hd7 hN13 hn62
  have h66 := ha63.ge 28 2 rfl
  refine st_nil (hK14 _ _ ?_)
  refine wp_ret (ret_k hd65 (v := .bool false) (res_t rfl h66 _) ?_)
  refine ⟨?_, hN67⟩
  show Ending.returned (.bool false) = Ending.returned (.bool (zeroV v))
  first | rfl | (simp only [zeroV, ht15, bsm] <;> rfl) | (simp [zeroV, ht15]; done) | (exfalso; omega)
set_option maxHeartbeats 8000000 in
set_option maxRecDepth 100000 in
theorem vmay_c (v : Vl) (Av : Option Addr) (cv : Nat) (Bv : Option Addr) (dv : Nat) (w : World) (hmv : SRow w .u32 Av v.mag cv) (hsv : SRow w .u16 Bv v.s dv) : Calls Try.prog 25 #[vv v Av cv Bv dv] w (IsRet (.bool (mayV v)) w) := by
  refine enter_abs Try.func25 rfl fun a0 hs0 hd0 hp => ?_
  have hs0 : a0.tmps.size = 70 := hs0
  have hN0 : New w w := Upd.refl _ _
  have hp0 : a0.eval (.tmp 0) = vv v Av cv Bv dv := hp 0 _ rfl
  refine wp_seq_k fun K1 hK1 => ?_
  refine wp_g [true, true] [] [] 70
    [IsNew w 29 [iv v.k, iv v.nk, iv v.nn, .bool v.neg, sv Av v.mag cv, sv Bv v.s dv, iv v.ref],
     ve (.bool false)]
    [0] (newsCons (fun v w h => IsNew.old h) newsNil) hs0 (.nw (.eq (.nil))) ?_ (fun i h => by cases h) ?_
  refine .o2 (step_allocN (cs := [iv v.k, iv v.nk, iv v.nn, .bool v.neg, sv Av v.mag cv, sv Bv v.s dv, iv v.ref]) (t := 29) rfl (noG rfl) (fun _ w hn k => v_box rfl (k.fx 0 hp0) (fun w => rfl)) (fun q _ hq hb => ⟨q, rfl, hq, hb⟩)) ?_
  refine .o1 (tk rfl rfl fun _ w hn k => ⟨_, v_assign rfl rfl, rfl⟩) ?_
  exact .nil
  intro a2 w3 hn4 ha5
  obtain ⟨hs6, hd7, hN13⟩ := aft ha5 hs0 hd0 hN0 hn4
  obtain ⟨q9, h8, hq10, hb11⟩ : IsNew _ _ _ _ _ := ha5.got 0 1 rfl (by kernel_rfl)
  have hq12 := Nat.le_trans hN0.size hq10
  refine st_nil (hK1 _ _ ?_)
  refine wp_seq_k fun K14 hK14 => ?_
  refine wp_g [true, true, false] [] [(2, false)] 70
    [ve (vv v Av cv Bv dv),
     IsNew w3 29 [iv 0, iv 0, iv 0, .bool false, sv none ([]) 0, sv none ([]) 0, iv 0],
     vt]
    [1] (newsCons (fun v w h => IsNew.old h) newsNil) hs6 (.eq (.nw (.tt (.nil)))) ?_ (fun i h => by cases h) ?_
  refine .o1 (tk rfl rfl fun _ w hn k => ⟨_, v_load rfl (k.fx 1 h8) (l_agg Try.isAgg29 Try.sizeOf29 (hb11.new_ hn) rfl), rfl⟩) ?_
  refine .o2 (step_allocN (cs := [iv 0, iv 0, iv 0, .bool false, sv none ([]) 0, sv none ([]) 0, iv 0]) (t := 29) rfl (noG rfl) (fun _ w hn k => rfl) (fun q _ hq hb => ⟨q, rfl, hq, hb⟩)) ?_
  refine .off ?_
  exact .nil
  intro a15 w16 hn17 ha18
  obtain ⟨hs19, hd20, hN30⟩ := aft ha18 hs6 hd7 hN13 hn17
  have h21 := ha18.fx 1 h8
  have h22 := ha18.ge 0 4 rfl
  obtain ⟨q24, h23, hq25, hb26⟩ : IsNew _ _ _ _ _ := ha18.got 1 3 rfl (by kernel_rfl)
  have hb27 := hb11.new_ hn17
  have hne28 : q9 ≠ q24 := by have h1 := hb11.lt; have h2 := hq25; omega
  have hq29 := Nat.le_trans hN13.size hq25
  obtain ⟨w31, hst32, hb330, hu34, hf35⟩ := s_many (P := Try.prog) (t := 29) (i := 0) [iv v.k, iv v.nk, iv v.nn, .bool v.neg, sv Av v.mag cv, sv Bv v.s dv, iv v.ref] Try.sizeOf29 rfl rfl rfl hb26 (Nat.le_of_ble_eq_true rfl)
  have hb33 : Blk w31 q24 29 [iv v.k, iv v.nk, iv v.nn, .bool v.neg, sv Av v.mag cv, sv Bv v.s dv, iv v.ref] := hb330
  refine st_act rfl rfl fun K36 hL37 => a_store' rfl h23 h22 hst32 (hL37 _ _ trivial ?_)
  have hb38 := hf35 _ _ _ (hne28) hb27
  have hN39 := hN30.trans hu34 (fun k hk hkb => by subst hkb; omega)
  refine st_nil (hK14 _ _ ?_)
  refine wp_seq_k fun K40 hK40 => ?_
  refine wp_seq_k fun K41 hK41 => ?_
  refine wp_g0 [true, true] [] 70
    [ve (pv q9),
     ve (iv v.k)] hs19 (.eq (.eq (.nil))) ?_ ?_
  refine .o1 (tk rfl rfl fun _ w hn k => ⟨_, v_field rfl (k.fx 1 h21) (fun w => rfl), rfl⟩) ?_
  refine .o1 (tk rfl rfl fun _ w hn k => ⟨_, v_load rfl (k.eq1 0 5 rfl) (l_one Try.isAgg3 ((hb38.new_ hn).cell 0)), rfl⟩) ?_
  exact .nil
  intro a42 w43 hn44 ha45
  obtain ⟨hs46, hd47, hN53⟩ := aft ha45 hs19 hd20 hN39 hn44
  have h48 := ha45.fx 1 h21
  have h49 := ha45.fx 3 h23
  have h50 := ha45.ge 1 6 rfl
  have hb51 := hb38.new_ hn44
  have hb52 := hb33.new_ hn44
  refine st_nil (hK41 _ _ ?_)
  refine wp_block ?_
  refine wp_seq_k fun K54 hK54 => ?_
  refine wp_seq_k fun K55 hK55 => ?_
  refine wp_g0 [true, true] [] 70
    [ve (.bool (decide (v.k = 0))),
     ve (.bool (decide (v.k = 0)))] hs46 (.eq (.eq (.nil))) ?_ ?_
  refine .o1 (tk rfl rfl fun _ w hn k => ⟨_, v_bin rfl (k.fx 6 h50) rfl (fun _ => rfl) (r_eql rfl), rfl⟩) ?_
  refine .o1 (tk rfl rfl fun _ w hn k => ⟨_, v_assign rfl (k.eq1 0 8 rfl), rfl⟩) ?_
  exact .nil
  intro a56 w57 hn58 ha59
  obtain ⟨hs60, hd61, hN68⟩ := aft ha59 hs46 hd47 hN53 hn58
  have h62 := ha59.fx 1 h48
  have h63 := ha59.fx 3 h49
  have h64 := ha59.fx 6 h50
  have h65 := ha59.ge 1 7 rfl
  have hb66 := hb51.new_ hn58
  have hb67 := hb52.new_ hn58
  refine st_nil (hK55 _ _ ?_)
  rcases Bool.eq_false_or_eq_true (decide (v.k = 0)) with ht69 | ht69
  have ht69d := of_decide_eq_true ht69
  have hv70 := hB h65 ht69
  refine wp_cond_true hv70 ?_
  refine wp_skip ?_
  refine hK54 _ _ ?_
  refine wp_cond_true hv70 ?_
  refine wp_seq_k fun K71 hK71 => ?_
  refine wp_g0 [true, true, true] [] 70
    [ve (vv v Av cv Bv dv),
     ve (.bool (zeroV v)),
     ve (.bool (zeroV v))] hs60 (.eq (.eq (.eq (.nil)))) ?_ ?_
  refine .o1 (tk rfl rfl fun _ w hn k => ⟨_, v_load rfl (k.fx 1 h62) (l_agg Try.isAgg29 Try.sizeOf29 (hb66.new_ hn) rfl), rfl⟩) ?_
  refine .o1 (ck rfl rfl rfl (fun _ w hn k => ⟨#[vv v Av cv Bv dv], args1 (k.eq1 0 10 rfl), fun _ => by kernel_rfl, zero_c v _ _ _ _ _ (hmv.new_ (hN68.transNew hn)) (hsv.new_ (hN68.transNew hn))⟩) fun _ => rfl) ?_
  refine .o1 (tk rfl rfl fun _ w hn k => ⟨_, v_assign rfl (k.eq1 1 11 rfl), rfl⟩) ?_
  exact .nil
  intro a72 w73 hn74 ha75
  obtain ⟨hs76, hd77, hN79⟩ := aft ha75 hs60 hd61 hN68 hn74
  have h78 := ha75.ge 2 2 rfl
  refine st_nil (hK71 _ _ ?_)
  refine wp_ret (ret_k hd77 (v := .bool (zeroV v)) (res_t rfl h78 _) ?_)
  refine ⟨?_, hN79⟩
  show Ending.returned (.bool (zeroV v)) = Ending.returned (.bool (mayV v))
  first | rfl | (simp only [mayV, ht69, bsm] <;> rfl) | (simp [mayV, ht69]; done) | (exfalso; omega)
  have ht69d := of_decide_eq_false ht69
  have hv80 := hB h65 ht69
  refine wp_cond_false hv80 ?_
  refine wp_g0 [true, true] [] 70
    [ve (.bool (decide (v.k = 1))),
     ve (.bool (decide (v.k = 1)))] hs60 (.eq (.eq (.nil))) ?_ ?_
  refine .o1 (tk rfl rfl fun _ w hn k => ⟨_, v_bin rfl (k.fx 6 h64) rfl (fun _ => rfl) (r_eql rfl), rfl⟩) ?_
  refine .o1 (tk rfl rfl fun _ w hn k => ⟨_, v_assign rfl (k.eq1 0 9 rfl), rfl⟩) ?_
  exact .nil
  intro a81 w82 hn83 ha84
  obtain ⟨hs85, hd86, hN93⟩ := aft ha84 hs60 hd61 hN68 hn83
  have h87 := ha84.fx 1 h62
  have h88 := ha84.fx 3 h63
  have h89 := ha84.fx 6 h64
  have h90 := ha84.ge 1 7 rfl
  have hb91 := hb66.new_ hn83
  have hb92 := hb67.new_ hn83
  refine st_nil (hK54 _ _ ?_)
  rcases Bool.eq_false_or_eq_true (decide (v.k = 1)) with ht94 | ht94
  have ht94d := of_decide_eq_true ht94
  have hv95 := hB h90 ht94
  refine wp_cond_true hv95 ?_
  refine wp_seq_k fun K96 hK96 => ?_
  refine wp_g0 [true, true, true] [] 70
    [ve (vv v Av cv Bv dv),
     ve (.bool (zeroV v)),
     ve (.bool (zeroV v))] hs85 (.eq (.eq (.eq (.nil)))) ?_ ?_
  refine .o1 (tk rfl rfl fun _ w hn k => ⟨_, v_load rfl (k.fx 1 h87) (l_agg Try.isAgg29 Try.sizeOf29 (hb91.new_ hn) rfl), rfl⟩) ?_
  refine .o1 (ck rfl rfl rfl (fun _ w hn k => ⟨#[vv v Av cv Bv dv], args1 (k.eq1 0 10 rfl), fun _ => by kernel_rfl, zero_c v _ _ _ _ _ (hmv.new_ (hN93.transNew hn)) (hsv.new_ (hN93.transNew hn))⟩) fun _ => rfl) ?_
  refine .o1 (tk rfl rfl fun _ w hn k => ⟨_, v_assign rfl (k.eq1 1 11 rfl), rfl⟩) ?_
  exact .nil
  intro a97 w98 hn99 ha100
  obtain ⟨hs101, hd102, hN104⟩ := aft ha100 hs85 hd86 hN93 hn99
  have h103 := ha100.ge 2 2 rfl
  refine st_nil (hK96 _ _ ?_)
  refine wp_ret (ret_k hd102 (v := .bool (zeroV v)) (res_t rfl h103 _) ?_)
  refine ⟨?_, hN104⟩
  show Ending.returned (.bool (zeroV v)) = Ending.returned (.bool (mayV v))
  first | rfl | (simp only [mayV, ht69, ht94, bsm] <;> rfl) | (simp [mayV, ht69, ht94]; done) | (exfalso; omega)
  have ht94d := of_decide_eq_false ht94
  have hv105 := hB h90 ht94
  refine wp_cond_false hv105 ?_
  refine wp_seq_k fun K106 hK106 => ?_
  refine wp_g0 [true, true] [] 70
    [ve (.bool (decide (v.k = 2))),
     ve (.bool (decide (v.k = 2)))] hs85 (.eq (.eq (.nil))) ?_ ?_
  refine .o1 (tk rfl rfl fun _ w hn k => ⟨_, v_bin rfl (k.fx 6 h89) rfl (fun _ => rfl) (r_eql rfl), rfl⟩) ?_
  refine .o1 (tk rfl rfl fun _ w hn k => ⟨_, v_assign rfl (k.eq1 0 13 rfl), rfl⟩) ?_
  exact .nil
  intro a107 w108 hn109 ha110
  obtain ⟨hs111, hd112, hN119⟩ := aft ha110 hs85 hd86 hN93 hn109
  have h113 := ha110.fx 1 h87
  have h114 := ha110.fx 3 h88
  have h115 := ha110.fx 6 h89
  have h116 := ha110.ge 1 12 rfl
  have hb117 := hb91.new_ hn109
  have hb118 := hb92.new_ hn109
  refine st_nil (hK106 _ _ ?_)
  rcases Bool.eq_false_or_eq_true (decide (v.k = 2)) with ht120 | ht120
  have ht120d := of_decide_eq_true ht120
  have hv121 := hB h116 ht120
  refine wp_cond_true hv121 ?_
  refine wp_seq_k fun K122 hK122 => ?_
  refine wp_g0 [true, false] [(1, false)] 70
    [ve (.pointer (some ⟨q24, 6, none⟩)),
     vt] hs111 (.eq (.tt (.nil))) ?_ ?_
  refine .o1 (tk rfl rfl fun _ w hn k => ⟨_, v_field rfl (k.fx 3 h114) (fun w => rfl), rfl⟩) ?_
  refine .off ?_
  exact .nil
  intro a123 w124 hn125 ha126
  obtain ⟨hs127, hd128, hN134⟩ := aft ha126 hs111 hd112 hN119 hn125
  have h129 := ha126.fx 1 h113
  have h130 := ha126.fx 3 h114
  have h131 := ha126.ge 0 14 rfl
  have hb132 := hb117.new_ hn125
  have hb133 := hb118.new_ hn125
  obtain ⟨w135, -, hst136, hb137, hu138, hf139⟩ := s_one (v := iv 0) (i := 6) Try.sizeOf3 rfl rfl hb133 (Nat.le_of_ble_eq_true rfl)
  refine st_act rfl rfl fun K140 hL141 => a_store' rfl h131 rfl hst136 (hL141 _ _ trivial ?_)
  have hb142 := hf139 _ _ _ (hne28) hb132
  have hN143 := hN134.trans hu138 (fun k hk hkb => by subst hkb; omega)
  refine st_nil (hK122 _ _ ?_)
  refine wp_seq_k fun K144 hK144 => ?_
  rcases Bool.eq_false_or_eq_true (zeroV (Vl.mk v.k v.nk v.nn v.neg v.mag v.s 0)) with ht145 | ht145
  rcases Bool.eq_false_or_eq_true (decide (v.ref = 0)) with ht146 | ht146
  have ht146d := of_decide_eq_true ht146
  refine wp_g0 [true, true, true, true, true, true, true, true, true, true, true, true, true] [] 70
    [ve (vv (Vl.mk v.k v.nk v.nn v.neg v.mag v.s 0) Av cv Bv dv),
     ve (.bool true),
     ve (.bool true),
     ve (.pointer (some ⟨q9, 6, none⟩)),
     ve (iv v.ref),
     ve (.bool true),
     ve (.bool true),
     ve undef,
     ve undef,
     ve undef,
     ve (.bool true),
     ve (.bool true),
     ve (.bool true)] hs127 (.eq (.eq (.eq (.eq (.eq (.eq (.eq (.eq (.eq (.eq (.eq (.eq (.eq (.nil)))))))))))))) ?_ ?_
  refine .o1 (tk rfl rfl fun _ w hn k => ⟨_, v_load rfl (k.fx 3 h130) (l_agg Try.isAgg29 Try.sizeOf29 (hb137.new_ hn) rfl), rfl⟩) ?_
  refine .o1 (ck rfl rfl rfl (fun _ w hn k => ⟨#[vv (Vl.mk v.k v.nk v.nn v.neg v.mag v.s 0) Av cv Bv dv], args1 (k.eq1 0 15 rfl), fun _ => by kernel_rfl, zero_c (Vl.mk v.k v.nk v.nn v.neg v.mag v.s 0) _ _ _ _ _ (hmv.new_ (hN143.transNew hn)) (hsv.new_ (hN143.transNew hn))⟩) fun _ => congrArg Value.bool ht145) ?_
  refine .o1 (tk rfl rfl fun _ w hn k => ⟨_, v_move rfl (k.eq1 1 16 rfl), rfl⟩) ?_
  refine .o1 (tg rfl rfl rfl (fun _ _ k => k.eq1 2 17 rfl) fun _ w hn k => ⟨_, v_field rfl (k.fx 1 h129) (fun w => rfl), rfl⟩) ?_
  refine .o1 (tg rfl rfl rfl (fun _ _ k => k.eq1 2 17 rfl) fun _ w hn k => ⟨_, v_load rfl (k.eq1 3 18 rfl) (l_one Try.isAgg3 ((hb142.new_ hn).cell 6)), rfl⟩) ?_
  refine .o1 (tg rfl rfl rfl (fun _ _ k => k.eq1 2 17 rfl) fun _ w hn k => ⟨_, v_bin rfl (k.eq1 4 19 rfl) rfl (fun _ => rfl) (r_eql ht146), rfl⟩) ?_
  refine .o1 (tg rfl rfl rfl (fun _ _ k => k.eq1 2 17 rfl) fun _ w hn k => ⟨_, v_move rfl (k.eq1 5 20 rfl), rfl⟩) ?_
  refine .o1 (sk rfl rfl rfl (fun _ _ _ k => k.eq1 6 21 rfl) (fun _ => rfl)) ?_
  refine .o1 (sk rfl rfl rfl (fun _ _ _ k => k.eq1 6 21 rfl) (fun _ => rfl)) ?_
  refine .o1 (sk rfl rfl rfl (fun _ _ _ k => k.eq1 6 21 rfl) (fun _ => rfl)) ?_
  refine .o1 (tg rfl rfl rfl (fun _ _ k => k.eq1 2 17 rfl) fun _ w hn k => ⟨_, v_pickT rfl (k.eq1 6 21 rfl) rfl, rfl⟩) ?_
  refine .o1 (tk rfl rfl fun _ w hn k => ⟨_, v_pickT rfl (k.eq1 2 17 rfl) (k.eq1 10 25 rfl), rfl⟩) ?_
  refine .o1 (tk rfl rfl fun _ w hn k => ⟨_, v_assign rfl (k.eq1 11 26 rfl), rfl⟩) ?_
  exact .nil
  intro a147 w148 hn149 ha150
  obtain ⟨hs151, hd152, hN154⟩ := aft ha150 hs127 hd128 hN143 hn149
  have h153 := ha150.ge 12 2 rfl
  refine st_nil (hK144 _ _ ?_)
  refine wp_ret (ret_k hd152 (v := .bool true) (res_t rfl h153 _) ?_)
  refine ⟨?_, hN154⟩
  show Ending.returned (.bool true) = Ending.returned (.bool (mayV v))
  first | rfl | (simp only [mayV, ht69, ht94, ht120, ht145, ht146, bsm] <;> rfl) | (simp [mayV, ht69, ht94, ht120, ht145, ht146]; done) | (exfalso; omega)
  have ht146d := of_decide_eq_false ht146
  refine wp_g0 [true, true, true, true, true, true, true, true, true, true, true, true, true] [] 70
    [ve (vv (Vl.mk v.k v.nk v.nn v.neg v.mag v.s 0) Av cv Bv dv),
     ve (.bool true),
     ve (.bool true),
     ve (.pointer (some ⟨q9, 6, none⟩)),
     ve (iv v.ref),
     ve (.bool false),
     ve (.bool false),
     ve (.pointer (some ⟨q9, 6, none⟩)),
     ve (iv v.ref),
     ve (.bool (decide (v.ref = 1))),
     ve (.bool (decide (v.ref = 1))),
     ve (.bool (decide (v.ref = 1))),
     ve (.bool (decide (v.ref = 1)))] hs127 (.eq (.eq (.eq (.eq (.eq (.eq (.eq (.eq (.eq (.eq (.eq (.eq (.eq (.nil)))))))))))))) ?_ ?_
  refine .o1 (tk rfl rfl fun _ w hn k => ⟨_, v_load rfl (k.fx 3 h130) (l_agg Try.isAgg29 Try.sizeOf29 (hb137.new_ hn) rfl), rfl⟩) ?_
  refine .o1 (ck rfl rfl rfl (fun _ w hn k => ⟨#[vv (Vl.mk v.k v.nk v.nn v.neg v.mag v.s 0) Av cv Bv dv], args1 (k.eq1 0 15 rfl), fun _ => by kernel_rfl, zero_c (Vl.mk v.k v.nk v.nn v.neg v.mag v.s 0) _ _ _ _ _ (hmv.new_ (hN143.transNew hn)) (hsv.new_ (hN143.transNew hn))⟩) fun _ => congrArg Value.bool ht145) ?_
  refine .o1 (tk rfl rfl fun _ w hn k => ⟨_, v_move rfl (k.eq1 1 16 rfl), rfl⟩) ?_
  refine .o1 (tg rfl rfl rfl (fun _ _ k => k.eq1 2 17 rfl) fun _ w hn k => ⟨_, v_field rfl (k.fx 1 h129) (fun w => rfl), rfl⟩) ?_
  refine .o1 (tg rfl rfl rfl (fun _ _ k => k.eq1 2 17 rfl) fun _ w hn k => ⟨_, v_load rfl (k.eq1 3 18 rfl) (l_one Try.isAgg3 ((hb142.new_ hn).cell 6)), rfl⟩) ?_
  refine .o1 (tg rfl rfl rfl (fun _ _ k => k.eq1 2 17 rfl) fun _ w hn k => ⟨_, v_bin rfl (k.eq1 4 19 rfl) rfl (fun _ => rfl) (r_eql ht146), rfl⟩) ?_
  refine .o1 (tg rfl rfl rfl (fun _ _ k => k.eq1 2 17 rfl) fun _ w hn k => ⟨_, v_move rfl (k.eq1 5 20 rfl), rfl⟩) ?_
  refine .o1 (tg rfl rfl rfl (fun _ _ k => k.eq1 6 21 rfl) fun _ w hn k => ⟨_, v_field rfl (k.fx 1 h129) (fun w => rfl), rfl⟩) ?_
  refine .o1 (tg rfl rfl rfl (fun _ _ k => k.eq1 6 21 rfl) fun _ w hn k => ⟨_, v_load rfl (k.eq1 7 22 rfl) (l_one Try.isAgg3 ((hb142.new_ hn).cell 6)), rfl⟩) ?_
  refine .o1 (tg rfl rfl rfl (fun _ _ k => k.eq1 6 21 rfl) fun _ w hn k => ⟨_, v_bin rfl (k.eq1 8 23 rfl) rfl (fun _ => rfl) (r_eql rfl), rfl⟩) ?_
  refine .o1 (tg rfl rfl rfl (fun _ _ k => k.eq1 2 17 rfl) fun _ w hn k => ⟨_, v_pickF rfl (k.eq1 6 21 rfl) (k.eq1 9 24 rfl), rfl⟩) ?_
  refine .o1 (tk rfl rfl fun _ w hn k => ⟨_, v_pickT rfl (k.eq1 2 17 rfl) (k.eq1 10 25 rfl), rfl⟩) ?_
  refine .o1 (tk rfl rfl fun _ w hn k => ⟨_, v_assign rfl (k.eq1 11 26 rfl), rfl⟩) ?_
  exact .nil
  intro a155 w156 hn157 ha158
  obtain ⟨hs159, hd160, hN162⟩ := aft ha158 hs127 hd128 hN143 hn157
  have h161 := ha158.ge 12 2 rfl
  refine st_nil (hK144 _ _ ?_)
  refine wp_ret (ret_k hd160 (v := .bool (decide (v.ref = 1))) (res_t rfl h161 _) ?_)
  refine ⟨?_, hN162⟩
  show Ending.returned (.bool (decide (v.ref = 1))) = Ending.returned (.bool (mayV v))
  first | rfl | (simp only [mayV, ht69, ht94, ht120, ht145, ht146, bsm] <;> rfl) | (simp [mayV, ht69, ht94, ht120, ht145, ht146]; done) | (exfalso; omega)
  refine wp_g0 [true, true, true, true, true, true, true, true, true, true, true, true, true] [] 70
    [ve (vv (Vl.mk v.k v.nk v.nn v.neg v.mag v.s 0) Av cv Bv dv),
     ve (.bool false),
     ve (.bool false),
     ve undef,
     ve undef,
     ve undef,
     ve undef,
     ve undef,
     ve undef,
     ve undef,
     ve undef,
     ve (.bool false),
     ve (.bool false)] hs127 (.eq (.eq (.eq (.eq (.eq (.eq (.eq (.eq (.eq (.eq (.eq (.eq (.eq (.nil)))))))))))))) ?_ ?_
  refine .o1 (tk rfl rfl fun _ w hn k => ⟨_, v_load rfl (k.fx 3 h130) (l_agg Try.isAgg29 Try.sizeOf29 (hb137.new_ hn) rfl), rfl⟩) ?_
  refine .o1 (ck rfl rfl rfl (fun _ w hn k => ⟨#[vv (Vl.mk v.k v.nk v.nn v.neg v.mag v.s 0) Av cv Bv dv], args1 (k.eq1 0 15 rfl), fun _ => by kernel_rfl, zero_c (Vl.mk v.k v.nk v.nn v.neg v.mag v.s 0) _ _ _ _ _ (hmv.new_ (hN143.transNew hn)) (hsv.new_ (hN143.transNew hn))⟩) fun _ => congrArg Value.bool ht145) ?_
  refine .o1 (tk rfl rfl fun _ w hn k => ⟨_, v_move rfl (k.eq1 1 16 rfl), rfl⟩) ?_
  refine .o1 (sk rfl rfl rfl (fun _ _ _ k => k.eq1 2 17 rfl) (fun _ => rfl)) ?_
  refine .o1 (sk rfl rfl rfl (fun _ _ _ k => k.eq1 2 17 rfl) (fun _ => rfl)) ?_
  refine .o1 (sk rfl rfl rfl (fun _ _ _ k => k.eq1 2 17 rfl) (fun _ => rfl)) ?_
  refine .o1 (sk rfl rfl rfl (fun _ _ _ k => k.eq1 2 17 rfl) (fun _ => rfl)) ?_
  refine .o1 (su rfl rfl rfl (fun _ _ _ k => k.eq1 6 21 rfl) (fun _ => rfl)) ?_
  refine .o1 (su rfl rfl rfl (fun _ _ _ k => k.eq1 6 21 rfl) (fun _ => rfl)) ?_
  refine .o1 (su rfl rfl rfl (fun _ _ _ k => k.eq1 6 21 rfl) (fun _ => rfl)) ?_
  refine .o1 (sk rfl rfl rfl (fun _ _ _ k => k.eq1 2 17 rfl) (fun _ => rfl)) ?_
  refine .o1 (tk rfl rfl fun _ w hn k => ⟨_, v_pickF rfl (k.eq1 2 17 rfl) rfl, rfl⟩) ?_
  refine .o1 (tk rfl rfl fun _ w hn k => ⟨_, v_assign rfl (k.eq1 11 26 rfl), rfl⟩) ?_
  exact .nil
  intro a163 w164 hn165 ha166
  obtain ⟨hs167, hd168, hN170⟩ := aft ha166 hs127 hd128 hN143 hn165
  have h169 := ha166.ge 12 2 rfl
  refine st_nil (hK144 _ _ ?_)
  refine wp_ret (ret_k hd168 (v := .bool false) (res_t rfl h169 _) ?_)
  refine ⟨?_, hN170⟩
  show Ending.returned (.bool false) = Ending.returned (.bool (mayV v))
  first | rfl | (simp only [mayV, ht69, ht94, ht120, ht145, bsm] <;> rfl) | (simp [mayV, ht69, ht94, ht120, ht145]; done) | (exfalso; omega)
  have ht120d := of_decide_eq_false ht120
  have hv171 := hB h116 ht120
  refine wp_cond_false hv171 ?_
  refine wp_seq_k fun K172 hK172 => ?_
  refine wp_g0 [true, true] [] 70
    [ve (.bool (decide (v.k = 3))),
     ve (.bool (decide (v.k = 3)))] hs111 (.eq (.eq (.nil))) ?_ ?_
  refine .o1 (tk rfl rfl fun _ w hn k => ⟨_, v_bin rfl (k.fx 6 h115) rfl (fun _ => rfl) (r_eql rfl), rfl⟩) ?_
  refine .o1 (tk rfl rfl fun _ w hn k => ⟨_, v_assign rfl (k.eq1 0 28 rfl), rfl⟩) ?_
  exact .nil
  intro a173 w174 hn175 ha176
  obtain ⟨hs177, hd178, hN185⟩ := aft ha176 hs111 hd112 hN119 hn175
  have h179 := ha176.fx 1 h113
  have h180 := ha176.fx 3 h114
  have h181 := ha176.fx 6 h115
  have h182 := ha176.ge 1 27 rfl
  have hb183 := hb117.new_ hn175
  have hb184 := hb118.new_ hn175
  refine st_nil (hK172 _ _ ?_)
  rcases Bool.eq_false_or_eq_true (decide (v.k = 3)) with ht186 | ht186
  have ht186d := of_decide_eq_true ht186
  have hv187 := hB h182 ht186
  refine wp_cond_true hv187 ?_
  refine wp_seq_k fun K188 hK188 => ?_
  refine wp_g0 [true, true, false] [(2, false)] 70
    [ve (nv (Nm.mk 0 0)),
     ve (.pointer (some ⟨q24, 1, none⟩)),
     vt] hs177 (.eq (.eq (.tt (.nil)))) ?_ ?_
  refine .o1 (tk rfl rfl fun _ w hn k => ⟨_, v_build (ps := []) rfl parts0 (by kernel_rfl), rfl⟩) ?_
  refine .o1 (tk rfl rfl fun _ w hn k => ⟨_, v_field rfl (k.fx 3 h180) (fun w => rfl), rfl⟩) ?_
  refine .off ?_
  exact .nil
  intro a189 w190 hn191 ha192
  obtain ⟨hs193, hd194, hN201⟩ := aft ha192 hs177 hd178 hN185 hn191
  have h195 := ha192.fx 1 h179
  have h196 := ha192.fx 3 h180
  have h197 := ha192.ge 0 29 rfl
  have h198 := ha192.ge 1 30 rfl
  have hb199 := hb183.new_ hn191
  have hb200 := hb184.new_ hn191
  obtain ⟨w202, hst203, hb2040, hu205, hf206⟩ := s_many (P := Try.prog) (t := 23) (i := 1) [iv 0, iv 0] Try.sizeOf23 rfl rfl rfl hb200 (Nat.le_of_ble_eq_true rfl)
  have hb204 : Blk w202 q24 29 [iv v.k, iv 0, iv 0, .bool v.neg, sv Av v.mag cv, sv Bv v.s dv, iv v.ref] := hb2040
  refine st_act rfl rfl fun K207 hL208 => a_store' rfl h198 h197 hst203 (hL208 _ _ trivial ?_)
  have hb209 := hf206 _ _ _ (hne28) hb199
  have hN210 := hN201.trans hu205 (fun k hk hkb => by subst hkb; omega)
  refine st_nil (hK188 _ _ ?_)
  refine wp_seq_k fun K211 hK211 => ?_
  rcases Bool.eq_false_or_eq_true (zeroV (Vl.mk v.k 0 0 v.neg v.mag v.s v.ref)) with ht212 | ht212
  refine wp_g0 [true, true, true, true, true, true, true, true] [] 70
    [ve (vv (Vl.mk v.k 0 0 v.neg v.mag v.s v.ref) Av cv Bv dv),
     ve (.bool true),
     ve (.bool true),
     ve (.pointer (some ⟨q9, 1, none⟩)),
     ve (nv (Nm.mk v.nk v.nn)),
     ve (.bool (nmayB (Nm.mk v.nk v.nn))),
     ve (.bool (nmayB (Nm.mk v.nk v.nn))),
     ve (.bool (nmayB (Nm.mk v.nk v.nn)))] hs193 (.eq (.eq (.eq (.eq (.eq (.eq (.eq (.eq (.nil))))))))) ?_ ?_
  refine .o1 (tk rfl rfl fun _ w hn k => ⟨_, v_load rfl (k.fx 3 h196) (l_agg Try.isAgg29 Try.sizeOf29 (hb204.new_ hn) rfl), rfl⟩) ?_
  refine .o1 (ck rfl rfl rfl (fun _ w hn k => ⟨#[vv (Vl.mk v.k 0 0 v.neg v.mag v.s v.ref) Av cv Bv dv], args1 (k.eq1 0 31 rfl), fun _ => by kernel_rfl, zero_c (Vl.mk v.k 0 0 v.neg v.mag v.s v.ref) _ _ _ _ _ (hmv.new_ (hN210.transNew hn)) (hsv.new_ (hN210.transNew hn))⟩) fun _ => congrArg Value.bool ht212) ?_
  refine .o1 (tk rfl rfl fun _ w hn k => ⟨_, v_move rfl (k.eq1 1 32 rfl), rfl⟩) ?_
  refine .o1 (tg rfl rfl rfl (fun _ _ k => k.eq1 2 33 rfl) fun _ w hn k => ⟨_, v_field rfl (k.fx 1 h195) (fun w => rfl), rfl⟩) ?_
  refine .o1 (tg rfl rfl rfl (fun _ _ k => k.eq1 2 33 rfl) fun _ w hn k => ⟨_, v_load rfl (k.eq1 3 34 rfl) (l_part Try.isAgg23 Try.sizeOf23 (hb209.new_ hn) (Nat.le_of_ble_eq_true rfl)), rfl⟩) ?_
  refine .o1 (cg rfl rfl rfl (fun _ _ k => k.eq1 2 33 rfl) rfl (fun _ w hn k => ⟨#[nv (Nm.mk v.nk v.nn)], args1 (k.eq1 4 35 rfl), fun _ => by kernel_rfl, may_c (Nm.mk v.nk v.nn) _ ⟩) fun _ => rfl) ?_
  refine .o1 (tk rfl rfl fun _ w hn k => ⟨_, v_pickT rfl (k.eq1 2 33 rfl) (k.eq1 5 36 rfl), rfl⟩) ?_
  refine .o1 (tk rfl rfl fun _ w hn k => ⟨_, v_assign rfl (k.eq1 6 37 rfl), rfl⟩) ?_
  exact .nil
  intro a213 w214 hn215 ha216
  obtain ⟨hs217, hd218, hN220⟩ := aft ha216 hs193 hd194 hN210 hn215
  have h219 := ha216.ge 7 2 rfl
  refine st_nil (hK211 _ _ ?_)
  refine wp_ret (ret_k hd218 (v := .bool (nmayB (Nm.mk v.nk v.nn))) (res_t rfl h219 _) ?_)
  refine ⟨?_, hN220⟩
  show Ending.returned (.bool (nmayB (Nm.mk v.nk v.nn))) = Ending.returned (.bool (mayV v))
  first | rfl | (simp only [mayV, ht69, ht94, ht120, ht186, ht212, bsm] <;> rfl) | (simp [mayV, ht69, ht94, ht120, ht186, ht212]; done) | (exfalso; omega)
  refine wp_g0 [true, true, true, true, true, true, true, true] [] 70
    [ve (vv (Vl.mk v.k 0 0 v.neg v.mag v.s v.ref) Av cv Bv dv),
     ve (.bool false),
     ve (.bool false),
     ve undef,
     ve undef,
     ve undef,
     ve (.bool false),
     ve (.bool false)] hs193 (.eq (.eq (.eq (.eq (.eq (.eq (.eq (.eq (.nil))))))))) ?_ ?_
  refine .o1 (tk rfl rfl fun _ w hn k => ⟨_, v_load rfl (k.fx 3 h196) (l_agg Try.isAgg29 Try.sizeOf29 (hb204.new_ hn) rfl), rfl⟩) ?_
  refine .o1 (ck rfl rfl rfl (fun _ w hn k => ⟨#[vv (Vl.mk v.k 0 0 v.neg v.mag v.s v.ref) Av cv Bv dv], args1 (k.eq1 0 31 rfl), fun _ => by kernel_rfl, zero_c (Vl.mk v.k 0 0 v.neg v.mag v.s v.ref) _ _ _ _ _ (hmv.new_ (hN210.transNew hn)) (hsv.new_ (hN210.transNew hn))⟩) fun _ => congrArg Value.bool ht212) ?_
  refine .o1 (tk rfl rfl fun _ w hn k => ⟨_, v_move rfl (k.eq1 1 32 rfl), rfl⟩) ?_
  refine .o1 (sk rfl rfl rfl (fun _ _ _ k => k.eq1 2 33 rfl) (fun _ => rfl)) ?_
  refine .o1 (sk rfl rfl rfl (fun _ _ _ k => k.eq1 2 33 rfl) (fun _ => rfl)) ?_
  refine .o1 (sk rfl rfl rfl (fun _ _ _ k => k.eq1 2 33 rfl) (fun _ => rfl)) ?_
  refine .o1 (tk rfl rfl fun _ w hn k => ⟨_, v_pickF rfl (k.eq1 2 33 rfl) rfl, rfl⟩) ?_
  refine .o1 (tk rfl rfl fun _ w hn k => ⟨_, v_assign rfl (k.eq1 6 37 rfl), rfl⟩) ?_
  exact .nil
  intro a221 w222 hn223 ha224
  obtain ⟨hs225, hd226, hN228⟩ := aft ha224 hs193 hd194 hN210 hn223
  have h227 := ha224.ge 7 2 rfl
  refine st_nil (hK211 _ _ ?_)
  refine wp_ret (ret_k hd226 (v := .bool false) (res_t rfl h227 _) ?_)
  refine ⟨?_, hN228⟩
  show Ending.returned (.bool false) = Ending.returned (.bool (mayV v))
  first | rfl | (simp only [mayV, ht69, ht94, ht120, ht186, ht212, bsm] <;> rfl) | (simp [mayV, ht69, ht94, ht120, ht186, ht212]; done) | (exfalso; omega)
  have ht186d := of_decide_eq_false ht186
  have hv229 := hB h182 ht186
  refine wp_cond_false hv229 ?_
  refine wp_seq_k fun K230 hK230 => ?_
  refine wp_g0 [true, true] [] 70
    [ve (.bool (decide (v.k = 4))),
     ve (.bool (decide (v.k = 4)))] hs177 (.eq (.eq (.nil))) ?_ ?_
  refine .o1 (tk rfl rfl fun _ w hn k => ⟨_, v_bin rfl (k.fx 6 h181) rfl (fun _ => rfl) (r_eql rfl), rfl⟩) ?_
  refine .o1 (tk rfl rfl fun _ w hn k => ⟨_, v_assign rfl (k.eq1 0 39 rfl), rfl⟩) ?_
  exact .nil
  intro a231 w232 hn233 ha234
  obtain ⟨hs235, hd236, hN243⟩ := aft ha234 hs177 hd178 hN185 hn233
  have h237 := ha234.fx 1 h179
  have h238 := ha234.fx 3 h180
  have h239 := ha234.fx 6 h181
  have h240 := ha234.ge 1 38 rfl
  have hb241 := hb183.new_ hn233
  have hb242 := hb184.new_ hn233
  refine st_nil (hK230 _ _ ?_)
  rcases Bool.eq_false_or_eq_true (decide (v.k = 4)) with ht244 | ht244
  have ht244d := of_decide_eq_true ht244
  have hv245 := hB h240 ht244
  refine wp_cond_true hv245 ?_
  refine wp_seq_k fun K246 hK246 => ?_
  refine wp_g0 [true, true, false] [(2, false)] 70
    [ve (.agg #[.bool false, sv none ([]) 0]),
     ve (.pointer (some ⟨q24, 3, none⟩)),
     vt] hs235 (.eq (.eq (.tt (.nil)))) ?_ ?_
  refine .o1 (tk rfl rfl fun _ w hn k => ⟨_, v_build (ps := []) rfl parts0 (by kernel_rfl), rfl⟩) ?_
  refine .o1 (tk rfl rfl fun _ w hn k => ⟨_, v_field rfl (k.fx 3 h238) (fun w => rfl), rfl⟩) ?_
  refine .off ?_
  exact .nil
  intro a247 w248 hn249 ha250
  obtain ⟨hs251, hd252, hN259⟩ := aft ha250 hs235 hd236 hN243 hn249
  have h253 := ha250.fx 1 h237
  have h254 := ha250.fx 3 h238
  have h255 := ha250.ge 0 40 rfl
  have h256 := ha250.ge 1 41 rfl
  have hb257 := hb241.new_ hn249
  have hb258 := hb242.new_ hn249
  obtain ⟨w260, hst261, hb2620, hu263, hf264⟩ := s_many (P := Try.prog) (t := 26) (i := 3) [.bool false, sv none ([]) 0] Try.sizeOf26 rfl rfl rfl hb258 (Nat.le_of_ble_eq_true rfl)
  have hb262 : Blk w260 q24 29 [iv v.k, iv v.nk, iv v.nn, .bool false, sv none ([]) 0, sv Bv v.s dv, iv v.ref] := hb2620
  refine st_act rfl rfl fun K265 hL266 => a_store' rfl h256 h255 hst261 (hL266 _ _ trivial ?_)
  have hb267 := hf264 _ _ _ (hne28) hb257
  have hN268 := hN259.trans hu263 (fun k hk hkb => by subst hkb; omega)
  refine st_nil (hK246 _ _ ?_)
  refine wp_seq_k fun K269 hK269 => ?_
  rcases Bool.eq_false_or_eq_true (zeroV (Vl.mk v.k v.nk v.nn false [] v.s v.ref)) with ht270 | ht270
  refine wp_g0 [true, true, true, true, true, true, true, true] [] 70
    [ve (vv (Vl.mk v.k v.nk v.nn false [] v.s v.ref) none 0 Bv dv),
     ve (.bool true),
     ve (.bool true),
     ve (.pointer (some ⟨q9, 3, none⟩)),
     ve (.agg #[.bool v.neg, sv Av v.mag cv]),
     ve (.bool (mayB v.neg v.mag)),
     ve (.bool (mayB v.neg v.mag)),
     ve (.bool (mayB v.neg v.mag))] hs251 (.eq (.eq (.eq (.eq (.eq (.eq (.eq (.eq (.nil))))))))) ?_ ?_
  refine .o1 (tk rfl rfl fun _ w hn k => ⟨_, v_load rfl (k.fx 3 h254) (l_agg Try.isAgg29 Try.sizeOf29 (hb262.new_ hn) rfl), rfl⟩) ?_
  refine .o1 (ck rfl rfl rfl (fun _ w hn k => ⟨#[vv (Vl.mk v.k v.nk v.nn false [] v.s v.ref) none 0 Bv dv], args1 (k.eq1 0 42 rfl), fun _ => by kernel_rfl, zero_c (Vl.mk v.k v.nk v.nn false [] v.s v.ref) _ _ _ _ _ (SRow.nil _ _) (hsv.new_ (hN268.transNew hn))⟩) fun _ => congrArg Value.bool ht270) ?_
  refine .o1 (tk rfl rfl fun _ w hn k => ⟨_, v_move rfl (k.eq1 1 43 rfl), rfl⟩) ?_
  refine .o1 (tg rfl rfl rfl (fun _ _ k => k.eq1 2 44 rfl) fun _ w hn k => ⟨_, v_field rfl (k.fx 1 h253) (fun w => rfl), rfl⟩) ?_
  refine .o1 (tg rfl rfl rfl (fun _ _ k => k.eq1 2 44 rfl) fun _ w hn k => ⟨_, v_load rfl (k.eq1 3 45 rfl) (l_part Try.isAgg26 Try.sizeOf26 (hb267.new_ hn) (Nat.le_of_ble_eq_true rfl)), rfl⟩) ?_
  refine .o1 (cg rfl rfl rfl (fun _ _ k => k.eq1 2 44 rfl) rfl (fun _ w hn k => ⟨#[.agg #[.bool v.neg, sv Av v.mag cv]], args1 (k.eq1 4 46 rfl), fun _ => by kernel_rfl, bmay_c v.neg _ v.mag _ _ (hmv.new_ (hN268.transNew hn))⟩) fun _ => rfl) ?_
  refine .o1 (tk rfl rfl fun _ w hn k => ⟨_, v_pickT rfl (k.eq1 2 44 rfl) (k.eq1 5 47 rfl), rfl⟩) ?_
  refine .o1 (tk rfl rfl fun _ w hn k => ⟨_, v_assign rfl (k.eq1 6 48 rfl), rfl⟩) ?_
  exact .nil
  intro a271 w272 hn273 ha274
  obtain ⟨hs275, hd276, hN278⟩ := aft ha274 hs251 hd252 hN268 hn273
  have h277 := ha274.ge 7 2 rfl
  refine st_nil (hK269 _ _ ?_)
  refine wp_ret (ret_k hd276 (v := .bool (mayB v.neg v.mag)) (res_t rfl h277 _) ?_)
  refine ⟨?_, hN278⟩
  show Ending.returned (.bool (mayB v.neg v.mag)) = Ending.returned (.bool (mayV v))
  first | rfl | (simp only [mayV, ht69, ht94, ht120, ht186, ht244, ht270, bsm] <;> rfl) | (simp [mayV, ht69, ht94, ht120, ht186, ht244, ht270]; done) | (exfalso; omega)
  refine wp_g0 [true, true, true, true, true, true, true, true] [] 70
    [ve (vv (Vl.mk v.k v.nk v.nn false [] v.s v.ref) none 0 Bv dv),
     ve (.bool false),
     ve (.bool false),
     ve undef,
     ve undef,
     ve undef,
     ve (.bool false),
     ve (.bool false)] hs251 (.eq (.eq (.eq (.eq (.eq (.eq (.eq (.eq (.nil))))))))) ?_ ?_
  refine .o1 (tk rfl rfl fun _ w hn k => ⟨_, v_load rfl (k.fx 3 h254) (l_agg Try.isAgg29 Try.sizeOf29 (hb262.new_ hn) rfl), rfl⟩) ?_
  refine .o1 (ck rfl rfl rfl (fun _ w hn k => ⟨#[vv (Vl.mk v.k v.nk v.nn false [] v.s v.ref) none 0 Bv dv], args1 (k.eq1 0 42 rfl), fun _ => by kernel_rfl, zero_c (Vl.mk v.k v.nk v.nn false [] v.s v.ref) _ _ _ _ _ (SRow.nil _ _) (hsv.new_ (hN268.transNew hn))⟩) fun _ => congrArg Value.bool ht270) ?_
  refine .o1 (tk rfl rfl fun _ w hn k => ⟨_, v_move rfl (k.eq1 1 43 rfl), rfl⟩) ?_
  refine .o1 (sk rfl rfl rfl (fun _ _ _ k => k.eq1 2 44 rfl) (fun _ => rfl)) ?_
  refine .o1 (sk rfl rfl rfl (fun _ _ _ k => k.eq1 2 44 rfl) (fun _ => rfl)) ?_
  refine .o1 (sk rfl rfl rfl (fun _ _ _ k => k.eq1 2 44 rfl) (fun _ => rfl)) ?_
  refine .o1 (tk rfl rfl fun _ w hn k => ⟨_, v_pickF rfl (k.eq1 2 44 rfl) rfl, rfl⟩) ?_
  refine .o1 (tk rfl rfl fun _ w hn k => ⟨_, v_assign rfl (k.eq1 6 48 rfl), rfl⟩) ?_
  exact .nil
  intro a279 w280 hn281 ha282
  obtain ⟨hs283, hd284, hN286⟩ := aft ha282 hs251 hd252 hN268 hn281
  have h285 := ha282.ge 7 2 rfl
  refine st_nil (hK269 _ _ ?_)
  refine wp_ret (ret_k hd284 (v := .bool false) (res_t rfl h285 _) ?_)
  refine ⟨?_, hN286⟩
  show Ending.returned (.bool false) = Ending.returned (.bool (mayV v))
  first | rfl | (simp only [mayV, ht69, ht94, ht120, ht186, ht244, ht270, bsm] <;> rfl) | (simp [mayV, ht69, ht94, ht120, ht186, ht244, ht270]; done) | (exfalso; omega)
  have ht244d := of_decide_eq_false ht244
  have hv287 := hB h240 ht244
  refine wp_cond_false hv287 ?_
  refine wp_seq_k fun K288 hK288 => ?_
  refine wp_g0 [true, true] [] 70
    [ve (.bool (decide (v.k = 5))),
     ve (.bool (decide (v.k = 5)))] hs235 (.eq (.eq (.nil))) ?_ ?_
  refine .o1 (tk rfl rfl fun _ w hn k => ⟨_, v_bin rfl (k.fx 6 h239) rfl (fun _ => rfl) (r_eql rfl), rfl⟩) ?_
  refine .o1 (tk rfl rfl fun _ w hn k => ⟨_, v_assign rfl (k.eq1 0 50 rfl), rfl⟩) ?_
  exact .nil
  intro a289 w290 hn291 ha292
  obtain ⟨hs293, hd294, hN301⟩ := aft ha292 hs235 hd236 hN243 hn291
  have h295 := ha292.fx 1 h237
  have h296 := ha292.fx 3 h238
  have h297 := ha292.fx 6 h239
  have h298 := ha292.ge 1 49 rfl
  have hb299 := hb241.new_ hn291
  have hb300 := hb242.new_ hn291
  refine st_nil (hK288 _ _ ?_)
  rcases Bool.eq_false_or_eq_true (decide (v.k = 5)) with ht302 | ht302
  have ht302d := of_decide_eq_true ht302
  have hv303 := hB h298 ht302
  refine wp_cond_true hv303 ?_
  refine wp_seq_k fun K304 hK304 => ?_
  refine wp_g0 [true, false] [(1, false)] 70
    [ve (.pointer (some ⟨q24, 5, none⟩)),
     vt] hs293 (.eq (.tt (.nil))) ?_ ?_
  refine .o1 (tk rfl rfl fun _ w hn k => ⟨_, v_field rfl (k.fx 3 h296) (fun w => rfl), rfl⟩) ?_
  refine .off ?_
  exact .nil
  intro a305 w306 hn307 ha308
  obtain ⟨hs309, hd310, hN316⟩ := aft ha308 hs293 hd294 hN301 hn307
  have h311 := ha308.fx 1 h295
  have h312 := ha308.fx 3 h296
  have h313 := ha308.ge 0 51 rfl
  have hb314 := hb299.new_ hn307
  have hb315 := hb300.new_ hn307
  obtain ⟨w317, -, hst318, hb319, hu320, hf321⟩ := s_one (v := sv none ([]) 0) (i := 5) Try.sizeOf27 rfl rfl hb315 (Nat.le_of_ble_eq_true rfl)
  refine st_act rfl rfl fun K322 hL323 => a_store' rfl h313 rfl hst318 (hL323 _ _ trivial ?_)
  have hb324 := hf321 _ _ _ (hne28) hb314
  have hN325 := hN316.trans hu320 (fun k hk hkb => by subst hkb; omega)
  refine st_nil (hK304 _ _ ?_)
  refine wp_seq_k fun K326 hK326 => ?_
  rcases Bool.eq_false_or_eq_true (zeroV (Vl.mk v.k v.nk v.nn v.neg v.mag [] v.ref)) with ht327 | ht327
  refine wp_g0 [true, true, true, true, true, true, true, true, true] [] 70
    [ve (vv (Vl.mk v.k v.nk v.nn v.neg v.mag [] v.ref) Av cv none 0),
     ve (.bool true),
     ve (.bool true),
     ve (.pointer (some ⟨q9, 5, none⟩)),
     ve (sv Bv v.s dv),
     ve (iv (v.s.length : Int)),
     ve (.bool (decide ((v.s.length : Int) ≤ 4096))),
     ve (.bool (decide ((v.s.length : Int) ≤ 4096))),
     ve (.bool (decide ((v.s.length : Int) ≤ 4096)))] hs309 (.eq (.eq (.eq (.eq (.eq (.eq (.eq (.eq (.eq (.nil)))))))))) ?_ ?_
  refine .o1 (tk rfl rfl fun _ w hn k => ⟨_, v_load rfl (k.fx 3 h312) (l_agg Try.isAgg29 Try.sizeOf29 (hb319.new_ hn) rfl), rfl⟩) ?_
  refine .o1 (ck rfl rfl rfl (fun _ w hn k => ⟨#[vv (Vl.mk v.k v.nk v.nn v.neg v.mag [] v.ref) Av cv none 0], args1 (k.eq1 0 52 rfl), fun _ => by kernel_rfl, zero_c (Vl.mk v.k v.nk v.nn v.neg v.mag [] v.ref) _ _ _ _ _ (hmv.new_ (hN325.transNew hn)) (SRow.nil _ _)⟩) fun _ => congrArg Value.bool ht327) ?_
  refine .o1 (tk rfl rfl fun _ w hn k => ⟨_, v_move rfl (k.eq1 1 53 rfl), rfl⟩) ?_
  refine .o1 (tg rfl rfl rfl (fun _ _ k => k.eq1 2 54 rfl) fun _ w hn k => ⟨_, v_field rfl (k.fx 1 h311) (fun w => rfl), rfl⟩) ?_
  refine .o1 (tg rfl rfl rfl (fun _ _ k => k.eq1 2 54 rfl) fun _ w hn k => ⟨_, v_load rfl (k.eq1 3 55 rfl) (l_one Try.isAgg27 ((hb324.new_ hn).cell 5)), rfl⟩) ?_
  refine .o1 (tg rfl rfl rfl (fun _ _ k => k.eq1 2 54 rfl) fun _ w hn k => ⟨_, v_lenR rfl elU (k.eq1 4 56 rfl), rfl⟩) ?_
  refine .o1 (tg rfl rfl rfl (fun _ _ k => k.eq1 2 54 rfl) fun _ w hn k => ⟨_, v_bin rfl (k.eq1 5 57 rfl) rfl (fun _ => rfl) (r_leqK rfl), rfl⟩) ?_
  refine .o1 (tk rfl rfl fun _ w hn k => ⟨_, v_pickT rfl (k.eq1 2 54 rfl) (k.eq1 6 58 rfl), rfl⟩) ?_
  refine .o1 (tk rfl rfl fun _ w hn k => ⟨_, v_assign rfl (k.eq1 7 59 rfl), rfl⟩) ?_
  exact .nil
  intro a328 w329 hn330 ha331
  obtain ⟨hs332, hd333, hN335⟩ := aft ha331 hs309 hd310 hN325 hn330
  have h334 := ha331.ge 8 2 rfl
  refine st_nil (hK326 _ _ ?_)
  refine wp_ret (ret_k hd333 (v := .bool (decide ((v.s.length : Int) ≤ 4096))) (res_t rfl h334 _) ?_)
  refine ⟨?_, hN335⟩
  show Ending.returned (.bool (decide ((v.s.length : Int) ≤ 4096))) = Ending.returned (.bool (mayV v))
  first | rfl | (simp only [mayV, ht69, ht94, ht120, ht186, ht244, ht302, ht327, bsm] <;> rfl) | (simp [mayV, ht69, ht94, ht120, ht186, ht244, ht302, ht327]; done) | (exfalso; omega)
  refine wp_g0 [true, true, true, true, true, true, true, true, true] [] 70
    [ve (vv (Vl.mk v.k v.nk v.nn v.neg v.mag [] v.ref) Av cv none 0),
     ve (.bool false),
     ve (.bool false),
     ve undef,
     ve undef,
     ve undef,
     ve undef,
     ve (.bool false),
     ve (.bool false)] hs309 (.eq (.eq (.eq (.eq (.eq (.eq (.eq (.eq (.eq (.nil)))))))))) ?_ ?_
  refine .o1 (tk rfl rfl fun _ w hn k => ⟨_, v_load rfl (k.fx 3 h312) (l_agg Try.isAgg29 Try.sizeOf29 (hb319.new_ hn) rfl), rfl⟩) ?_
  refine .o1 (ck rfl rfl rfl (fun _ w hn k => ⟨#[vv (Vl.mk v.k v.nk v.nn v.neg v.mag [] v.ref) Av cv none 0], args1 (k.eq1 0 52 rfl), fun _ => by kernel_rfl, zero_c (Vl.mk v.k v.nk v.nn v.neg v.mag [] v.ref) _ _ _ _ _ (hmv.new_ (hN325.transNew hn)) (SRow.nil _ _)⟩) fun _ => congrArg Value.bool ht327) ?_
  refine .o1 (tk rfl rfl fun _ w hn k => ⟨_, v_move rfl (k.eq1 1 53 rfl), rfl⟩) ?_
  refine .o1 (sk rfl rfl rfl (fun _ _ _ k => k.eq1 2 54 rfl) (fun _ => rfl)) ?_
  refine .o1 (sk rfl rfl rfl (fun _ _ _ k => k.eq1 2 54 rfl) (fun _ => rfl)) ?_
  refine .o1 (sk rfl rfl rfl (fun _ _ _ k => k.eq1 2 54 rfl) (fun _ => rfl)) ?_
  refine .o1 (sk rfl rfl rfl (fun _ _ _ k => k.eq1 2 54 rfl) (fun _ => rfl)) ?_
  refine .o1 (tk rfl rfl fun _ w hn k => ⟨_, v_pickF rfl (k.eq1 2 54 rfl) rfl, rfl⟩) ?_
  refine .o1 (tk rfl rfl fun _ w hn k => ⟨_, v_assign rfl (k.eq1 7 59 rfl), rfl⟩) ?_
  exact .nil
  intro a336 w337 hn338 ha339
  obtain ⟨hs340, hd341, hN343⟩ := aft ha339 hs309 hd310 hN325 hn338
  have h342 := ha339.ge 8 2 rfl
  refine st_nil (hK326 _ _ ?_)
  refine wp_ret (ret_k hd341 (v := .bool false) (res_t rfl h342 _) ?_)
  refine ⟨?_, hN343⟩
  show Ending.returned (.bool false) = Ending.returned (.bool (mayV v))
  first | rfl | (simp only [mayV, ht69, ht94, ht120, ht186, ht244, ht302, ht327, bsm] <;> rfl) | (simp [mayV, ht69, ht94, ht120, ht186, ht244, ht302, ht327]; done) | (exfalso; omega)
  have ht302d := of_decide_eq_false ht302
  have hv344 := hB h298 ht302
  refine wp_cond_false hv344 ?_
  refine wp_seq_k fun K345 hK345 => ?_
  refine wp_g0 [true, true] [] 70
    [ve (.bool (decide (v.k = 6))),
     ve (.bool (decide (v.k = 6)))] hs293 (.eq (.eq (.nil))) ?_ ?_
  refine .o1 (tk rfl rfl fun _ w hn k => ⟨_, v_bin rfl (k.fx 6 h297) rfl (fun _ => rfl) (r_eql rfl), rfl⟩) ?_
  refine .o1 (tk rfl rfl fun _ w hn k => ⟨_, v_assign rfl (k.eq1 0 61 rfl), rfl⟩) ?_
  exact .nil
  intro a346 w347 hn348 ha349
  obtain ⟨hs350, hd351, hN357⟩ := aft ha349 hs293 hd294 hN301 hn348
  have h352 := ha349.fx 1 h295
  have h353 := ha349.fx 3 h296
  have h354 := ha349.ge 1 60 rfl
  have hb355 := hb299.new_ hn348
  have hb356 := hb300.new_ hn348
  refine st_nil (hK345 _ _ ?_)
  rcases Bool.eq_false_or_eq_true (decide (v.k = 6)) with ht358 | ht358
  have ht358d := of_decide_eq_true ht358
  have hv359 := hB h354 ht358
  refine wp_cond_true hv359 ?_
  refine wp_seq_k fun K360 hK360 => ?_
  refine wp_g0 [true, false] [(1, false)] 70
    [ve (.pointer (some ⟨q24, 6, none⟩)),
     vt] hs350 (.eq (.tt (.nil))) ?_ ?_
  refine .o1 (tk rfl rfl fun _ w hn k => ⟨_, v_field rfl (k.fx 3 h353) (fun w => rfl), rfl⟩) ?_
  refine .off ?_
  exact .nil
  intro a361 w362 hn363 ha364
  obtain ⟨hs365, hd366, hN372⟩ := aft ha364 hs350 hd351 hN357 hn363
  have h367 := ha364.fx 1 h352
  have h368 := ha364.fx 3 h353
  have h369 := ha364.ge 0 62 rfl
  have hb370 := hb355.new_ hn363
  have hb371 := hb356.new_ hn363
  obtain ⟨w373, -, hst374, hb375, hu376, hf377⟩ := s_one (v := iv 0) (i := 6) Try.sizeOf3 rfl rfl hb371 (Nat.le_of_ble_eq_true rfl)
  refine st_act rfl rfl fun K378 hL379 => a_store' rfl h369 rfl hst374 (hL379 _ _ trivial ?_)
  have hb380 := hf377 _ _ _ (hne28) hb370
  have hN381 := hN372.trans hu376 (fun k hk hkb => by subst hkb; omega)
  refine st_nil (hK360 _ _ ?_)
  refine wp_seq_k fun K382 hK382 => ?_
  rcases Bool.eq_false_or_eq_true (zeroV (Vl.mk v.k v.nk v.nn v.neg v.mag v.s 0)) with ht383 | ht383
  rcases Bool.eq_false_or_eq_true (decide (v.ref < 0)) with ht384 | ht384
  have ht384d := of_decide_eq_true ht384
  refine wp_g0 [true, true, true, true, true, true, true, true] [] 70
    [ve (vv (Vl.mk v.k v.nk v.nn v.neg v.mag v.s 0) Av cv Bv dv),
     ve (.bool true),
     ve (.bool true),
     ve (.pointer (some ⟨q9, 6, none⟩)),
     ve (iv v.ref),
     ve (.bool false),
     ve (.bool false),
     ve (.bool false)] hs365 (.eq (.eq (.eq (.eq (.eq (.eq (.eq (.eq (.nil))))))))) ?_ ?_
  refine .o1 (tk rfl rfl fun _ w hn k => ⟨_, v_load rfl (k.fx 3 h368) (l_agg Try.isAgg29 Try.sizeOf29 (hb375.new_ hn) rfl), rfl⟩) ?_
  refine .o1 (ck rfl rfl rfl (fun _ w hn k => ⟨#[vv (Vl.mk v.k v.nk v.nn v.neg v.mag v.s 0) Av cv Bv dv], args1 (k.eq1 0 63 rfl), fun _ => by kernel_rfl, zero_c (Vl.mk v.k v.nk v.nn v.neg v.mag v.s 0) _ _ _ _ _ (hmv.new_ (hN381.transNew hn)) (hsv.new_ (hN381.transNew hn))⟩) fun _ => congrArg Value.bool ht383) ?_
  refine .o1 (tk rfl rfl fun _ w hn k => ⟨_, v_move rfl (k.eq1 1 64 rfl), rfl⟩) ?_
  refine .o1 (tg rfl rfl rfl (fun _ _ k => k.eq1 2 65 rfl) fun _ w hn k => ⟨_, v_field rfl (k.fx 1 h367) (fun w => rfl), rfl⟩) ?_
  refine .o1 (tg rfl rfl rfl (fun _ _ k => k.eq1 2 65 rfl) fun _ w hn k => ⟨_, v_load rfl (k.eq1 3 66 rfl) (l_one Try.isAgg3 ((hb380.new_ hn).cell 6)), rfl⟩) ?_
  refine .o1 (tg rfl rfl rfl (fun _ _ k => k.eq1 2 65 rfl) fun _ w hn k => ⟨_, v_bin rfl (k.eq1 4 67 rfl) rfl (fun _ => rfl) (r_geqK ht384), rfl⟩) ?_
  refine .o1 (tk rfl rfl fun _ w hn k => ⟨_, v_pickT rfl (k.eq1 2 65 rfl) (k.eq1 5 68 rfl), rfl⟩) ?_
  refine .o1 (tk rfl rfl fun _ w hn k => ⟨_, v_assign rfl (k.eq1 6 69 rfl), rfl⟩) ?_
  exact .nil
  intro a385 w386 hn387 ha388
  obtain ⟨hs389, hd390, hN392⟩ := aft ha388 hs365 hd366 hN381 hn387
  have h391 := ha388.ge 7 2 rfl
  refine st_nil (hK382 _ _ ?_)
  refine wp_ret (ret_k hd390 (v := .bool false) (res_t rfl h391 _) ?_)
  refine ⟨?_, hN392⟩
  show Ending.returned (.bool false) = Ending.returned (.bool (mayV v))
  first | rfl | (simp only [mayV, ht69, ht94, ht120, ht186, ht244, ht302, ht358, ht383, ht384, bsm] <;> rfl) | (simp [mayV, ht69, ht94, ht120, ht186, ht244, ht302, ht358, ht383, ht384]; done) | (exfalso; omega)
  have ht384d := of_decide_eq_false ht384
  refine wp_g0 [true, true, true, true, true, true, true, true] [] 70
    [ve (vv (Vl.mk v.k v.nk v.nn v.neg v.mag v.s 0) Av cv Bv dv),
     ve (.bool true),
     ve (.bool true),
     ve (.pointer (some ⟨q9, 6, none⟩)),
     ve (iv v.ref),
     ve (.bool true),
     ve (.bool true),
     ve (.bool true)] hs365 (.eq (.eq (.eq (.eq (.eq (.eq (.eq (.eq (.nil))))))))) ?_ ?_
  refine .o1 (tk rfl rfl fun _ w hn k => ⟨_, v_load rfl (k.fx 3 h368) (l_agg Try.isAgg29 Try.sizeOf29 (hb375.new_ hn) rfl), rfl⟩) ?_
  refine .o1 (ck rfl rfl rfl (fun _ w hn k => ⟨#[vv (Vl.mk v.k v.nk v.nn v.neg v.mag v.s 0) Av cv Bv dv], args1 (k.eq1 0 63 rfl), fun _ => by kernel_rfl, zero_c (Vl.mk v.k v.nk v.nn v.neg v.mag v.s 0) _ _ _ _ _ (hmv.new_ (hN381.transNew hn)) (hsv.new_ (hN381.transNew hn))⟩) fun _ => congrArg Value.bool ht383) ?_
  refine .o1 (tk rfl rfl fun _ w hn k => ⟨_, v_move rfl (k.eq1 1 64 rfl), rfl⟩) ?_
  refine .o1 (tg rfl rfl rfl (fun _ _ k => k.eq1 2 65 rfl) fun _ w hn k => ⟨_, v_field rfl (k.fx 1 h367) (fun w => rfl), rfl⟩) ?_
  refine .o1 (tg rfl rfl rfl (fun _ _ k => k.eq1 2 65 rfl) fun _ w hn k => ⟨_, v_load rfl (k.eq1 3 66 rfl) (l_one Try.isAgg3 ((hb380.new_ hn).cell 6)), rfl⟩) ?_
  refine .o1 (tg rfl rfl rfl (fun _ _ k => k.eq1 2 65 rfl) fun _ w hn k => ⟨_, v_bin rfl (k.eq1 4 67 rfl) rfl (fun _ => rfl) (r_geqK ht384), rfl⟩) ?_
  refine .o1 (tk rfl rfl fun _ w hn k => ⟨_, v_pickT rfl (k.eq1 2 65 rfl) (k.eq1 5 68 rfl), rfl⟩) ?_
  refine .o1 (tk rfl rfl fun _ w hn k => ⟨_, v_assign rfl (k.eq1 6 69 rfl), rfl⟩) ?_
  exact .nil
  intro a393 w394 hn395 ha396
  obtain ⟨hs397, hd398, hN400⟩ := aft ha396 hs365 hd366 hN381 hn395
  have h399 := ha396.ge 7 2 rfl
  refine st_nil (hK382 _ _ ?_)
  refine wp_ret (ret_k hd398 (v := .bool true) (res_t rfl h399 _) ?_)
  refine ⟨?_, hN400⟩
  show Ending.returned (.bool true) = Ending.returned (.bool (mayV v))
  first | rfl | (simp only [mayV, ht69, ht94, ht120, ht186, ht244, ht302, ht358, ht383, ht384, bsm] <;> rfl) | (simp [mayV, ht69, ht94, ht120, ht186, ht244, ht302, ht358, ht383, ht384]; done) | (exfalso; omega)
  refine wp_g0 [true, true, true, true, true, true, true, true] [] 70
    [ve (vv (Vl.mk v.k v.nk v.nn v.neg v.mag v.s 0) Av cv Bv dv),
     ve (.bool false),
     ve (.bool false),
     ve undef,
     ve undef,
     ve undef,
     ve (.bool false),
     ve (.bool false)] hs365 (.eq (.eq (.eq (.eq (.eq (.eq (.eq (.eq (.nil))))))))) ?_ ?_
  refine .o1 (tk rfl rfl fun _ w hn k => ⟨_, v_load rfl (k.fx 3 h368) (l_agg Try.isAgg29 Try.sizeOf29 (hb375.new_ hn) rfl), rfl⟩) ?_
  refine .o1 (ck rfl rfl rfl (fun _ w hn k => ⟨#[vv (Vl.mk v.k v.nk v.nn v.neg v.mag v.s 0) Av cv Bv dv], args1 (k.eq1 0 63 rfl), fun _ => by kernel_rfl, zero_c (Vl.mk v.k v.nk v.nn v.neg v.mag v.s 0) _ _ _ _ _ (hmv.new_ (hN381.transNew hn)) (hsv.new_ (hN381.transNew hn))⟩) fun _ => congrArg Value.bool ht383) ?_
  refine .o1 (tk rfl rfl fun _ w hn k => ⟨_, v_move rfl (k.eq1 1 64 rfl), rfl⟩) ?_
  refine .o1 (sk rfl rfl rfl (fun _ _ _ k => k.eq1 2 65 rfl) (fun _ => rfl)) ?_
  refine .o1 (sk rfl rfl rfl (fun _ _ _ k => k.eq1 2 65 rfl) (fun _ => rfl)) ?_
  refine .o1 (sk rfl rfl rfl (fun _ _ _ k => k.eq1 2 65 rfl) (fun _ => rfl)) ?_
  refine .o1 (tk rfl rfl fun _ w hn k => ⟨_, v_pickF rfl (k.eq1 2 65 rfl) rfl, rfl⟩) ?_
  refine .o1 (tk rfl rfl fun _ w hn k => ⟨_, v_assign rfl (k.eq1 6 69 rfl), rfl⟩) ?_
  exact .nil
  intro a401 w402 hn403 ha404
  obtain ⟨hs405, hd406, hN408⟩ := aft ha404 hs365 hd366 hN381 hn403
  have h407 := ha404.ge 7 2 rfl
  refine st_nil (hK382 _ _ ?_)
  refine wp_ret (ret_k hd406 (v := .bool false) (res_t rfl h407 _) ?_)
  refine ⟨?_, hN408⟩
  show Ending.returned (.bool false) = Ending.returned (.bool (mayV v))
  first | rfl | (simp only [mayV, ht69, ht94, ht120, ht186, ht244, ht302, ht358, ht383, bsm] <;> rfl) | (simp [mayV, ht69, ht94, ht120, ht186, ht244, ht302, ht358, ht383]; done) | (exfalso; omega)
  have ht358d := of_decide_eq_false ht358
  have hv409 := hB h354 ht358
  refine wp_cond_false hv409 ?_
  refine wp_skip ?_
  refine hK40 _ _ ?_
  refine wp_seq_k fun K410 hK410 => ?_
  refine wp_g0 [true] [] 70
    [ve (.bool false)] hs350 (.eq (.nil)) ?_ ?_
  refine .o1 (tk rfl rfl fun _ w hn k => ⟨_, v_assign rfl rfl, rfl⟩) ?_
  exact .nil
  intro a411 w412 hn413 ha414
  obtain ⟨hs415, hd416, hN418⟩ := aft ha414 hs350 hd351 hN357 hn413
  have h417 := ha414.ge 0 2 rfl
  refine st_nil (hK410 _ _ ?_)
  refine wp_ret (ret_k hd416 (v := .bool false) (res_t rfl h417 _) ?_)
  refine ⟨?_, hN418⟩
  show Ending.returned (.bool false) = Ending.returned (.bool (mayV v))
  first | rfl | (simp only [mayV, ht69, ht94, ht120, ht186, ht244, ht302, ht358, bsm] <;> rfl) | (simp [mayV, ht69, ht94, ht120, ht186, ht244, ht302, ht358]; done) | (exfalso; omega)
def clean_c_P (v : Vl) (Av : Option Addr) (cv : Nat) (Bv : Option Addr) (dv : Nat) (w : World) (en : Ending) (w' : World) : Prop := ∃ (Ar0 : Option Addr) (cr0 : Nat) (Ar1 : Option Addr) (cr1 : Nat), en = .returned (vv (cleanV v) Ar0 cr0 Ar1 cr1) ∧ SRow w' .u32 Ar0 ((cleanV v).mag) cr0 ∧ SRow w' .u16 Ar1 ((cleanV v).s) cr1 ∧ New w w'
set_option maxHeartbeats 4000000 in
set_option maxRecDepth 100000 in
theorem clean_c (v : Vl) (Av : Option Addr) (cv : Nat) (Bv : Option Addr) (dv : Nat) (w : World) (hmv : SRow w .u32 Av v.mag cv) (hsv : SRow w .u16 Bv v.s dv) : Calls Try.prog 28 #[vv v Av cv Bv dv] w (clean_c_P v Av cv Bv dv w) := by
  refine enter_abs Try.func28 rfl fun a0 hs0 hd0 hp => ?_
  have hs0 : a0.tmps.size = 8 := hs0
  have hN0 : New w w := Upd.refl _ _
  have hp0 : a0.eval (.tmp 0) = vv v Av cv Bv dv := hp 0 _ rfl
  refine wp_seq_k fun K1 hK1 => ?_
  refine wp_g [true, true] [] [] 8
    [IsNew w 29 [iv v.k, iv v.nk, iv v.nn, .bool v.neg, sv Av v.mag cv, sv Bv v.s dv, iv v.ref],
     IsNew w 29 [iv 0, iv 0, iv 0, .bool false, sv none ([]) 0, sv none ([]) 0, iv 0]]
    [0, 1] (newsCons (fun v w h => IsNew.old h) (newsCons (fun v w h => IsNew.old h) newsNil)) hs0 (.nw (.nw (.nil))) ?_ (fun i h => by cases h) ?_
  refine .o2 (step_allocN (cs := [iv v.k, iv v.nk, iv v.nn, .bool v.neg, sv Av v.mag cv, sv Bv v.s dv, iv v.ref]) (t := 29) rfl (noG rfl) (fun _ w hn k => v_box rfl (k.fx 0 hp0) (fun w => rfl)) (fun q _ hq hb => ⟨q, rfl, hq, hb⟩)) ?_
  refine .o2 (step_allocN (cs := [iv 0, iv 0, iv 0, .bool false, sv none ([]) 0, sv none ([]) 0, iv 0]) (t := 29) rfl (noG rfl) (fun _ w hn k => rfl) (fun q _ hq hb => ⟨q, rfl, hq, hb⟩)) ?_
  exact .nil
  intro a2 w3 hn4 ha5
  obtain ⟨hs6, hd7, hN19⟩ := aft ha5 hs0 hd0 hN0 hn4
  obtain ⟨q9, h8, hq10, hb11⟩ : IsNew _ _ _ _ _ := ha5.got 0 1 rfl (by kernel_rfl)
  obtain ⟨q13, h12, hq14, hb15⟩ : IsNew _ _ _ _ _ := ha5.got 1 2 rfl (by kernel_rfl)
  have hne16 : q9 ≠ q13 := ha5.ne 0 1 1 2 h8 h12
  have hq17 := Nat.le_trans hN0.size hq10
  have hq18 := Nat.le_trans hN0.size hq14
  refine st_nil (hK1 _ _ ?_)
  refine wp_seq_k fun K20 hK20 => ?_
  refine wp_seq_k fun K21 hK21 => ?_
  rcases Bool.eq_false_or_eq_true (mayV v) with ht22 | ht22
  refine wp_g0 [true, true, true] [] 8
    [ve (vv v Av cv Bv dv),
     ve (.bool true),
     ve (.bool false)] hs6 (.eq (.eq (.eq (.nil)))) ?_ ?_
  refine .o1 (tk rfl rfl fun _ w hn k => ⟨_, v_load rfl (k.fx 1 h8) (l_agg Try.isAgg29 Try.sizeOf29 (hb11.new_ hn) rfl), rfl⟩) ?_
  refine .o1 (ck rfl rfl rfl (fun _ w hn k => ⟨#[vv v Av cv Bv dv], args1 (k.eq1 0 3 rfl), fun _ => by kernel_rfl, vmay_c v _ _ _ _ _ (hmv.new_ (hN19.transNew hn)) (hsv.new_ (hN19.transNew hn))⟩) fun _ => congrArg Value.bool ht22) ?_
  refine .o1 (tk rfl rfl fun _ w hn k => ⟨_, v_not rfl (k.eq1 1 4 rfl), rfl⟩) ?_
  exact .nil
  intro a23 w24 hn25 ha26
  obtain ⟨hs27, hd28, hN34⟩ := aft ha26 hs6 hd7 hN19 hn25
  have h29 := ha26.fx 1 h8
  have h30 := ha26.fx 2 h12
  have h31 := ha26.ge 2 5 rfl
  have hb32 := hb11.new_ hn25
  have hb33 := hb15.new_ hn25
  refine st_nil (hK21 _ _ ?_)
  refine wp_cond_false h31 ?_
  refine wp_skip ?_
  refine hK20 _ _ ?_
  refine wp_seq_k fun K35 hK35 => ?_
  refine wp_g0 [true, false] [(1, false)] 8
    [ve (vv v Av cv Bv dv),
     vt] hs27 (.eq (.tt (.nil))) ?_ ?_
  refine .o1 (tk rfl rfl fun _ w hn k => ⟨_, v_load rfl (k.fx 1 h29) (l_agg Try.isAgg29 Try.sizeOf29 (hb32.new_ hn) rfl), rfl⟩) ?_
  refine .off ?_
  exact .nil
  intro a36 w37 hn38 ha39
  obtain ⟨hs40, hd41, hN45⟩ := aft ha39 hs27 hd28 hN34 hn38
  have h42 := ha39.fx 2 h30
  have h43 := ha39.ge 0 7 rfl
  have hb44 := hb33.new_ hn38
  obtain ⟨w46, hst47, hb480, hu49, hf50⟩ := s_many (P := Try.prog) (t := 29) (i := 0) [iv v.k, iv v.nk, iv v.nn, .bool v.neg, sv Av v.mag cv, sv Bv v.s dv, iv v.ref] Try.sizeOf29 rfl rfl rfl hb44 (Nat.le_of_ble_eq_true rfl)
  have hb48 : Blk w46 q13 29 [iv v.k, iv v.nk, iv v.nn, .bool v.neg, sv Av v.mag cv, sv Bv v.s dv, iv v.ref] := hb480
  refine st_act rfl rfl fun K51 hL52 => a_store' rfl h42 h43 hst47 (hL52 _ _ trivial ?_)
  have hN53 := hN45.trans hu49 (fun k hk hkb => by subst hkb; omega)
  refine st_nil (hK35 _ _ ?_)
  refine wp_ret (ret_k hd41 (v := vv v Av cv Bv dv) (res_c rfl h42 (l_agg Try.isAgg29 Try.sizeOf29 hb48 rfl)) ?_)
  have hx0 : (cleanV v).mag = v.mag := by first | rfl | (simp only [cleanV, Vl.z, ht22, bsm] <;> rfl) | (simp [cleanV, Vl.z, ht22]; done) | (exfalso; omega)
  have hx1 : (cleanV v).s = v.s := by first | rfl | (simp only [cleanV, Vl.z, ht22, bsm] <;> rfl) | (simp [cleanV, Vl.z, ht22]; done) | (exfalso; omega)
  exact ⟨Av, cv, Bv, dv, (by show Ending.returned (vv v Av cv Bv dv) = Ending.returned (vv (cleanV v) Av cv Bv dv); (first | rfl | (simp only [cleanV, Vl.z, ht22, hx0, hx1, bsm] <;> rfl) | (simp [cleanV, Vl.z, ht22, hx0, hx1]; done) | (exfalso; omega))), (by rw [hx0]; exact (hmv.new_ hN53)), (by rw [hx1]; exact (hsv.new_ hN53)), hN53⟩
  refine wp_g0 [true, true, true] [] 8
    [ve (vv v Av cv Bv dv),
     ve (.bool false),
     ve (.bool true)] hs6 (.eq (.eq (.eq (.nil)))) ?_ ?_
  refine .o1 (tk rfl rfl fun _ w hn k => ⟨_, v_load rfl (k.fx 1 h8) (l_agg Try.isAgg29 Try.sizeOf29 (hb11.new_ hn) rfl), rfl⟩) ?_
  refine .o1 (ck rfl rfl rfl (fun _ w hn k => ⟨#[vv v Av cv Bv dv], args1 (k.eq1 0 3 rfl), fun _ => by kernel_rfl, vmay_c v _ _ _ _ _ (hmv.new_ (hN19.transNew hn)) (hsv.new_ (hN19.transNew hn))⟩) fun _ => congrArg Value.bool ht22) ?_
  refine .o1 (tk rfl rfl fun _ w hn k => ⟨_, v_not rfl (k.eq1 1 4 rfl), rfl⟩) ?_
  exact .nil
  intro a54 w55 hn56 ha57
  obtain ⟨hs58, hd59, hN65⟩ := aft ha57 hs6 hd7 hN19 hn56
  have h60 := ha57.fx 1 h8
  have h61 := ha57.fx 2 h12
  have h62 := ha57.ge 2 5 rfl
  have hb63 := hb11.new_ hn56
  have hb64 := hb15.new_ hn56
  refine st_nil (hK21 _ _ ?_)
  refine wp_cond_true h62 ?_
  refine wp_seq_k fun K66 hK66 => ?_
  refine wp_g0 [true, false] [(1, false)] 8
    [ve (vv (Vl.mk 0 0 0 false [] [] 0) none 0 none 0),
     vt] hs58 (.eq (.tt (.nil))) ?_ ?_
  refine .o1 (tk rfl rfl fun _ w hn k => ⟨_, v_build (ps := []) rfl parts0 (by kernel_rfl), rfl⟩) ?_
  refine .off ?_
  exact .nil
  intro a67 w68 hn69 ha70
  obtain ⟨hs71, hd72, hN76⟩ := aft ha70 hs58 hd59 hN65 hn69
  have h73 := ha70.fx 2 h61
  have h74 := ha70.ge 0 6 rfl
  have hb75 := hb64.new_ hn69
  obtain ⟨w77, hst78, hb790, hu80, hf81⟩ := s_many (P := Try.prog) (t := 29) (i := 0) [iv 0, iv 0, iv 0, .bool false, sv none ([]) 0, sv none ([]) 0, iv 0] Try.sizeOf29 rfl rfl rfl hb75 (Nat.le_of_ble_eq_true rfl)
  have hb79 : Blk w77 q13 29 [iv 0, iv 0, iv 0, .bool false, sv none ([]) 0, sv none ([]) 0, iv 0] := hb790
  refine st_act rfl rfl fun K82 hL83 => a_store' rfl h73 h74 hst78 (hL83 _ _ trivial ?_)
  have hN84 := hN76.trans hu80 (fun k hk hkb => by subst hkb; omega)
  refine st_nil (hK66 _ _ ?_)
  refine wp_ret (ret_k hd72 (v := vv (Vl.mk 0 0 0 false [] [] 0) none 0 none 0) (res_c rfl h73 (l_agg Try.isAgg29 Try.sizeOf29 hb79 rfl)) ?_)
  have hx0 : (cleanV v).mag = [] := by first | rfl | (simp only [cleanV, Vl.z, ht22, bsm] <;> rfl) | (simp [cleanV, Vl.z, ht22]; done) | (exfalso; omega)
  have hx1 : (cleanV v).s = [] := by first | rfl | (simp only [cleanV, Vl.z, ht22, bsm] <;> rfl) | (simp [cleanV, Vl.z, ht22]; done) | (exfalso; omega)
  exact ⟨none, 0, none, 0, (by show Ending.returned (vv (Vl.mk 0 0 0 false [] [] 0) none 0 none 0) = Ending.returned (vv (cleanV v) none 0 none 0); (first | rfl | (simp only [cleanV, Vl.z, ht22, hx0, hx1, bsm] <;> rfl) | (simp [cleanV, Vl.z, ht22, hx0, hx1]; done) | (exfalso; omega))), (by rw [hx0]; exact (SRow.nil _ _)), (by rw [hx1]; exact (SRow.nil _ _)), hN84⟩
set_option maxHeartbeats 4000000 in
set_option maxRecDepth 100000 in
theorem whole_c (n : Int) (w : World) : Calls Try.prog 84 #[iv n] w (IsRet (nv (Nm.mk 0 n)) w) := by
  refine enter_abs Try.func84 rfl fun a0 hs0 hd0 hp => ?_
  have hs0 : a0.tmps.size = 5 := hs0
  have hN0 : New w w := Upd.refl _ _
  have hp0 : a0.eval (.tmp 0) = iv n := hp 0 _ rfl
  refine wp_seq_k fun K1 hK1 => ?_
  refine wp_g [true] [] [] 5
    [IsNew w 23 [iv 0, iv 0]]
    [0] (newsCons (fun v w h => IsNew.old h) newsNil) hs0 (.nw (.nil)) ?_ (fun i h => by cases h) ?_
  refine .o2 (step_allocN (cs := [iv 0, iv 0]) (t := 23) rfl (noG rfl) (fun _ w hn k => rfl) (fun q _ hq hb => ⟨q, rfl, hq, hb⟩)) ?_
  exact .nil
  intro a2 w3 hn4 ha5
  obtain ⟨hs6, hd7, hN14⟩ := aft ha5 hs0 hd0 hN0 hn4
  have h8 := ha5.fx 0 hp0
  obtain ⟨q10, h9, hq11, hb12⟩ : IsNew _ _ _ _ _ := ha5.got 0 2 rfl (by kernel_rfl)
  have hq13 := Nat.le_trans hN0.size hq11
  refine st_nil (hK1 _ _ ?_)
  refine wp_seq_k fun K15 hK15 => ?_
  refine wp_g0 [true, true, false] [(2, false)] 5
    [ve (iv n),
     ve (nv (Nm.mk 0 n)),
     vt] hs6 (.eq (.eq (.tt (.nil)))) ?_ ?_
  refine .o1 (tk rfl rfl fun _ w hn k => ⟨_, v_move rfl (k.fx 0 h8), rfl⟩) ?_
  refine .o1 (tk rfl rfl fun _ w hn k => ⟨_, v_build (ps := [(0, iv 0), (1, iv n)]) rfl (parts2 rfl (k.eq1 0 3 rfl)) (by kernel_rfl), rfl⟩) ?_
  refine .off ?_
  exact .nil
  intro a16 w17 hn18 ha19
  obtain ⟨hs20, hd21, hN25⟩ := aft ha19 hs6 hd7 hN14 hn18
  have h22 := ha19.fx 2 h9
  have h23 := ha19.ge 1 4 rfl
  have hb24 := hb12.new_ hn18
  obtain ⟨w26, -, hst27, hb28, hu29, hf30⟩ := s_two (v0 := iv 0) (v1 := iv n) Try.sizeOf23 rfl rfl rfl hb24
  refine st_act rfl rfl fun K31 hL32 => a_store' rfl h22 h23 hst27 (hL32 _ _ trivial ?_)
  have hN33 := hN25.trans hu29 (fun k hk hkb => by subst hkb; omega)
  refine st_nil (hK15 _ _ ?_)
  refine wp_ret (ret_k hd21 (v := nv (Nm.mk 0 n)) (res_c rfl h22 (l_two Try.isAgg23 Try.sizeOf23 hb28)) ?_)
  exact ⟨rfl, hN33⟩
set_option maxHeartbeats 4000000 in
set_option maxRecDepth 100000 in
theorem nought_c (d : Bool) (w : World) : Calls Try.prog 88 #[.bool d] w (IsRet (nv (noughtM d)) w) := by
  refine enter_abs Try.func88 rfl fun a0 hs0 hd0 hp => ?_
  have hs0 : a0.tmps.size = 6 := hs0
  have hN0 : New w w := Upd.refl _ _
  have hp0 : a0.eval (.tmp 0) = .bool d := hp 0 _ rfl
  refine wp_seq_k fun K1 hK1 => ?_
  refine wp_g [true] [] [] 6
    [IsNew w 23 [iv 0, iv 0]]
    [0] (newsCons (fun v w h => IsNew.old h) newsNil) hs0 (.nw (.nil)) ?_ (fun i h => by cases h) ?_
  refine .o2 (step_allocN (cs := [iv 0, iv 0]) (t := 23) rfl (noG rfl) (fun _ w hn k => rfl) (fun q _ hq hb => ⟨q, rfl, hq, hb⟩)) ?_
  exact .nil
  intro a2 w3 hn4 ha5
  obtain ⟨hs6, hd7, hN14⟩ := aft ha5 hs0 hd0 hN0 hn4
  have h8 := ha5.fx 0 hp0
  obtain ⟨q10, h9, hq11, hb12⟩ : IsNew _ _ _ _ _ := ha5.got 0 2 rfl (by kernel_rfl)
  have hq13 := Nat.le_trans hN0.size hq11
  refine st_nil (hK1 _ _ ?_)
  refine wp_seq_k fun K15 hK15 => ?_
  refine wp_seq_k fun K16 hK16 => ?_
  refine wp_g0 [true] [] 6
    [ve (.bool d)] hs6 (.eq (.nil)) ?_ ?_
  refine .o1 (tk rfl rfl fun _ w hn k => ⟨_, v_move rfl (k.fx 0 h8), rfl⟩) ?_
  exact .nil
  intro a17 w18 hn19 ha20
  obtain ⟨hs21, hd22, hN26⟩ := aft ha20 hs6 hd7 hN14 hn19
  have h23 := ha20.fx 2 h9
  have h24 := ha20.ge 0 3 rfl
  have hb25 := hb12.new_ hn19
  refine st_nil (hK16 _ _ ?_)
  rcases Bool.eq_false_or_eq_true (d) with ht27 | ht27
  have hv28 := hB h24 ht27
  refine wp_cond_true hv28 ?_
  refine wp_seq_k fun K29 hK29 => ?_
  refine wp_g0 [true, false] [(1, false)] 6
    [ve (nv (Nm.mk 1 0)),
     vt] hs21 (.eq (.tt (.nil))) ?_ ?_
  refine .o1 (tk rfl rfl fun _ w hn k => ⟨_, v_build (ps := [(0, iv 1)]) rfl (parts1 rfl) (by kernel_rfl), rfl⟩) ?_
  refine .off ?_
  exact .nil
  intro a30 w31 hn32 ha33
  obtain ⟨hs34, hd35, hN39⟩ := aft ha33 hs21 hd22 hN26 hn32
  have h36 := ha33.fx 2 h23
  have h37 := ha33.ge 0 4 rfl
  have hb38 := hb25.new_ hn32
  obtain ⟨w40, -, hst41, hb42, hu43, hf44⟩ := s_two (v0 := iv 1) (v1 := iv 0) Try.sizeOf23 rfl rfl rfl hb38
  refine st_act rfl rfl fun K45 hL46 => a_store' rfl h36 h37 hst41 (hL46 _ _ trivial ?_)
  have hN47 := hN39.trans hu43 (fun k hk hkb => by subst hkb; omega)
  refine st_nil (hK29 _ _ ?_)
  refine wp_ret (ret_k hd35 (v := nv (Nm.mk 1 0)) (res_c rfl h36 (l_two Try.isAgg23 Try.sizeOf23 hb42)) ?_)
  refine ⟨?_, hN47⟩
  show Ending.returned (nv (Nm.mk 1 0)) = Ending.returned (nv (noughtM d))
  first | rfl | (simp only [noughtM, ht27, bsm] <;> rfl) | (simp [noughtM, ht27]; done) | (exfalso; omega)
  have hv48 := hB h24 ht27
  refine wp_cond_false hv48 ?_
  refine wp_skip ?_
  refine hK15 _ _ ?_
  refine wp_seq_k fun K49 hK49 => ?_
  refine wp_g0 [true, false] [(1, false)] 6
    [ve (nv (Nm.mk 0 0)),
     vt] hs21 (.eq (.tt (.nil))) ?_ ?_
  refine .o1 (ck rfl rfl rfl (fun _ w hn k => ⟨#[iv 0], args1 rfl, fun _ => by kernel_rfl, whole_c 0 _ ⟩) fun _ => rfl) ?_
  refine .off ?_
  exact .nil
  intro a50 w51 hn52 ha53
  obtain ⟨hs54, hd55, hN59⟩ := aft ha53 hs21 hd22 hN26 hn52
  have h56 := ha53.fx 2 h23
  have h57 := ha53.ge 0 5 rfl
  have hb58 := hb25.new_ hn52
  obtain ⟨w60, -, hst61, hb62, hu63, hf64⟩ := s_two (v0 := iv 0) (v1 := iv 0) Try.sizeOf23 rfl rfl rfl hb58
  refine st_act rfl rfl fun K65 hL66 => a_store' rfl h56 h57 hst61 (hL66 _ _ trivial ?_)
  have hN67 := hN59.trans hu63 (fun k hk hkb => by subst hkb; omega)
  refine st_nil (hK49 _ _ ?_)
  refine wp_ret (ret_k hd55 (v := nv (Nm.mk 0 0)) (res_c rfl h56 (l_two Try.isAgg23 Try.sizeOf23 hb62)) ?_)
  refine ⟨?_, hN67⟩
  show Ending.returned (nv (Nm.mk 0 0)) = Ending.returned (nv (noughtM d))
  first | rfl | (simp only [noughtM, ht27, bsm] <;> rfl) | (simp [noughtM, ht27]; done) | (exfalso; omega)
set_option maxHeartbeats 4000000 in
set_option maxRecDepth 100000 in
theorem inf_c (d : Bool) (w : World) : Calls Try.prog 87 #[.bool d] w (IsRet (nv (infM d)) w) := by
  refine enter_abs Try.func87 rfl fun a0 hs0 hd0 hp => ?_
  have hs0 : a0.tmps.size = 6 := hs0
  have hN0 : New w w := Upd.refl _ _
  have hp0 : a0.eval (.tmp 0) = .bool d := hp 0 _ rfl
  refine wp_seq_k fun K1 hK1 => ?_
  refine wp_g [true] [] [] 6
    [IsNew w 23 [iv 0, iv 0]]
    [0] (newsCons (fun v w h => IsNew.old h) newsNil) hs0 (.nw (.nil)) ?_ (fun i h => by cases h) ?_
  refine .o2 (step_allocN (cs := [iv 0, iv 0]) (t := 23) rfl (noG rfl) (fun _ w hn k => rfl) (fun q _ hq hb => ⟨q, rfl, hq, hb⟩)) ?_
  exact .nil
  intro a2 w3 hn4 ha5
  obtain ⟨hs6, hd7, hN14⟩ := aft ha5 hs0 hd0 hN0 hn4
  have h8 := ha5.fx 0 hp0
  obtain ⟨q10, h9, hq11, hb12⟩ : IsNew _ _ _ _ _ := ha5.got 0 2 rfl (by kernel_rfl)
  have hq13 := Nat.le_trans hN0.size hq11
  refine st_nil (hK1 _ _ ?_)
  refine wp_seq_k fun K15 hK15 => ?_
  refine wp_seq_k fun K16 hK16 => ?_
  refine wp_g0 [true] [] 6
    [ve (.bool d)] hs6 (.eq (.nil)) ?_ ?_
  refine .o1 (tk rfl rfl fun _ w hn k => ⟨_, v_move rfl (k.fx 0 h8), rfl⟩) ?_
  exact .nil
  intro a17 w18 hn19 ha20
  obtain ⟨hs21, hd22, hN26⟩ := aft ha20 hs6 hd7 hN14 hn19
  have h23 := ha20.fx 2 h9
  have h24 := ha20.ge 0 3 rfl
  have hb25 := hb12.new_ hn19
  refine st_nil (hK16 _ _ ?_)
  rcases Bool.eq_false_or_eq_true (d) with ht27 | ht27
  have hv28 := hB h24 ht27
  refine wp_cond_true hv28 ?_
  refine wp_seq_k fun K29 hK29 => ?_
  refine wp_g0 [true, false] [(1, false)] 6
    [ve (nv (Nm.mk 4 0)),
     vt] hs21 (.eq (.tt (.nil))) ?_ ?_
  refine .o1 (tk rfl rfl fun _ w hn k => ⟨_, v_build (ps := [(0, iv 4)]) rfl (parts1 rfl) (by kernel_rfl), rfl⟩) ?_
  refine .off ?_
  exact .nil
  intro a30 w31 hn32 ha33
  obtain ⟨hs34, hd35, hN39⟩ := aft ha33 hs21 hd22 hN26 hn32
  have h36 := ha33.fx 2 h23
  have h37 := ha33.ge 0 4 rfl
  have hb38 := hb25.new_ hn32
  obtain ⟨w40, -, hst41, hb42, hu43, hf44⟩ := s_two (v0 := iv 4) (v1 := iv 0) Try.sizeOf23 rfl rfl rfl hb38
  refine st_act rfl rfl fun K45 hL46 => a_store' rfl h36 h37 hst41 (hL46 _ _ trivial ?_)
  have hN47 := hN39.trans hu43 (fun k hk hkb => by subst hkb; omega)
  refine st_nil (hK29 _ _ ?_)
  refine wp_ret (ret_k hd35 (v := nv (Nm.mk 4 0)) (res_c rfl h36 (l_two Try.isAgg23 Try.sizeOf23 hb42)) ?_)
  refine ⟨?_, hN47⟩
  show Ending.returned (nv (Nm.mk 4 0)) = Ending.returned (nv (infM d))
  first | rfl | (simp only [infM, ht27, bsm] <;> rfl) | (simp [infM, ht27]; done) | (exfalso; omega)
  have hv48 := hB h24 ht27
  refine wp_cond_false hv48 ?_
  refine wp_skip ?_
  refine hK15 _ _ ?_
  refine wp_seq_k fun K49 hK49 => ?_
  refine wp_g0 [true, false] [(1, false)] 6
    [ve (nv (Nm.mk 3 0)),
     vt] hs21 (.eq (.tt (.nil))) ?_ ?_
  refine .o1 (tk rfl rfl fun _ w hn k => ⟨_, v_build (ps := [(0, iv 3)]) rfl (parts1 rfl) (by kernel_rfl), rfl⟩) ?_
  refine .off ?_
  exact .nil
  intro a50 w51 hn52 ha53
  obtain ⟨hs54, hd55, hN59⟩ := aft ha53 hs21 hd22 hN26 hn52
  have h56 := ha53.fx 2 h23
  have h57 := ha53.ge 0 5 rfl
  have hb58 := hb25.new_ hn52
  obtain ⟨w60, -, hst61, hb62, hu63, hf64⟩ := s_two (v0 := iv 3) (v1 := iv 0) Try.sizeOf23 rfl rfl rfl hb58
  refine st_act rfl rfl fun K65 hL66 => a_store' rfl h56 h57 hst61 (hL66 _ _ trivial ?_)
  have hN67 := hN59.trans hu63 (fun k hk hkb => by subst hkb; omega)
  refine st_nil (hK49 _ _ ?_)
  refine wp_ret (ret_k hd55 (v := nv (Nm.mk 3 0)) (res_c rfl h56 (l_two Try.isAgg23 Try.sizeOf23 hb62)) ?_)
  refine ⟨?_, hN67⟩
  show Ending.returned (nv (Nm.mk 3 0)) = Ending.returned (nv (infM d))
  first | rfl | (simp only [infM, ht27, bsm] <;> rfl) | (simp [infM, ht27]; done) | (exfalso; omega)
set_option maxHeartbeats 4000000 in
set_option maxRecDepth 100000 in
theorem as_c (a : Nm) (w : World) : Calls Try.prog 48 #[nv a] w (IsRet (nv (asM a)) w) := by
  refine enter_abs Try.func48 rfl fun a0 hs0 hd0 hp => ?_
  have hs0 : a0.tmps.size = 8 := hs0
  have hN0 : New w w := Upd.refl _ _
  have hp0 : a0.eval (.tmp 0) = nv a := hp 0 _ rfl
  refine wp_seq_k fun K1 hK1 => ?_
  refine wp_g [true, true] [] [] 8
    [IsNew w 23 [iv a.k, iv a.n],
     IsNew w 23 [iv 0, iv 0]]
    [0, 1] (newsCons (fun v w h => IsNew.old h) (newsCons (fun v w h => IsNew.old h) newsNil)) hs0 (.nw (.nw (.nil))) ?_ (fun i h => by cases h) ?_
  refine .o2 (step_allocN (cs := [iv a.k, iv a.n]) (t := 23) rfl (noG rfl) (fun _ w hn k => v_box rfl (k.fx 0 hp0) (fun w => rfl)) (fun q _ hq hb => ⟨q, rfl, hq, hb⟩)) ?_
  refine .o2 (step_allocN (cs := [iv 0, iv 0]) (t := 23) rfl (noG rfl) (fun _ w hn k => rfl) (fun q _ hq hb => ⟨q, rfl, hq, hb⟩)) ?_
  exact .nil
  intro a2 w3 hn4 ha5
  obtain ⟨hs6, hd7, hN19⟩ := aft ha5 hs0 hd0 hN0 hn4
  obtain ⟨q9, h8, hq10, hb11⟩ : IsNew _ _ _ _ _ := ha5.got 0 1 rfl (by kernel_rfl)
  obtain ⟨q13, h12, hq14, hb15⟩ : IsNew _ _ _ _ _ := ha5.got 1 2 rfl (by kernel_rfl)
  have hne16 : q9 ≠ q13 := ha5.ne 0 1 1 2 h8 h12
  have hq17 := Nat.le_trans hN0.size hq10
  have hq18 := Nat.le_trans hN0.size hq14
  refine st_nil (hK1 _ _ ?_)
  refine wp_seq_k fun K20 hK20 => ?_
  refine wp_seq_k fun K21 hK21 => ?_
  rcases Bool.eq_false_or_eq_true (nmayB a) with ht22 | ht22
  refine wp_g0 [true, true, true] [] 8
    [ve (nv a),
     ve (.bool true),
     ve (.bool false)] hs6 (.eq (.eq (.eq (.nil)))) ?_ ?_
  refine .o1 (tk rfl rfl fun _ w hn k => ⟨_, v_load rfl (k.fx 1 h8) (l_two Try.isAgg23 Try.sizeOf23 (hb11.new_ hn)), rfl⟩) ?_
  refine .o1 (ck rfl rfl rfl (fun _ w hn k => ⟨#[nv a], args1 (k.eq1 0 3 rfl), fun _ => by kernel_rfl, may_c a _ ⟩) fun _ => congrArg Value.bool ht22) ?_
  refine .o1 (tk rfl rfl fun _ w hn k => ⟨_, v_not rfl (k.eq1 1 4 rfl), rfl⟩) ?_
  exact .nil
  intro a23 w24 hn25 ha26
  obtain ⟨hs27, hd28, hN34⟩ := aft ha26 hs6 hd7 hN19 hn25
  have h29 := ha26.fx 1 h8
  have h30 := ha26.fx 2 h12
  have h31 := ha26.ge 2 5 rfl
  have hb32 := hb11.new_ hn25
  have hb33 := hb15.new_ hn25
  refine st_nil (hK21 _ _ ?_)
  refine wp_cond_false h31 ?_
  refine wp_skip ?_
  refine hK20 _ _ ?_
  refine wp_seq_k fun K35 hK35 => ?_
  refine wp_g0 [true, false] [(1, false)] 8
    [ve (nv a),
     vt] hs27 (.eq (.tt (.nil))) ?_ ?_
  refine .o1 (tk rfl rfl fun _ w hn k => ⟨_, v_load rfl (k.fx 1 h29) (l_two Try.isAgg23 Try.sizeOf23 (hb32.new_ hn)), rfl⟩) ?_
  refine .off ?_
  exact .nil
  intro a36 w37 hn38 ha39
  obtain ⟨hs40, hd41, hN45⟩ := aft ha39 hs27 hd28 hN34 hn38
  have h42 := ha39.fx 2 h30
  have h43 := ha39.ge 0 7 rfl
  have hb44 := hb33.new_ hn38
  obtain ⟨w46, -, hst47, hb48, hu49, hf50⟩ := s_two (v0 := iv a.k) (v1 := iv a.n) Try.sizeOf23 rfl rfl rfl hb44
  refine st_act rfl rfl fun K51 hL52 => a_store' rfl h42 h43 hst47 (hL52 _ _ trivial ?_)
  have hN53 := hN45.trans hu49 (fun k hk hkb => by subst hkb; omega)
  refine st_nil (hK35 _ _ ?_)
  refine wp_ret (ret_k hd41 (v := nv a) (res_c rfl h42 (l_two Try.isAgg23 Try.sizeOf23 hb48)) ?_)
  refine ⟨?_, hN53⟩
  show Ending.returned (nv a) = Ending.returned (nv (asM a))
  first | rfl | (simp only [asM, ht22, bsm] <;> rfl) | (simp [asM, ht22]; done) | (exfalso; omega)
  refine wp_g0 [true, true, true] [] 8
    [ve (nv a),
     ve (.bool false),
     ve (.bool true)] hs6 (.eq (.eq (.eq (.nil)))) ?_ ?_
  refine .o1 (tk rfl rfl fun _ w hn k => ⟨_, v_load rfl (k.fx 1 h8) (l_two Try.isAgg23 Try.sizeOf23 (hb11.new_ hn)), rfl⟩) ?_
  refine .o1 (ck rfl rfl rfl (fun _ w hn k => ⟨#[nv a], args1 (k.eq1 0 3 rfl), fun _ => by kernel_rfl, may_c a _ ⟩) fun _ => congrArg Value.bool ht22) ?_
  refine .o1 (tk rfl rfl fun _ w hn k => ⟨_, v_not rfl (k.eq1 1 4 rfl), rfl⟩) ?_
  exact .nil
  intro a54 w55 hn56 ha57
  obtain ⟨hs58, hd59, hN65⟩ := aft ha57 hs6 hd7 hN19 hn56
  have h60 := ha57.fx 1 h8
  have h61 := ha57.fx 2 h12
  have h62 := ha57.ge 2 5 rfl
  have hb63 := hb11.new_ hn56
  have hb64 := hb15.new_ hn56
  refine st_nil (hK21 _ _ ?_)
  refine wp_cond_true h62 ?_
  refine wp_seq_k fun K66 hK66 => ?_
  refine wp_g0 [true, false] [(1, false)] 8
    [ve (nv (Nm.mk 2 0)),
     vt] hs58 (.eq (.tt (.nil))) ?_ ?_
  refine .o1 (ck rfl rfl rfl (fun _ w hn k => ⟨#[], rfl, fun _ => by kernel_rfl, nan_c  _ ⟩) fun _ => rfl) ?_
  refine .off ?_
  exact .nil
  intro a67 w68 hn69 ha70
  obtain ⟨hs71, hd72, hN76⟩ := aft ha70 hs58 hd59 hN65 hn69
  have h73 := ha70.fx 2 h61
  have h74 := ha70.ge 0 6 rfl
  have hb75 := hb64.new_ hn69
  obtain ⟨w77, -, hst78, hb79, hu80, hf81⟩ := s_two (v0 := iv 2) (v1 := iv 0) Try.sizeOf23 rfl rfl rfl hb75
  refine st_act rfl rfl fun K82 hL83 => a_store' rfl h73 h74 hst78 (hL83 _ _ trivial ?_)
  have hN84 := hN76.trans hu80 (fun k hk hkb => by subst hkb; omega)
  refine st_nil (hK66 _ _ ?_)
  refine wp_ret (ret_k hd72 (v := nv (Nm.mk 2 0)) (res_c rfl h73 (l_two Try.isAgg23 Try.sizeOf23 hb79)) ?_)
  refine ⟨?_, hN84⟩
  show Ending.returned (nv (Nm.mk 2 0)) = Ending.returned (nv (asM a))
  first | rfl | (simp only [asM, ht22, bsm] <;> rfl) | (simp [asM, ht22]; done) | (exfalso; omega)
set_option maxHeartbeats 4000000 in
set_option maxRecDepth 100000 in
theorem isNaN_c (a : Nm) (w : World) : Calls Try.prog 49 #[nv a] w (IsRet (.bool (decide (a.k = 2))) w) := by
  refine enter_abs Try.func49 rfl fun a0 hs0 hd0 hp => ?_
  have hs0 : a0.tmps.size = 6 := hs0
  have hN0 : New w w := Upd.refl _ _
  have hp0 : a0.eval (.tmp 0) = nv a := hp 0 _ rfl
  refine wp_seq_k fun K1 hK1 => ?_
  refine wp_g [true, true] [] [] 6
    [IsNew w 23 [iv a.k, iv a.n],
     ve (.bool false)]
    [0] (newsCons (fun v w h => IsNew.old h) newsNil) hs0 (.nw (.eq (.nil))) ?_ (fun i h => by cases h) ?_
  refine .o2 (step_allocN (cs := [iv a.k, iv a.n]) (t := 23) rfl (noG rfl) (fun _ w hn k => v_box rfl (k.fx 0 hp0) (fun w => rfl)) (fun q _ hq hb => ⟨q, rfl, hq, hb⟩)) ?_
  refine .o1 (tk rfl rfl fun _ w hn k => ⟨_, v_assign rfl rfl, rfl⟩) ?_
  exact .nil
  intro a2 w3 hn4 ha5
  obtain ⟨hs6, hd7, hN13⟩ := aft ha5 hs0 hd0 hN0 hn4
  obtain ⟨q9, h8, hq10, hb11⟩ : IsNew _ _ _ _ _ := ha5.got 0 1 rfl (by kernel_rfl)
  have hq12 := Nat.le_trans hN0.size hq10
  refine st_nil (hK1 _ _ ?_)
  refine wp_seq_k fun K14 hK14 => ?_
  refine wp_g0 [true, true, true, true] [] 6
    [ve (pv q9),
     ve (iv a.k),
     ve (.bool (decide (a.k = 2))),
     ve (.bool (decide (a.k = 2)))] hs6 (.eq (.eq (.eq (.eq (.nil))))) ?_ ?_
  refine .o1 (tk rfl rfl fun _ w hn k => ⟨_, v_field rfl (k.fx 1 h8) (fun w => rfl), rfl⟩) ?_
  refine .o1 (tk rfl rfl fun _ w hn k => ⟨_, v_load rfl (k.eq1 0 3 rfl) (l_one Try.isAgg3 ((hb11.new_ hn).cell 0)), rfl⟩) ?_
  refine .o1 (tk rfl rfl fun _ w hn k => ⟨_, v_bin rfl (k.eq1 1 4 rfl) rfl (fun _ => rfl) (r_eql rfl), rfl⟩) ?_
  refine .o1 (tk rfl rfl fun _ w hn k => ⟨_, v_assign rfl (k.eq1 2 5 rfl), rfl⟩) ?_
  exact .nil
  intro a15 w16 hn17 ha18
  obtain ⟨hs19, hd20, hN22⟩ := aft ha18 hs6 hd7 hN13 hn17
  have h21 := ha18.ge 3 2 rfl
  refine st_nil (hK14 _ _ ?_)
  refine wp_ret (ret_k hd20 (v := .bool (decide (a.k = 2))) (res_t rfl h21 _) ?_)
  exact ⟨rfl, hN22⟩
set_option maxHeartbeats 4000000 in
set_option maxRecDepth 100000 in
theorem rank_c (a : Nm) (w : World) : Calls Try.prog 50 #[nv a] w (IsRet (iv (rankM a)) w) := by
  refine enter_abs Try.func50 rfl fun a0 hs0 hd0 hp => ?_
  have hs0 : a0.tmps.size = 11 := hs0
  have hN0 : New w w := Upd.refl _ _
  have hp0 : a0.eval (.tmp 0) = nv a := hp 0 _ rfl
  refine wp_seq_k fun K1 hK1 => ?_
  refine wp_g [true, true] [] [] 11
    [IsNew w 23 [iv a.k, iv a.n],
     ve (iv 0)]
    [0] (newsCons (fun v w h => IsNew.old h) newsNil) hs0 (.nw (.eq (.nil))) ?_ (fun i h => by cases h) ?_
  refine .o2 (step_allocN (cs := [iv a.k, iv a.n]) (t := 23) rfl (noG rfl) (fun _ w hn k => v_box rfl (k.fx 0 hp0) (fun w => rfl)) (fun q _ hq hb => ⟨q, rfl, hq, hb⟩)) ?_
  refine .o1 (tk rfl rfl fun _ w hn k => ⟨_, v_assign rfl rfl, rfl⟩) ?_
  exact .nil
  intro a2 w3 hn4 ha5
  obtain ⟨hs6, hd7, hN13⟩ := aft ha5 hs0 hd0 hN0 hn4
  obtain ⟨q9, h8, hq10, hb11⟩ : IsNew _ _ _ _ _ := ha5.got 0 1 rfl (by kernel_rfl)
  have hq12 := Nat.le_trans hN0.size hq10
  refine st_nil (hK1 _ _ ?_)
  refine wp_seq_k fun K14 hK14 => ?_
  refine wp_seq_k fun K15 hK15 => ?_
  refine wp_g0 [true, true] [] 11
    [ve (pv q9),
     ve (iv a.k)] hs6 (.eq (.eq (.nil))) ?_ ?_
  refine .o1 (tk rfl rfl fun _ w hn k => ⟨_, v_field rfl (k.fx 1 h8) (fun w => rfl), rfl⟩) ?_
  refine .o1 (tk rfl rfl fun _ w hn k => ⟨_, v_load rfl (k.eq1 0 3 rfl) (l_one Try.isAgg3 ((hb11.new_ hn).cell 0)), rfl⟩) ?_
  exact .nil
  intro a16 w17 hn18 ha19
  obtain ⟨hs20, hd21, hN25⟩ := aft ha19 hs6 hd7 hN13 hn18
  have h22 := ha19.fx 1 h8
  have h23 := ha19.ge 1 4 rfl
  have hb24 := hb11.new_ hn18
  refine st_nil (hK15 _ _ ?_)
  refine wp_block ?_
  refine wp_seq_k fun K26 hK26 => ?_
  refine wp_g0 [true, true] [] 11
    [ve (.bool (decide (a.k = 3))),
     ve (.bool (decide (a.k = 3)))] hs20 (.eq (.eq (.nil))) ?_ ?_
  refine .o1 (tk rfl rfl fun _ w hn k => ⟨_, v_bin rfl (k.fx 4 h23) rfl (fun _ => rfl) (r_eql rfl), rfl⟩) ?_
  refine .o1 (tk rfl rfl fun _ w hn k => ⟨_, v_assign rfl (k.eq1 0 6 rfl), rfl⟩) ?_
  exact .nil
  intro a27 w28 hn29 ha30
  obtain ⟨hs31, hd32, hN37⟩ := aft ha30 hs20 hd21 hN25 hn29
  have h33 := ha30.fx 1 h22
  have h34 := ha30.fx 4 h23
  have h35 := ha30.ge 1 5 rfl
  have hb36 := hb24.new_ hn29
  refine st_nil (hK26 _ _ ?_)
  rcases Bool.eq_false_or_eq_true (decide (a.k = 3)) with ht38 | ht38
  have ht38d := of_decide_eq_true ht38
  have hv39 := hB h35 ht38
  refine wp_cond_true hv39 ?_
  refine wp_seq_k fun K40 hK40 => ?_
  refine wp_g0 [true] [] 11
    [ve (iv 9007199254740992)] hs31 (.eq (.nil)) ?_ ?_
  refine .o1 (tk rfl rfl fun _ w hn k => ⟨_, v_assign rfl rfl, rfl⟩) ?_
  exact .nil
  intro a41 w42 hn43 ha44
  obtain ⟨hs45, hd46, hN48⟩ := aft ha44 hs31 hd32 hN37 hn43
  have h47 := ha44.ge 0 2 rfl
  refine st_nil (hK40 _ _ ?_)
  refine wp_ret (ret_k hd46 (v := iv 9007199254740992) (res_t rfl h47 _) ?_)
  refine ⟨?_, hN48⟩
  show Ending.returned (iv 9007199254740992) = Ending.returned (iv (rankM a))
  first | rfl | (simp only [rankM, ht38, bsm] <;> rfl) | (simp [rankM, ht38]; done) | (exfalso; omega)
  have ht38d := of_decide_eq_false ht38
  have hv49 := hB h35 ht38
  refine wp_cond_false hv49 ?_
  refine wp_seq_k fun K50 hK50 => ?_
  refine wp_g0 [true, true] [] 11
    [ve (.bool (decide (a.k = 4))),
     ve (.bool (decide (a.k = 4)))] hs31 (.eq (.eq (.nil))) ?_ ?_
  refine .o1 (tk rfl rfl fun _ w hn k => ⟨_, v_bin rfl (k.fx 4 h34) rfl (fun _ => rfl) (r_eql rfl), rfl⟩) ?_
  refine .o1 (tk rfl rfl fun _ w hn k => ⟨_, v_assign rfl (k.eq1 0 8 rfl), rfl⟩) ?_
  exact .nil
  intro a51 w52 hn53 ha54
  obtain ⟨hs55, hd56, hN60⟩ := aft ha54 hs31 hd32 hN37 hn53
  have h57 := ha54.fx 1 h33
  have h58 := ha54.ge 1 7 rfl
  have hb59 := hb36.new_ hn53
  refine st_nil (hK50 _ _ ?_)
  rcases Bool.eq_false_or_eq_true (decide (a.k = 4)) with ht61 | ht61
  have ht61d := of_decide_eq_true ht61
  have hv62 := hB h58 ht61
  refine wp_cond_true hv62 ?_
  refine wp_seq_k fun K63 hK63 => ?_
  refine wp_g0 [true] [] 11
    [ve (iv (-9007199254740992))] hs55 (.eq (.nil)) ?_ ?_
  refine .o1 (tk rfl rfl fun _ w hn k => ⟨_, v_assign rfl rfl, rfl⟩) ?_
  exact .nil
  intro a64 w65 hn66 ha67
  obtain ⟨hs68, hd69, hN71⟩ := aft ha67 hs55 hd56 hN60 hn66
  have h70 := ha67.ge 0 2 rfl
  refine st_nil (hK63 _ _ ?_)
  refine wp_ret (ret_k hd69 (v := iv (-9007199254740992)) (res_t rfl h70 _) ?_)
  refine ⟨?_, hN71⟩
  show Ending.returned (iv (-9007199254740992)) = Ending.returned (iv (rankM a))
  first | rfl | (simp only [rankM, ht38, ht61, bsm] <;> rfl) | (simp [rankM, ht38, ht61]; done) | (exfalso; omega)
  have ht61d := of_decide_eq_false ht61
  have hv72 := hB h58 ht61
  refine wp_cond_false hv72 ?_
  refine wp_skip ?_
  refine hK14 _ _ ?_
  refine wp_seq_k fun K73 hK73 => ?_
  refine wp_g0 [true, true, true] [] 11
    [ve (.pointer (some ⟨q9, 1, none⟩)),
     ve (iv a.n),
     ve (iv a.n)] hs55 (.eq (.eq (.eq (.nil)))) ?_ ?_
  refine .o1 (tk rfl rfl fun _ w hn k => ⟨_, v_field rfl (k.fx 1 h57) (fun w => rfl), rfl⟩) ?_
  refine .o1 (tk rfl rfl fun _ w hn k => ⟨_, v_load rfl (k.eq1 0 9 rfl) (l_one Try.isAgg3 ((hb59.new_ hn).cell 1)), rfl⟩) ?_
  refine .o1 (tk rfl rfl fun _ w hn k => ⟨_, v_assign rfl (k.eq1 1 10 rfl), rfl⟩) ?_
  exact .nil
  intro a74 w75 hn76 ha77
  obtain ⟨hs78, hd79, hN81⟩ := aft ha77 hs55 hd56 hN60 hn76
  have h80 := ha77.ge 2 2 rfl
  refine st_nil (hK73 _ _ ?_)
  refine wp_ret (ret_k hd79 (v := iv a.n) (res_t rfl h80 _) ?_)
  refine ⟨?_, hN81⟩
  show Ending.returned (iv a.n) = Ending.returned (iv (rankM a))
  first | rfl | (simp only [rankM, ht38, ht61, bsm] <;> rfl) | (simp [rankM, ht38, ht61]; done) | (exfalso; omega)
set_option maxHeartbeats 4000000 in
set_option maxRecDepth 100000 in
theorem equal_c (a : Nm) (b : Nm) (w : World) : Calls Try.prog 32 #[nv a, nv b] w (IsRet (.bool (equalM a b)) w) := by
  refine enter_abs Try.func32 rfl fun a0 hs0 hd0 hp => ?_
  have hs0 : a0.tmps.size = 24 := hs0
  have hN0 : New w w := Upd.refl _ _
  have hp0 : a0.eval (.tmp 0) = nv a := hp 0 _ rfl
  have hp1 : a0.eval (.tmp 1) = nv b := hp 1 _ rfl
  refine wp_seq_k fun K1 hK1 => ?_
  refine wp_g [true, true, true] [] [] 24
    [IsNew w 23 [iv a.k, iv a.n],
     IsNew w 23 [iv b.k, iv b.n],
     ve (.bool false)]
    [0, 1] (newsCons (fun v w h => IsNew.old h) (newsCons (fun v w h => IsNew.old h) newsNil)) hs0 (.nw (.nw (.eq (.nil)))) ?_ (fun i h => by cases h) ?_
  refine .o2 (step_allocN (cs := [iv a.k, iv a.n]) (t := 23) rfl (noG rfl) (fun _ w hn k => v_box rfl (k.fx 0 hp0) (fun w => rfl)) (fun q _ hq hb => ⟨q, rfl, hq, hb⟩)) ?_
  refine .o2 (step_allocN (cs := [iv b.k, iv b.n]) (t := 23) rfl (noG rfl) (fun _ w hn k => v_box rfl (k.fx 1 hp1) (fun w => rfl)) (fun q _ hq hb => ⟨q, rfl, hq, hb⟩)) ?_
  refine .o1 (tk rfl rfl fun _ w hn k => ⟨_, v_assign rfl rfl, rfl⟩) ?_
  exact .nil
  intro a2 w3 hn4 ha5
  obtain ⟨hs6, hd7, hN19⟩ := aft ha5 hs0 hd0 hN0 hn4
  obtain ⟨q9, h8, hq10, hb11⟩ : IsNew _ _ _ _ _ := ha5.got 0 2 rfl (by kernel_rfl)
  obtain ⟨q13, h12, hq14, hb15⟩ : IsNew _ _ _ _ _ := ha5.got 1 3 rfl (by kernel_rfl)
  have hne16 : q9 ≠ q13 := ha5.ne 0 1 2 3 h8 h12
  have hq17 := Nat.le_trans hN0.size hq10
  have hq18 := Nat.le_trans hN0.size hq14
  refine st_nil (hK1 _ _ ?_)
  refine wp_seq_k fun K20 hK20 => ?_
  refine wp_g0 [true, true, true, true, false, false] [(4, false), (5, false)] 24
    [ve (nv a),
     ve (nv (asM a)),
     ve (nv b),
     ve (nv (asM b)),
     vt,
     vt] hs6 (.eq (.eq (.eq (.eq (.tt (.tt (.nil))))))) ?_ ?_
  refine .o1 (tk rfl rfl fun _ w hn k => ⟨_, v_load rfl (k.fx 2 h8) (l_two Try.isAgg23 Try.sizeOf23 (hb11.new_ hn)), rfl⟩) ?_
  refine .o1 (ck rfl rfl rfl (fun _ w hn k => ⟨#[nv a], args1 (k.eq1 0 5 rfl), fun _ => by kernel_rfl, as_c a _ ⟩) fun _ => rfl) ?_
  refine .o1 (tk rfl rfl fun _ w hn k => ⟨_, v_load rfl (k.fx 3 h12) (l_two Try.isAgg23 Try.sizeOf23 (hb15.new_ hn)), rfl⟩) ?_
  refine .o1 (ck rfl rfl rfl (fun _ w hn k => ⟨#[nv b], args1 (k.eq1 2 7 rfl), fun _ => by kernel_rfl, as_c b _ ⟩) fun _ => rfl) ?_
  refine .off ?_
  refine .off ?_
  exact .nil
  intro a21 w22 hn23 ha24
  obtain ⟨hs25, hd26, hN33⟩ := aft ha24 hs6 hd7 hN19 hn23
  have h27 := ha24.fx 2 h8
  have h28 := ha24.fx 3 h12
  have h29 := ha24.ge 1 6 rfl
  have h30 := ha24.ge 3 8 rfl
  have hb31 := hb11.new_ hn23
  have hb32 := hb15.new_ hn23
  have hbd_a := as_bd a
  have hbd_b := as_bd b
  obtain ⟨w34, -, hst35, hb36, hu37, hf38⟩ := s_two (v0 := iv ((asM a).k)) (v1 := iv ((asM a).n)) Try.sizeOf23 rfl rfl rfl hb31
  refine st_act rfl rfl fun K39 hL40 => a_store' rfl h27 h29 hst35 (hL40 _ _ trivial ?_)
  have hb41 := hf38 _ _ _ (fun h => hne16 h.symm) hb32
  have hN42 := hN33.trans hu37 (fun k hk hkb => by subst hkb; omega)
  obtain ⟨w43, -, hst44, hb45, hu46, hf47⟩ := s_two (v0 := iv ((asM b).k)) (v1 := iv ((asM b).n)) Try.sizeOf23 rfl rfl rfl hb41
  refine st_act rfl rfl fun K48 hL49 => a_store' rfl h28 h30 hst44 (hL49 _ _ trivial ?_)
  have hb50 := hf47 _ _ _ (hne16) hb36
  have hN51 := hN42.trans hu46 (fun k hk hkb => by subst hkb; omega)
  refine st_nil (hK20 _ _ ?_)
  refine wp_seq_k fun K52 hK52 => ?_
  rcases Bool.eq_false_or_eq_true (decide ((asM a).k = 2)) with ht53 | ht53
  have ht53d := of_decide_eq_true ht53
  refine wp_g0 [true, true, true, true, true, true, true, true, true, true, true, true, true, true, true, true] [] 24
    [ve (nv (asM a)),
     ve (.bool true),
     ve (.bool false),
     ve (.bool false),
     ve undef,
     ve undef,
     ve undef,
     ve (.bool false),
     ve (.bool false),
     ve undef,
     ve undef,
     ve undef,
     ve undef,
     ve undef,
     ve (.bool false),
     ve (.bool false)] hs25 (.eq (.eq (.eq (.eq (.eq (.eq (.eq (.eq (.eq (.eq (.eq (.eq (.eq (.eq (.eq (.eq (.nil))))))))))))))))) ?_ ?_
  refine .o1 (tk rfl rfl fun _ w hn k => ⟨_, v_load rfl (k.fx 2 h27) (l_two Try.isAgg23 Try.sizeOf23 (hb50.new_ hn)), rfl⟩) ?_
  refine .o1 (ck rfl rfl rfl (fun _ w hn k => ⟨#[nv (asM a)], args1 (k.eq1 0 9 rfl), fun _ => by kernel_rfl, isNaN_c (asM a) _ ⟩) fun _ => congrArg Value.bool ht53) ?_
  refine .o1 (tk rfl rfl fun _ w hn k => ⟨_, v_not rfl (k.eq1 1 10 rfl), rfl⟩) ?_
  refine .o1 (tk rfl rfl fun _ w hn k => ⟨_, v_move rfl (k.eq1 2 11 rfl), rfl⟩) ?_
  refine .o1 (sk rfl rfl rfl (fun _ _ _ k => k.eq1 3 12 rfl) (fun _ => rfl)) ?_
  refine .o1 (sk rfl rfl rfl (fun _ _ _ k => k.eq1 3 12 rfl) (fun _ => rfl)) ?_
  refine .o1 (sk rfl rfl rfl (fun _ _ _ k => k.eq1 3 12 rfl) (fun _ => rfl)) ?_
  refine .o1 (tk rfl rfl fun _ w hn k => ⟨_, v_pickF rfl (k.eq1 3 12 rfl) rfl, rfl⟩) ?_
  refine .o1 (tk rfl rfl fun _ w hn k => ⟨_, v_move rfl (k.eq1 7 16 rfl), rfl⟩) ?_
  refine .o1 (sk rfl rfl rfl (fun _ _ _ k => k.eq1 8 17 rfl) (fun _ => rfl)) ?_
  refine .o1 (sk rfl rfl rfl (fun _ _ _ k => k.eq1 8 17 rfl) (fun _ => rfl)) ?_
  refine .o1 (sk rfl rfl rfl (fun _ _ _ k => k.eq1 8 17 rfl) (fun _ => rfl)) ?_
  refine .o1 (sk rfl rfl rfl (fun _ _ _ k => k.eq1 8 17 rfl) (fun _ => rfl)) ?_
  refine .o1 (sk rfl rfl rfl (fun _ _ _ k => k.eq1 8 17 rfl) (fun _ => rfl)) ?_
  refine .o1 (tk rfl rfl fun _ w hn k => ⟨_, v_pickF rfl (k.eq1 8 17 rfl) rfl, rfl⟩) ?_
  refine .o1 (tk rfl rfl fun _ w hn k => ⟨_, v_assign rfl (k.eq1 14 23 rfl), rfl⟩) ?_
  exact .nil
  intro a54 w55 hn56 ha57
  obtain ⟨hs58, hd59, hN61⟩ := aft ha57 hs25 hd26 hN51 hn56
  have h60 := ha57.ge 15 4 rfl
  refine st_nil (hK52 _ _ ?_)
  refine wp_ret (ret_k hd59 (v := .bool false) (res_t rfl h60 _) ?_)
  refine ⟨?_, hN61⟩
  show Ending.returned (.bool false) = Ending.returned (.bool (equalM a b))
  first | rfl | (simp only [equalM, equalA, ht53, bsm] <;> rfl) | (simp [equalM, equalA, ht53]; done) | (exfalso; omega)
  have ht53d := of_decide_eq_false ht53
  rcases Bool.eq_false_or_eq_true (decide ((asM b).k = 2)) with ht62 | ht62
  have ht62d := of_decide_eq_true ht62
  refine wp_g0 [true, true, true, true, true, true, true, true, true, true, true, true, true, true, true, true] [] 24
    [ve (nv (asM a)),
     ve (.bool false),
     ve (.bool true),
     ve (.bool true),
     ve (nv (asM b)),
     ve (.bool true),
     ve (.bool false),
     ve (.bool false),
     ve (.bool false),
     ve undef,
     ve undef,
     ve undef,
     ve undef,
     ve undef,
     ve (.bool false),
     ve (.bool false)] hs25 (.eq (.eq (.eq (.eq (.eq (.eq (.eq (.eq (.eq (.eq (.eq (.eq (.eq (.eq (.eq (.eq (.nil))))))))))))))))) ?_ ?_
  refine .o1 (tk rfl rfl fun _ w hn k => ⟨_, v_load rfl (k.fx 2 h27) (l_two Try.isAgg23 Try.sizeOf23 (hb50.new_ hn)), rfl⟩) ?_
  refine .o1 (ck rfl rfl rfl (fun _ w hn k => ⟨#[nv (asM a)], args1 (k.eq1 0 9 rfl), fun _ => by kernel_rfl, isNaN_c (asM a) _ ⟩) fun _ => congrArg Value.bool ht53) ?_
  refine .o1 (tk rfl rfl fun _ w hn k => ⟨_, v_not rfl (k.eq1 1 10 rfl), rfl⟩) ?_
  refine .o1 (tk rfl rfl fun _ w hn k => ⟨_, v_move rfl (k.eq1 2 11 rfl), rfl⟩) ?_
  refine .o1 (tg rfl rfl rfl (fun _ _ k => k.eq1 3 12 rfl) fun _ w hn k => ⟨_, v_load rfl (k.fx 3 h28) (l_two Try.isAgg23 Try.sizeOf23 (hb45.new_ hn)), rfl⟩) ?_
  refine .o1 (cg rfl rfl rfl (fun _ _ k => k.eq1 3 12 rfl) rfl (fun _ w hn k => ⟨#[nv (asM b)], args1 (k.eq1 4 13 rfl), fun _ => by kernel_rfl, isNaN_c (asM b) _ ⟩) fun _ => congrArg Value.bool ht62) ?_
  refine .o1 (tg rfl rfl rfl (fun _ _ k => k.eq1 3 12 rfl) fun _ w hn k => ⟨_, v_not rfl (k.eq1 5 14 rfl), rfl⟩) ?_
  refine .o1 (tk rfl rfl fun _ w hn k => ⟨_, v_pickT rfl (k.eq1 3 12 rfl) (k.eq1 6 15 rfl), rfl⟩) ?_
  refine .o1 (tk rfl rfl fun _ w hn k => ⟨_, v_move rfl (k.eq1 7 16 rfl), rfl⟩) ?_
  refine .o1 (sk rfl rfl rfl (fun _ _ _ k => k.eq1 8 17 rfl) (fun _ => rfl)) ?_
  refine .o1 (sk rfl rfl rfl (fun _ _ _ k => k.eq1 8 17 rfl) (fun _ => rfl)) ?_
  refine .o1 (sk rfl rfl rfl (fun _ _ _ k => k.eq1 8 17 rfl) (fun _ => rfl)) ?_
  refine .o1 (sk rfl rfl rfl (fun _ _ _ k => k.eq1 8 17 rfl) (fun _ => rfl)) ?_
  refine .o1 (sk rfl rfl rfl (fun _ _ _ k => k.eq1 8 17 rfl) (fun _ => rfl)) ?_
  refine .o1 (tk rfl rfl fun _ w hn k => ⟨_, v_pickF rfl (k.eq1 8 17 rfl) rfl, rfl⟩) ?_
  refine .o1 (tk rfl rfl fun _ w hn k => ⟨_, v_assign rfl (k.eq1 14 23 rfl), rfl⟩) ?_
  exact .nil
  intro a63 w64 hn65 ha66
  obtain ⟨hs67, hd68, hN70⟩ := aft ha66 hs25 hd26 hN51 hn65
  have h69 := ha66.ge 15 4 rfl
  refine st_nil (hK52 _ _ ?_)
  refine wp_ret (ret_k hd68 (v := .bool false) (res_t rfl h69 _) ?_)
  refine ⟨?_, hN70⟩
  show Ending.returned (.bool false) = Ending.returned (.bool (equalM a b))
  first | rfl | (simp only [equalM, equalA, ht53, ht62, bsm] <;> rfl) | (simp [equalM, equalA, ht53, ht62]; done) | (exfalso; omega)
  have ht62d := of_decide_eq_false ht62
  refine wp_g0 [true, true, true, true, true, true, true, true, true, true, true, true, true, true, true, true] [] 24
    [ve (nv (asM a)),
     ve (.bool false),
     ve (.bool true),
     ve (.bool true),
     ve (nv (asM b)),
     ve (.bool false),
     ve (.bool true),
     ve (.bool true),
     ve (.bool true),
     ve (nv (asM a)),
     ve (iv (rankM (asM a))),
     ve (nv (asM b)),
     ve (iv (rankM (asM b))),
     ve (.bool (decide ((rankM (asM a)) = (rankM (asM b))))),
     ve (.bool (decide ((rankM (asM a)) = (rankM (asM b))))),
     ve (.bool (decide ((rankM (asM a)) = (rankM (asM b)))))] hs25 (.eq (.eq (.eq (.eq (.eq (.eq (.eq (.eq (.eq (.eq (.eq (.eq (.eq (.eq (.eq (.eq (.nil))))))))))))))))) ?_ ?_
  refine .o1 (tk rfl rfl fun _ w hn k => ⟨_, v_load rfl (k.fx 2 h27) (l_two Try.isAgg23 Try.sizeOf23 (hb50.new_ hn)), rfl⟩) ?_
  refine .o1 (ck rfl rfl rfl (fun _ w hn k => ⟨#[nv (asM a)], args1 (k.eq1 0 9 rfl), fun _ => by kernel_rfl, isNaN_c (asM a) _ ⟩) fun _ => congrArg Value.bool ht53) ?_
  refine .o1 (tk rfl rfl fun _ w hn k => ⟨_, v_not rfl (k.eq1 1 10 rfl), rfl⟩) ?_
  refine .o1 (tk rfl rfl fun _ w hn k => ⟨_, v_move rfl (k.eq1 2 11 rfl), rfl⟩) ?_
  refine .o1 (tg rfl rfl rfl (fun _ _ k => k.eq1 3 12 rfl) fun _ w hn k => ⟨_, v_load rfl (k.fx 3 h28) (l_two Try.isAgg23 Try.sizeOf23 (hb45.new_ hn)), rfl⟩) ?_
  refine .o1 (cg rfl rfl rfl (fun _ _ k => k.eq1 3 12 rfl) rfl (fun _ w hn k => ⟨#[nv (asM b)], args1 (k.eq1 4 13 rfl), fun _ => by kernel_rfl, isNaN_c (asM b) _ ⟩) fun _ => congrArg Value.bool ht62) ?_
  refine .o1 (tg rfl rfl rfl (fun _ _ k => k.eq1 3 12 rfl) fun _ w hn k => ⟨_, v_not rfl (k.eq1 5 14 rfl), rfl⟩) ?_
  refine .o1 (tk rfl rfl fun _ w hn k => ⟨_, v_pickT rfl (k.eq1 3 12 rfl) (k.eq1 6 15 rfl), rfl⟩) ?_
  refine .o1 (tk rfl rfl fun _ w hn k => ⟨_, v_move rfl (k.eq1 7 16 rfl), rfl⟩) ?_
  refine .o1 (tg rfl rfl rfl (fun _ _ k => k.eq1 8 17 rfl) fun _ w hn k => ⟨_, v_load rfl (k.fx 2 h27) (l_two Try.isAgg23 Try.sizeOf23 (hb50.new_ hn)), rfl⟩) ?_
  refine .o1 (cg rfl rfl rfl (fun _ _ k => k.eq1 8 17 rfl) rfl (fun _ w hn k => ⟨#[nv (asM a)], args1 (k.eq1 9 18 rfl), fun _ => by kernel_rfl, rank_c (asM a) _ ⟩) fun _ => rfl) ?_
  refine .o1 (tg rfl rfl rfl (fun _ _ k => k.eq1 8 17 rfl) fun _ w hn k => ⟨_, v_load rfl (k.fx 3 h28) (l_two Try.isAgg23 Try.sizeOf23 (hb45.new_ hn)), rfl⟩) ?_
  refine .o1 (cg rfl rfl rfl (fun _ _ k => k.eq1 8 17 rfl) rfl (fun _ w hn k => ⟨#[nv (asM b)], args1 (k.eq1 11 20 rfl), fun _ => by kernel_rfl, rank_c (asM b) _ ⟩) fun _ => rfl) ?_
  refine .o1 (tg rfl rfl rfl (fun _ _ k => k.eq1 8 17 rfl) fun _ w hn k => ⟨_, v_bin rfl (k.eq1 10 19 rfl) (k.eq1 12 21 rfl) (fun _ => rfl) (r_eql rfl), rfl⟩) ?_
  refine .o1 (tk rfl rfl fun _ w hn k => ⟨_, v_pickT rfl (k.eq1 8 17 rfl) (k.eq1 13 22 rfl), rfl⟩) ?_
  refine .o1 (tk rfl rfl fun _ w hn k => ⟨_, v_assign rfl (k.eq1 14 23 rfl), rfl⟩) ?_
  exact .nil
  intro a71 w72 hn73 ha74
  obtain ⟨hs75, hd76, hN78⟩ := aft ha74 hs25 hd26 hN51 hn73
  have h77 := ha74.ge 15 4 rfl
  refine st_nil (hK52 _ _ ?_)
  refine wp_ret (ret_k hd76 (v := .bool (decide ((rankM (asM a)) = (rankM (asM b))))) (res_t rfl h77 _) ?_)
  refine ⟨?_, hN78⟩
  show Ending.returned (.bool (decide ((rankM (asM a)) = (rankM (asM b))))) = Ending.returned (.bool (equalM a b))
  first | rfl | (simp only [equalM, equalA, ht53, ht62, bsm] <;> rfl) | (simp [equalM, equalA, ht53, ht62]; done) | (exfalso; omega)
set_option maxHeartbeats 4000000 in
set_option maxRecDepth 100000 in
theorem nneg_c (a : Nm) (w : World) : Calls Try.prog 71 #[nv a] w (IsRet (nv (negM a)) w) := by
  refine enter_abs Try.func71 rfl fun a0 hs0 hd0 hp => ?_
  have hs0 : a0.tmps.size = 28 := hs0
  have hN0 : New w w := Upd.refl _ _
  have hp0 : a0.eval (.tmp 0) = nv a := hp 0 _ rfl
  refine wp_seq_k fun K1 hK1 => ?_
  refine wp_g [true, true] [] [] 28
    [IsNew w 23 [iv a.k, iv a.n],
     IsNew w 23 [iv 0, iv 0]]
    [0, 1] (newsCons (fun v w h => IsNew.old h) (newsCons (fun v w h => IsNew.old h) newsNil)) hs0 (.nw (.nw (.nil))) ?_ (fun i h => by cases h) ?_
  refine .o2 (step_allocN (cs := [iv a.k, iv a.n]) (t := 23) rfl (noG rfl) (fun _ w hn k => v_box rfl (k.fx 0 hp0) (fun w => rfl)) (fun q _ hq hb => ⟨q, rfl, hq, hb⟩)) ?_
  refine .o2 (step_allocN (cs := [iv 0, iv 0]) (t := 23) rfl (noG rfl) (fun _ w hn k => rfl) (fun q _ hq hb => ⟨q, rfl, hq, hb⟩)) ?_
  exact .nil
  intro a2 w3 hn4 ha5
  obtain ⟨hs6, hd7, hN19⟩ := aft ha5 hs0 hd0 hN0 hn4
  obtain ⟨q9, h8, hq10, hb11⟩ : IsNew _ _ _ _ _ := ha5.got 0 1 rfl (by kernel_rfl)
  obtain ⟨q13, h12, hq14, hb15⟩ : IsNew _ _ _ _ _ := ha5.got 1 2 rfl (by kernel_rfl)
  have hne16 : q9 ≠ q13 := ha5.ne 0 1 1 2 h8 h12
  have hq17 := Nat.le_trans hN0.size hq10
  have hq18 := Nat.le_trans hN0.size hq14
  refine st_nil (hK1 _ _ ?_)
  refine wp_seq_k fun K20 hK20 => ?_
  refine wp_g0 [true, true, false] [(2, false)] 28
    [ve (nv a),
     ve (nv (asM a)),
     vt] hs6 (.eq (.eq (.tt (.nil)))) ?_ ?_
  refine .o1 (tk rfl rfl fun _ w hn k => ⟨_, v_load rfl (k.fx 1 h8) (l_two Try.isAgg23 Try.sizeOf23 (hb11.new_ hn)), rfl⟩) ?_
  refine .o1 (ck rfl rfl rfl (fun _ w hn k => ⟨#[nv a], args1 (k.eq1 0 3 rfl), fun _ => by kernel_rfl, as_c a _ ⟩) fun _ => rfl) ?_
  refine .off ?_
  exact .nil
  intro a21 w22 hn23 ha24
  obtain ⟨hs25, hd26, hN32⟩ := aft ha24 hs6 hd7 hN19 hn23
  have h27 := ha24.fx 1 h8
  have h28 := ha24.fx 2 h12
  have h29 := ha24.ge 1 4 rfl
  have hb30 := hb11.new_ hn23
  have hb31 := hb15.new_ hn23
  have hbd_a := as_bd a
  obtain ⟨w33, -, hst34, hb35, hu36, hf37⟩ := s_two (v0 := iv ((asM a).k)) (v1 := iv ((asM a).n)) Try.sizeOf23 rfl rfl rfl hb30
  refine st_act rfl rfl fun K38 hL39 => a_store' rfl h27 h29 hst34 (hL39 _ _ trivial ?_)
  have hb40 := hf37 _ _ _ (fun h => hne16 h.symm) hb31
  have hN41 := hN32.trans hu36 (fun k hk hkb => by subst hkb; omega)
  refine st_nil (hK20 _ _ ?_)
  refine wp_seq_k fun K42 hK42 => ?_
  refine wp_seq_k fun K43 hK43 => ?_
  refine wp_g0 [true, true] [] 28
    [ve (pv q9),
     ve (iv ((asM a).k))] hs25 (.eq (.eq (.nil))) ?_ ?_
  refine .o1 (tk rfl rfl fun _ w hn k => ⟨_, v_field rfl (k.fx 1 h27) (fun w => rfl), rfl⟩) ?_
  refine .o1 (tk rfl rfl fun _ w hn k => ⟨_, v_load rfl (k.eq1 0 5 rfl) (l_one Try.isAgg3 ((hb35.new_ hn).cell 0)), rfl⟩) ?_
  exact .nil
  intro a44 w45 hn46 ha47
  obtain ⟨hs48, hd49, hN55⟩ := aft ha47 hs25 hd26 hN41 hn46
  have h50 := ha47.fx 1 h27
  have h51 := ha47.fx 2 h28
  have h52 := ha47.ge 1 6 rfl
  have hb53 := hb35.new_ hn46
  have hb54 := hb40.new_ hn46
  refine st_nil (hK43 _ _ ?_)
  refine wp_block ?_
  refine wp_seq_k fun K56 hK56 => ?_
  refine wp_g0 [true, true] [] 28
    [ve (.bool (decide (((asM a).k) = 2))),
     ve (.bool (decide (((asM a).k) = 2)))] hs48 (.eq (.eq (.nil))) ?_ ?_
  refine .o1 (tk rfl rfl fun _ w hn k => ⟨_, v_bin rfl (k.fx 6 h52) rfl (fun _ => rfl) (r_eql rfl), rfl⟩) ?_
  refine .o1 (tk rfl rfl fun _ w hn k => ⟨_, v_assign rfl (k.eq1 0 8 rfl), rfl⟩) ?_
  exact .nil
  intro a57 w58 hn59 ha60
  obtain ⟨hs61, hd62, hN69⟩ := aft ha60 hs48 hd49 hN55 hn59
  have h63 := ha60.fx 1 h50
  have h64 := ha60.fx 2 h51
  have h65 := ha60.fx 6 h52
  have h66 := ha60.ge 1 7 rfl
  have hb67 := hb53.new_ hn59
  have hb68 := hb54.new_ hn59
  refine st_nil (hK56 _ _ ?_)
  rcases Bool.eq_false_or_eq_true (decide (((asM a).k) = 2)) with ht70 | ht70
  have ht70d := of_decide_eq_true ht70
  have hv71 := hB h66 ht70
  refine wp_cond_true hv71 ?_
  refine wp_seq_k fun K72 hK72 => ?_
  refine wp_g0 [true, false] [(1, false)] 28
    [ve (nv (asM a)),
     vt] hs61 (.eq (.tt (.nil))) ?_ ?_
  refine .o1 (tk rfl rfl fun _ w hn k => ⟨_, v_load rfl (k.fx 1 h63) (l_two Try.isAgg23 Try.sizeOf23 (hb67.new_ hn)), rfl⟩) ?_
  refine .off ?_
  exact .nil
  intro a73 w74 hn75 ha76
  obtain ⟨hs77, hd78, hN82⟩ := aft ha76 hs61 hd62 hN69 hn75
  have h79 := ha76.fx 2 h64
  have h80 := ha76.ge 0 9 rfl
  have hb81 := hb68.new_ hn75
  obtain ⟨w83, -, hst84, hb85, hu86, hf87⟩ := s_two (v0 := iv ((asM a).k)) (v1 := iv ((asM a).n)) Try.sizeOf23 rfl rfl rfl hb81
  refine st_act rfl rfl fun K88 hL89 => a_store' rfl h79 h80 hst84 (hL89 _ _ trivial ?_)
  have hN90 := hN82.trans hu86 (fun k hk hkb => by subst hkb; omega)
  refine st_nil (hK72 _ _ ?_)
  refine wp_ret (ret_k hd78 (v := nv (asM a)) (res_c rfl h79 (l_two Try.isAgg23 Try.sizeOf23 hb85)) ?_)
  refine ⟨?_, hN90⟩
  show Ending.returned (nv (asM a)) = Ending.returned (nv (negM a))
  first | rfl | (simp only [negM, negA, infM, ht70, bsm] <;> rfl) | (simp [negM, negA, infM, ht70]; done) | (exfalso; omega)
  have ht70d := of_decide_eq_false ht70
  have hv91 := hB h66 ht70
  refine wp_cond_false hv91 ?_
  refine wp_seq_k fun K92 hK92 => ?_
  refine wp_seq_k fun K93 hK93 => ?_
  refine wp_g0 [true, true] [] 28
    [ve (.bool (decide (((asM a).k) = 3))),
     ve (.bool (decide (((asM a).k) = 3)))] hs61 (.eq (.eq (.nil))) ?_ ?_
  refine .o1 (tk rfl rfl fun _ w hn k => ⟨_, v_bin rfl (k.fx 6 h65) rfl (fun _ => rfl) (r_eql rfl), rfl⟩) ?_
  refine .o1 (tk rfl rfl fun _ w hn k => ⟨_, v_assign rfl (k.eq1 0 11 rfl), rfl⟩) ?_
  exact .nil
  intro a94 w95 hn96 ha97
  obtain ⟨hs98, hd99, hN106⟩ := aft ha97 hs61 hd62 hN69 hn96
  have h100 := ha97.fx 1 h63
  have h101 := ha97.fx 2 h64
  have h102 := ha97.fx 6 h65
  have h103 := ha97.ge 1 10 rfl
  have hb104 := hb67.new_ hn96
  have hb105 := hb68.new_ hn96
  refine st_nil (hK93 _ _ ?_)
  rcases Bool.eq_false_or_eq_true (decide (((asM a).k) = 3)) with ht107 | ht107
  have ht107d := of_decide_eq_true ht107
  have hv108 := hB h103 ht107
  refine wp_cond_true hv108 ?_
  refine wp_skip ?_
  refine hK92 _ _ ?_
  refine wp_cond_true hv108 ?_
  refine wp_seq_k fun K109 hK109 => ?_
  refine wp_g0 [true, true, true, true, false] [(4, false)] 28
    [ve (pv q9),
     ve (iv ((asM a).k)),
     ve (.bool true),
     ve (nv (infM true)),
     vt] hs98 (.eq (.eq (.eq (.eq (.tt (.nil)))))) ?_ ?_
  refine .o1 (tk rfl rfl fun _ w hn k => ⟨_, v_field rfl (k.fx 1 h100) (fun w => rfl), rfl⟩) ?_
  refine .o1 (tk rfl rfl fun _ w hn k => ⟨_, v_load rfl (k.eq1 0 13 rfl) (l_one Try.isAgg3 ((hb104.new_ hn).cell 0)), rfl⟩) ?_
  refine .o1 (tk rfl rfl fun _ w hn k => ⟨_, v_bin rfl (k.eq1 1 14 rfl) rfl (fun _ => rfl) (r_eql ht107), rfl⟩) ?_
  refine .o1 (ck rfl rfl rfl (fun _ w hn k => ⟨#[.bool true], args1 (k.eq1 2 15 rfl), fun _ => by kernel_rfl, inf_c true _ ⟩) fun _ => rfl) ?_
  refine .off ?_
  exact .nil
  intro a110 w111 hn112 ha113
  obtain ⟨hs114, hd115, hN119⟩ := aft ha113 hs98 hd99 hN106 hn112
  have h116 := ha113.fx 2 h101
  have h117 := ha113.ge 3 16 rfl
  have hb118 := hb105.new_ hn112
  obtain ⟨w120, -, hst121, hb122, hu123, hf124⟩ := s_two (v0 := iv ((infM true).k)) (v1 := iv ((infM true).n)) Try.sizeOf23 rfl rfl rfl hb118
  refine st_act rfl rfl fun K125 hL126 => a_store' rfl h116 h117 hst121 (hL126 _ _ trivial ?_)
  have hN127 := hN119.trans hu123 (fun k hk hkb => by subst hkb; omega)
  refine st_nil (hK109 _ _ ?_)
  refine wp_ret (ret_k hd115 (v := nv (infM true)) (res_c rfl h116 (l_two Try.isAgg23 Try.sizeOf23 hb122)) ?_)
  refine ⟨?_, hN127⟩
  show Ending.returned (nv (infM true)) = Ending.returned (nv (negM a))
  first | rfl | (simp only [negM, negA, infM, ht70, ht107, bsm] <;> rfl) | (simp [negM, negA, infM, ht70, ht107]; done) | (exfalso; omega)
  have ht107d := of_decide_eq_false ht107
  have hv128 := hB h103 ht107
  refine wp_cond_false hv128 ?_
  refine wp_g0 [true, true] [] 28
    [ve (.bool (decide (((asM a).k) = 4))),
     ve (.bool (decide (((asM a).k) = 4)))] hs98 (.eq (.eq (.nil))) ?_ ?_
  refine .o1 (tk rfl rfl fun _ w hn k => ⟨_, v_bin rfl (k.fx 6 h102) rfl (fun _ => rfl) (r_eql rfl), rfl⟩) ?_
  refine .o1 (tk rfl rfl fun _ w hn k => ⟨_, v_assign rfl (k.eq1 0 12 rfl), rfl⟩) ?_
  exact .nil
  intro a129 w130 hn131 ha132
  obtain ⟨hs133, hd134, hN141⟩ := aft ha132 hs98 hd99 hN106 hn131
  have h135 := ha132.fx 1 h100
  have h136 := ha132.fx 2 h101
  have h137 := ha132.fx 6 h102
  have h138 := ha132.ge 1 10 rfl
  have hb139 := hb104.new_ hn131
  have hb140 := hb105.new_ hn131
  refine st_nil (hK92 _ _ ?_)
  rcases Bool.eq_false_or_eq_true (decide (((asM a).k) = 4)) with ht142 | ht142
  have ht142d := of_decide_eq_true ht142
  have hv143 := hB h138 ht142
  refine wp_cond_true hv143 ?_
  refine wp_seq_k fun K144 hK144 => ?_
  refine wp_g0 [true, true, true, true, false] [(4, false)] 28
    [ve (pv q9),
     ve (iv ((asM a).k)),
     ve (.bool false),
     ve (nv (infM false)),
     vt] hs133 (.eq (.eq (.eq (.eq (.tt (.nil)))))) ?_ ?_
  refine .o1 (tk rfl rfl fun _ w hn k => ⟨_, v_field rfl (k.fx 1 h135) (fun w => rfl), rfl⟩) ?_
  refine .o1 (tk rfl rfl fun _ w hn k => ⟨_, v_load rfl (k.eq1 0 13 rfl) (l_one Try.isAgg3 ((hb139.new_ hn).cell 0)), rfl⟩) ?_
  refine .o1 (tk rfl rfl fun _ w hn k => ⟨_, v_bin rfl (k.eq1 1 14 rfl) rfl (fun _ => rfl) (r_eql ht107), rfl⟩) ?_
  refine .o1 (ck rfl rfl rfl (fun _ w hn k => ⟨#[.bool false], args1 (k.eq1 2 15 rfl), fun _ => by kernel_rfl, inf_c false _ ⟩) fun _ => rfl) ?_
  refine .off ?_
  exact .nil
  intro a145 w146 hn147 ha148
  obtain ⟨hs149, hd150, hN154⟩ := aft ha148 hs133 hd134 hN141 hn147
  have h151 := ha148.fx 2 h136
  have h152 := ha148.ge 3 16 rfl
  have hb153 := hb140.new_ hn147
  obtain ⟨w155, -, hst156, hb157, hu158, hf159⟩ := s_two (v0 := iv ((infM false).k)) (v1 := iv ((infM false).n)) Try.sizeOf23 rfl rfl rfl hb153
  refine st_act rfl rfl fun K160 hL161 => a_store' rfl h151 h152 hst156 (hL161 _ _ trivial ?_)
  have hN162 := hN154.trans hu158 (fun k hk hkb => by subst hkb; omega)
  refine st_nil (hK144 _ _ ?_)
  refine wp_ret (ret_k hd150 (v := nv (infM false)) (res_c rfl h151 (l_two Try.isAgg23 Try.sizeOf23 hb157)) ?_)
  refine ⟨?_, hN162⟩
  show Ending.returned (nv (infM false)) = Ending.returned (nv (negM a))
  first | rfl | (simp only [negM, negA, infM, ht70, ht107, ht142, bsm] <;> rfl) | (simp [negM, negA, infM, ht70, ht107, ht142]; done) | (exfalso; omega)
  have ht142d := of_decide_eq_false ht142
  have hv163 := hB h138 ht142
  refine wp_cond_false hv163 ?_
  refine wp_seq_k fun K164 hK164 => ?_
  refine wp_g0 [true, true] [] 28
    [ve (.bool (decide (((asM a).k) = 1))),
     ve (.bool (decide (((asM a).k) = 1)))] hs133 (.eq (.eq (.nil))) ?_ ?_
  refine .o1 (tk rfl rfl fun _ w hn k => ⟨_, v_bin rfl (k.fx 6 h137) rfl (fun _ => rfl) (r_eql rfl), rfl⟩) ?_
  refine .o1 (tk rfl rfl fun _ w hn k => ⟨_, v_assign rfl (k.eq1 0 18 rfl), rfl⟩) ?_
  exact .nil
  intro a165 w166 hn167 ha168
  obtain ⟨hs169, hd170, hN176⟩ := aft ha168 hs133 hd134 hN141 hn167
  have h171 := ha168.fx 1 h135
  have h172 := ha168.fx 2 h136
  have h173 := ha168.ge 1 17 rfl
  have hb174 := hb139.new_ hn167
  have hb175 := hb140.new_ hn167
  refine st_nil (hK164 _ _ ?_)
  rcases Bool.eq_false_or_eq_true (decide (((asM a).k) = 1)) with ht177 | ht177
  have ht177d := of_decide_eq_true ht177
  have hv178 := hB h173 ht177
  refine wp_cond_true hv178 ?_
  refine wp_seq_k fun K179 hK179 => ?_
  refine wp_g0 [true, false] [(1, false)] 28
    [ve (nv (Nm.mk 0 0)),
     vt] hs169 (.eq (.tt (.nil))) ?_ ?_
  refine .o1 (ck rfl rfl rfl (fun _ w hn k => ⟨#[iv 0], args1 rfl, fun _ => by kernel_rfl, whole_c 0 _ ⟩) fun _ => rfl) ?_
  refine .off ?_
  exact .nil
  intro a180 w181 hn182 ha183
  obtain ⟨hs184, hd185, hN189⟩ := aft ha183 hs169 hd170 hN176 hn182
  have h186 := ha183.fx 2 h172
  have h187 := ha183.ge 0 19 rfl
  have hb188 := hb175.new_ hn182
  obtain ⟨w190, -, hst191, hb192, hu193, hf194⟩ := s_two (v0 := iv 0) (v1 := iv 0) Try.sizeOf23 rfl rfl rfl hb188
  refine st_act rfl rfl fun K195 hL196 => a_store' rfl h186 h187 hst191 (hL196 _ _ trivial ?_)
  have hN197 := hN189.trans hu193 (fun k hk hkb => by subst hkb; omega)
  refine st_nil (hK179 _ _ ?_)
  refine wp_ret (ret_k hd185 (v := nv (Nm.mk 0 0)) (res_c rfl h186 (l_two Try.isAgg23 Try.sizeOf23 hb192)) ?_)
  refine ⟨?_, hN197⟩
  show Ending.returned (nv (Nm.mk 0 0)) = Ending.returned (nv (negM a))
  first | rfl | (simp only [negM, negA, infM, ht70, ht107, ht142, ht177, bsm] <;> rfl) | (simp [negM, negA, infM, ht70, ht107, ht142, ht177]; done) | (exfalso; omega)
  have ht177d := of_decide_eq_false ht177
  have hv198 := hB h173 ht177
  refine wp_cond_false hv198 ?_
  refine wp_skip ?_
  refine hK42 _ _ ?_
  refine wp_seq_k fun K199 hK199 => ?_
  refine wp_seq_k fun K200 hK200 => ?_
  refine wp_g0 [true, true, true] [] 28
    [ve (.pointer (some ⟨q9, 1, none⟩)),
     ve (iv ((asM a).n)),
     ve (.bool (decide (((asM a).n) = 0)))] hs169 (.eq (.eq (.eq (.nil)))) ?_ ?_
  refine .o1 (tk rfl rfl fun _ w hn k => ⟨_, v_field rfl (k.fx 1 h171) (fun w => rfl), rfl⟩) ?_
  refine .o1 (tk rfl rfl fun _ w hn k => ⟨_, v_load rfl (k.eq1 0 20 rfl) (l_one Try.isAgg3 ((hb174.new_ hn).cell 1)), rfl⟩) ?_
  refine .o1 (tk rfl rfl fun _ w hn k => ⟨_, v_bin rfl (k.eq1 1 21 rfl) rfl (fun _ => rfl) (r_eql rfl), rfl⟩) ?_
  exact .nil
  intro a201 w202 hn203 ha204
  obtain ⟨hs205, hd206, hN212⟩ := aft ha204 hs169 hd170 hN176 hn203
  have h207 := ha204.fx 1 h171
  have h208 := ha204.fx 2 h172
  have h209 := ha204.ge 2 22 rfl
  have hb210 := hb174.new_ hn203
  have hb211 := hb175.new_ hn203
  refine st_nil (hK200 _ _ ?_)
  rcases Bool.eq_false_or_eq_true (decide (((asM a).n) = 0)) with ht213 | ht213
  have ht213d := of_decide_eq_true ht213
  have hv214 := hB h209 ht213
  refine wp_cond_true hv214 ?_
  refine wp_seq_k fun K215 hK215 => ?_
  refine wp_g0 [true, false] [(1, false)] 28
    [ve (nv (noughtM true)),
     vt] hs205 (.eq (.tt (.nil))) ?_ ?_
  refine .o1 (ck rfl rfl rfl (fun _ w hn k => ⟨#[.bool true], args1 rfl, fun _ => by kernel_rfl, nought_c true _ ⟩) fun _ => rfl) ?_
  refine .off ?_
  exact .nil
  intro a216 w217 hn218 ha219
  obtain ⟨hs220, hd221, hN225⟩ := aft ha219 hs205 hd206 hN212 hn218
  have h222 := ha219.fx 2 h208
  have h223 := ha219.ge 0 23 rfl
  have hb224 := hb211.new_ hn218
  obtain ⟨w226, -, hst227, hb228, hu229, hf230⟩ := s_two (v0 := iv ((noughtM true).k)) (v1 := iv ((noughtM true).n)) Try.sizeOf23 rfl rfl rfl hb224
  refine st_act rfl rfl fun K231 hL232 => a_store' rfl h222 h223 hst227 (hL232 _ _ trivial ?_)
  have hN233 := hN225.trans hu229 (fun k hk hkb => by subst hkb; omega)
  refine st_nil (hK215 _ _ ?_)
  refine wp_ret (ret_k hd221 (v := nv (noughtM true)) (res_c rfl h222 (l_two Try.isAgg23 Try.sizeOf23 hb228)) ?_)
  refine ⟨?_, hN233⟩
  show Ending.returned (nv (noughtM true)) = Ending.returned (nv (negM a))
  first | rfl | (simp only [negM, negA, infM, ht70, ht107, ht142, ht177, ht213, bsm] <;> rfl) | (simp [negM, negA, infM, ht70, ht107, ht142, ht177, ht213]; done) | (exfalso; omega)
  have ht213d := of_decide_eq_false ht213
  have hv234 := hB h209 ht213
  refine wp_cond_false hv234 ?_
  refine wp_skip ?_
  refine hK199 _ _ ?_
  refine wp_seq_k fun K235 hK235 => ?_
  refine wp_g0 [true, true, true, true, false] [(4, false)] 28
    [ve (.pointer (some ⟨q9, 1, none⟩)),
     ve (iv ((asM a).n)),
     ve (iv (-((asM a).n))),
     ve (nv (Nm.mk 0 (-((asM a).n)))),
     vt] hs205 (.eq (.eq (.eq (.eq (.tt (.nil)))))) ?_ ?_
  refine .o1 (tk rfl rfl fun _ w hn k => ⟨_, v_field rfl (k.fx 1 h207) (fun w => rfl), rfl⟩) ?_
  refine .o1 (tk rfl rfl fun _ w hn k => ⟨_, v_load rfl (k.eq1 0 24 rfl) (l_one Try.isAgg3 ((hb210.new_ hn).cell 1)), rfl⟩) ?_
  refine .o1 (tk rfl rfl fun _ w hn k => ⟨_, v_neg rfl (k.eq1 1 25 rfl) (by omega), rfl⟩) ?_
  refine .o1 (ck rfl rfl rfl (fun _ w hn k => ⟨#[iv (-((asM a).n))], args1 (k.eq1 2 26 rfl), fun _ => by kernel_rfl, whole_c (-((asM a).n)) _ ⟩) fun _ => rfl) ?_
  refine .off ?_
  exact .nil
  intro a236 w237 hn238 ha239
  obtain ⟨hs240, hd241, hN245⟩ := aft ha239 hs205 hd206 hN212 hn238
  have h242 := ha239.fx 2 h208
  have h243 := ha239.ge 3 27 rfl
  have hb244 := hb211.new_ hn238
  obtain ⟨w246, -, hst247, hb248, hu249, hf250⟩ := s_two (v0 := iv 0) (v1 := iv (-((asM a).n))) Try.sizeOf23 rfl rfl rfl hb244
  refine st_act rfl rfl fun K251 hL252 => a_store' rfl h242 h243 hst247 (hL252 _ _ trivial ?_)
  have hN253 := hN245.trans hu249 (fun k hk hkb => by subst hkb; omega)
  refine st_nil (hK235 _ _ ?_)
  refine wp_ret (ret_k hd241 (v := nv (Nm.mk 0 (-((asM a).n)))) (res_c rfl h242 (l_two Try.isAgg23 Try.sizeOf23 hb248)) ?_)
  refine ⟨?_, hN253⟩
  show Ending.returned (nv (Nm.mk 0 (-((asM a).n)))) = Ending.returned (nv (negM a))
  first | rfl | (simp only [negM, negA, infM, ht70, ht107, ht142, ht177, ht213, bsm] <;> rfl) | (simp [negM, negA, infM, ht70, ht107, ht142, ht177, ht213]; done) | (exfalso; omega)
set_option maxHeartbeats 4000000 in
set_option maxRecDepth 100000 in
theorem nwhole_c (a : Nm) (w : World) : Calls Try.prog 62 #[nv a] w (IsRet (nv (wholeM a)) w) := by
  refine enter_abs Try.func62 rfl fun a0 hs0 hd0 hp => ?_
  have hs0 : a0.tmps.size = 15 := hs0
  have hN0 : New w w := Upd.refl _ _
  have hp0 : a0.eval (.tmp 0) = nv a := hp 0 _ rfl
  refine wp_seq_k fun K1 hK1 => ?_
  refine wp_g [true, true] [] [] 15
    [IsNew w 23 [iv a.k, iv a.n],
     IsNew w 23 [iv 0, iv 0]]
    [0, 1] (newsCons (fun v w h => IsNew.old h) (newsCons (fun v w h => IsNew.old h) newsNil)) hs0 (.nw (.nw (.nil))) ?_ (fun i h => by cases h) ?_
  refine .o2 (step_allocN (cs := [iv a.k, iv a.n]) (t := 23) rfl (noG rfl) (fun _ w hn k => v_box rfl (k.fx 0 hp0) (fun w => rfl)) (fun q _ hq hb => ⟨q, rfl, hq, hb⟩)) ?_
  refine .o2 (step_allocN (cs := [iv 0, iv 0]) (t := 23) rfl (noG rfl) (fun _ w hn k => rfl) (fun q _ hq hb => ⟨q, rfl, hq, hb⟩)) ?_
  exact .nil
  intro a2 w3 hn4 ha5
  obtain ⟨hs6, hd7, hN19⟩ := aft ha5 hs0 hd0 hN0 hn4
  obtain ⟨q9, h8, hq10, hb11⟩ : IsNew _ _ _ _ _ := ha5.got 0 1 rfl (by kernel_rfl)
  obtain ⟨q13, h12, hq14, hb15⟩ : IsNew _ _ _ _ _ := ha5.got 1 2 rfl (by kernel_rfl)
  have hne16 : q9 ≠ q13 := ha5.ne 0 1 1 2 h8 h12
  have hq17 := Nat.le_trans hN0.size hq10
  have hq18 := Nat.le_trans hN0.size hq14
  refine st_nil (hK1 _ _ ?_)
  refine wp_seq_k fun K20 hK20 => ?_
  refine wp_seq_k fun K21 hK21 => ?_
  refine wp_g0 [true, true, false] [(2, false)] 15
    [ve (nv a),
     ve (nv (asM a)),
     vt] hs6 (.eq (.eq (.tt (.nil)))) ?_ ?_
  refine .o1 (tk rfl rfl fun _ w hn k => ⟨_, v_load rfl (k.fx 1 h8) (l_two Try.isAgg23 Try.sizeOf23 (hb11.new_ hn)), rfl⟩) ?_
  refine .o1 (ck rfl rfl rfl (fun _ w hn k => ⟨#[nv a], args1 (k.eq1 0 3 rfl), fun _ => by kernel_rfl, as_c a _ ⟩) fun _ => rfl) ?_
  refine .off ?_
  exact .nil
  intro a22 w23 hn24 ha25
  obtain ⟨hs26, hd27, hN33⟩ := aft ha25 hs6 hd7 hN19 hn24
  have h28 := ha25.fx 1 h8
  have h29 := ha25.fx 2 h12
  have h30 := ha25.ge 1 4 rfl
  have hb31 := hb11.new_ hn24
  have hb32 := hb15.new_ hn24
  have hbd_a := as_bd a
  obtain ⟨w34, -, hst35, hb36, hu37, hf38⟩ := s_two (v0 := iv ((asM a).k)) (v1 := iv ((asM a).n)) Try.sizeOf23 rfl rfl rfl hb31
  refine st_act rfl rfl fun K39 hL40 => a_store' rfl h28 h30 hst35 (hL40 _ _ trivial ?_)
  have hb41 := hf38 _ _ _ (fun h => hne16 h.symm) hb32
  have hN42 := hN33.trans hu37 (fun k hk hkb => by subst hkb; omega)
  refine st_nil (hK21 _ _ ?_)
  refine wp_seq_k fun K43 hK43 => ?_
  rcases Bool.eq_false_or_eq_true (decide (((asM a).k) = 2)) with ht44 | ht44
  have ht44d := of_decide_eq_true ht44
  refine wp_g0 [true, true, true, true, true, true, true, true] [] 15
    [ve (pv q9),
     ve (iv ((asM a).k)),
     ve (.bool true),
     ve (.bool true),
     ve undef,
     ve undef,
     ve undef,
     ve (.bool true)] hs26 (.eq (.eq (.eq (.eq (.eq (.eq (.eq (.eq (.nil))))))))) ?_ ?_
  refine .o1 (tk rfl rfl fun _ w hn k => ⟨_, v_field rfl (k.fx 1 h28) (fun w => rfl), rfl⟩) ?_
  refine .o1 (tk rfl rfl fun _ w hn k => ⟨_, v_load rfl (k.eq1 0 5 rfl) (l_one Try.isAgg3 ((hb36.new_ hn).cell 0)), rfl⟩) ?_
  refine .o1 (tk rfl rfl fun _ w hn k => ⟨_, v_bin rfl (k.eq1 1 6 rfl) rfl (fun _ => rfl) (r_eql ht44), rfl⟩) ?_
  refine .o1 (tk rfl rfl fun _ w hn k => ⟨_, v_move rfl (k.eq1 2 7 rfl), rfl⟩) ?_
  refine .o1 (sk rfl rfl rfl (fun _ _ _ k => k.eq1 3 8 rfl) (fun _ => rfl)) ?_
  refine .o1 (sk rfl rfl rfl (fun _ _ _ k => k.eq1 3 8 rfl) (fun _ => rfl)) ?_
  refine .o1 (sk rfl rfl rfl (fun _ _ _ k => k.eq1 3 8 rfl) (fun _ => rfl)) ?_
  refine .o1 (tk rfl rfl fun _ w hn k => ⟨_, v_pickT rfl (k.eq1 3 8 rfl) rfl, rfl⟩) ?_
  exact .nil
  intro a45 w46 hn47 ha48
  obtain ⟨hs49, hd50, hN56⟩ := aft ha48 hs26 hd27 hN42 hn47
  have h51 := ha48.fx 1 h28
  have h52 := ha48.fx 2 h29
  have h53 := ha48.ge 7 12 rfl
  have hb54 := hb36.new_ hn47
  have hb55 := hb41.new_ hn47
  refine st_nil (hK43 _ _ ?_)
  refine wp_cond_true h53 ?_
  refine wp_seq_k fun K57 hK57 => ?_
  refine wp_g0 [true, false] [(1, false)] 15
    [ve (nv (Nm.mk 0 0)),
     vt] hs49 (.eq (.tt (.nil))) ?_ ?_
  refine .o1 (ck rfl rfl rfl (fun _ w hn k => ⟨#[iv 0], args1 rfl, fun _ => by kernel_rfl, whole_c 0 _ ⟩) fun _ => rfl) ?_
  refine .off ?_
  exact .nil
  intro a58 w59 hn60 ha61
  obtain ⟨hs62, hd63, hN67⟩ := aft ha61 hs49 hd50 hN56 hn60
  have h64 := ha61.fx 2 h52
  have h65 := ha61.ge 0 13 rfl
  have hb66 := hb55.new_ hn60
  obtain ⟨w68, -, hst69, hb70, hu71, hf72⟩ := s_two (v0 := iv 0) (v1 := iv 0) Try.sizeOf23 rfl rfl rfl hb66
  refine st_act rfl rfl fun K73 hL74 => a_store' rfl h64 h65 hst69 (hL74 _ _ trivial ?_)
  have hN75 := hN67.trans hu71 (fun k hk hkb => by subst hkb; omega)
  refine st_nil (hK57 _ _ ?_)
  refine wp_ret (ret_k hd63 (v := nv (Nm.mk 0 0)) (res_c rfl h64 (l_two Try.isAgg23 Try.sizeOf23 hb70)) ?_)
  refine ⟨?_, hN75⟩
  show Ending.returned (nv (Nm.mk 0 0)) = Ending.returned (nv (wholeM a))
  first | rfl | (simp only [wholeM, ht44, bsm] <;> rfl) | (simp [wholeM, ht44]; done) | (exfalso; omega)
  have ht44d := of_decide_eq_false ht44
  refine wp_g0 [true, true, true, true, true, true, true, true] [] 15
    [ve (pv q9),
     ve (iv ((asM a).k)),
     ve (.bool false),
     ve (.bool false),
     ve (pv q9),
     ve (iv ((asM a).k)),
     ve (.bool (decide (((asM a).k) = 1))),
     ve (.bool (decide (((asM a).k) = 1)))] hs26 (.eq (.eq (.eq (.eq (.eq (.eq (.eq (.eq (.nil))))))))) ?_ ?_
  refine .o1 (tk rfl rfl fun _ w hn k => ⟨_, v_field rfl (k.fx 1 h28) (fun w => rfl), rfl⟩) ?_
  refine .o1 (tk rfl rfl fun _ w hn k => ⟨_, v_load rfl (k.eq1 0 5 rfl) (l_one Try.isAgg3 ((hb36.new_ hn).cell 0)), rfl⟩) ?_
  refine .o1 (tk rfl rfl fun _ w hn k => ⟨_, v_bin rfl (k.eq1 1 6 rfl) rfl (fun _ => rfl) (r_eql ht44), rfl⟩) ?_
  refine .o1 (tk rfl rfl fun _ w hn k => ⟨_, v_move rfl (k.eq1 2 7 rfl), rfl⟩) ?_
  refine .o1 (tg rfl rfl rfl (fun _ _ k => k.eq1 3 8 rfl) fun _ w hn k => ⟨_, v_field rfl (k.fx 1 h28) (fun w => rfl), rfl⟩) ?_
  refine .o1 (tg rfl rfl rfl (fun _ _ k => k.eq1 3 8 rfl) fun _ w hn k => ⟨_, v_load rfl (k.eq1 4 9 rfl) (l_one Try.isAgg3 ((hb36.new_ hn).cell 0)), rfl⟩) ?_
  refine .o1 (tg rfl rfl rfl (fun _ _ k => k.eq1 3 8 rfl) fun _ w hn k => ⟨_, v_bin rfl (k.eq1 5 10 rfl) rfl (fun _ => rfl) (r_eql rfl), rfl⟩) ?_
  refine .o1 (tk rfl rfl fun _ w hn k => ⟨_, v_pickF rfl (k.eq1 3 8 rfl) (k.eq1 6 11 rfl), rfl⟩) ?_
  exact .nil
  intro a76 w77 hn78 ha79
  obtain ⟨hs80, hd81, hN87⟩ := aft ha79 hs26 hd27 hN42 hn78
  have h82 := ha79.fx 1 h28
  have h83 := ha79.fx 2 h29
  have h84 := ha79.ge 7 12 rfl
  have hb85 := hb36.new_ hn78
  have hb86 := hb41.new_ hn78
  refine st_nil (hK43 _ _ ?_)
  rcases Bool.eq_false_or_eq_true (decide (((asM a).k) = 1)) with ht88 | ht88
  have ht88d := of_decide_eq_true ht88
  have hv89 := hB h84 ht88
  refine wp_cond_true hv89 ?_
  refine wp_seq_k fun K90 hK90 => ?_
  refine wp_g0 [true, false] [(1, false)] 15
    [ve (nv (Nm.mk 0 0)),
     vt] hs80 (.eq (.tt (.nil))) ?_ ?_
  refine .o1 (ck rfl rfl rfl (fun _ w hn k => ⟨#[iv 0], args1 rfl, fun _ => by kernel_rfl, whole_c 0 _ ⟩) fun _ => rfl) ?_
  refine .off ?_
  exact .nil
  intro a91 w92 hn93 ha94
  obtain ⟨hs95, hd96, hN100⟩ := aft ha94 hs80 hd81 hN87 hn93
  have h97 := ha94.fx 2 h83
  have h98 := ha94.ge 0 13 rfl
  have hb99 := hb86.new_ hn93
  obtain ⟨w101, -, hst102, hb103, hu104, hf105⟩ := s_two (v0 := iv 0) (v1 := iv 0) Try.sizeOf23 rfl rfl rfl hb99
  refine st_act rfl rfl fun K106 hL107 => a_store' rfl h97 h98 hst102 (hL107 _ _ trivial ?_)
  have hN108 := hN100.trans hu104 (fun k hk hkb => by subst hkb; omega)
  refine st_nil (hK90 _ _ ?_)
  refine wp_ret (ret_k hd96 (v := nv (Nm.mk 0 0)) (res_c rfl h97 (l_two Try.isAgg23 Try.sizeOf23 hb103)) ?_)
  refine ⟨?_, hN108⟩
  show Ending.returned (nv (Nm.mk 0 0)) = Ending.returned (nv (wholeM a))
  first | rfl | (simp only [wholeM, ht44, ht88, bsm] <;> rfl) | (simp [wholeM, ht44, ht88]; done) | (exfalso; omega)
  have ht88d := of_decide_eq_false ht88
  have hv109 := hB h84 ht88
  refine wp_cond_false hv109 ?_
  refine wp_skip ?_
  refine hK20 _ _ ?_
  refine wp_seq_k fun K110 hK110 => ?_
  refine wp_g0 [true, false] [(1, false)] 15
    [ve (nv (asM a)),
     vt] hs80 (.eq (.tt (.nil))) ?_ ?_
  refine .o1 (tk rfl rfl fun _ w hn k => ⟨_, v_load rfl (k.fx 1 h82) (l_two Try.isAgg23 Try.sizeOf23 (hb85.new_ hn)), rfl⟩) ?_
  refine .off ?_
  exact .nil
  intro a111 w112 hn113 ha114
  obtain ⟨hs115, hd116, hN120⟩ := aft ha114 hs80 hd81 hN87 hn113
  have h117 := ha114.fx 2 h83
  have h118 := ha114.ge 0 14 rfl
  have hb119 := hb86.new_ hn113
  obtain ⟨w121, -, hst122, hb123, hu124, hf125⟩ := s_two (v0 := iv ((asM a).k)) (v1 := iv ((asM a).n)) Try.sizeOf23 rfl rfl rfl hb119
  refine st_act rfl rfl fun K126 hL127 => a_store' rfl h117 h118 hst122 (hL127 _ _ trivial ?_)
  have hN128 := hN120.trans hu124 (fun k hk hkb => by subst hkb; omega)
  refine st_nil (hK110 _ _ ?_)
  refine wp_ret (ret_k hd116 (v := nv (asM a)) (res_c rfl h117 (l_two Try.isAgg23 Try.sizeOf23 hb123)) ?_)
  refine ⟨?_, hN128⟩
  show Ending.returned (nv (asM a)) = Ending.returned (nv (wholeM a))
  first | rfl | (simp only [wholeM, ht44, ht88, bsm] <;> rfl) | (simp [wholeM, ht44, ht88]; done) | (exfalso; omega)
set_option maxHeartbeats 4000000 in
set_option maxRecDepth 100000 in
theorem nindex_c (a : Nm) (w : World) : Calls Try.prog 38 #[nv a] w (IsRet (.tuple #[iv ((indexM a).1), .bool ((indexM a).2)]) w) := by
  refine enter_abs Try.func38 rfl fun a0 hs0 hd0 hp => ?_
  have hs0 : a0.tmps.size = 16 := hs0
  have hN0 : New w w := Upd.refl _ _
  have hp0 : a0.eval (.tmp 0) = nv a := hp 0 _ rfl
  refine wp_seq_k fun K1 hK1 => ?_
  refine wp_g [true, true, true] [] [] 16
    [IsNew w 23 [iv a.k, iv a.n],
     ve (iv 0),
     ve (.bool false)]
    [0] (newsCons (fun v w h => IsNew.old h) newsNil) hs0 (.nw (.eq (.eq (.nil)))) ?_ (fun i h => by cases h) ?_
  refine .o2 (step_allocN (cs := [iv a.k, iv a.n]) (t := 23) rfl (noG rfl) (fun _ w hn k => v_box rfl (k.fx 0 hp0) (fun w => rfl)) (fun q _ hq hb => ⟨q, rfl, hq, hb⟩)) ?_
  refine .o1 (tk rfl rfl fun _ w hn k => ⟨_, v_assign rfl rfl, rfl⟩) ?_
  refine .o1 (tk rfl rfl fun _ w hn k => ⟨_, v_assign rfl rfl, rfl⟩) ?_
  exact .nil
  intro a2 w3 hn4 ha5
  obtain ⟨hs6, hd7, hN13⟩ := aft ha5 hs0 hd0 hN0 hn4
  obtain ⟨q9, h8, hq10, hb11⟩ : IsNew _ _ _ _ _ := ha5.got 0 1 rfl (by kernel_rfl)
  have hq12 := Nat.le_trans hN0.size hq10
  refine st_nil (hK1 _ _ ?_)
  refine wp_seq_k fun K14 hK14 => ?_
  refine wp_seq_k fun K15 hK15 => ?_
  refine wp_g0 [true, true, false] [(2, false)] 16
    [ve (nv a),
     ve (nv (wholeM a)),
     vt] hs6 (.eq (.eq (.tt (.nil)))) ?_ ?_
  refine .o1 (tk rfl rfl fun _ w hn k => ⟨_, v_load rfl (k.fx 1 h8) (l_two Try.isAgg23 Try.sizeOf23 (hb11.new_ hn)), rfl⟩) ?_
  refine .o1 (ck rfl rfl rfl (fun _ w hn k => ⟨#[nv a], args1 (k.eq1 0 4 rfl), fun _ => by kernel_rfl, nwhole_c a _ ⟩) fun _ => rfl) ?_
  refine .off ?_
  exact .nil
  intro a16 w17 hn18 ha19
  obtain ⟨hs20, hd21, hN25⟩ := aft ha19 hs6 hd7 hN13 hn18
  have h22 := ha19.fx 1 h8
  have h23 := ha19.ge 1 5 rfl
  have hb24 := hb11.new_ hn18
  have hwb_a := whole_bd a
  obtain ⟨w26, -, hst27, hb28, hu29, hf30⟩ := s_two (v0 := iv ((wholeM a).k)) (v1 := iv ((wholeM a).n)) Try.sizeOf23 rfl rfl rfl hb24
  refine st_act rfl rfl fun K31 hL32 => a_store' rfl h22 h23 hst27 (hL32 _ _ trivial ?_)
  have hN33 := hN25.trans hu29 (fun k hk hkb => by subst hkb; omega)
  refine st_nil (hK15 _ _ ?_)
  refine wp_seq_k fun K34 hK34 => ?_
  rcases Bool.eq_false_or_eq_true (decide (((wholeM a).k) = 0)) with ht35 | ht35
  have ht35d := of_decide_eq_true ht35
  refine wp_g0 [true, true, true, true, true, true, true, true] [] 16
    [ve (pv q9),
     ve (iv ((wholeM a).k)),
     ve (.bool false),
     ve (.bool false),
     ve (.pointer (some ⟨q9, 1, none⟩)),
     ve (iv ((wholeM a).n)),
     ve (.bool (decide (((wholeM a).n) < 0))),
     ve (.bool (decide (((wholeM a).n) < 0)))] hs20 (.eq (.eq (.eq (.eq (.eq (.eq (.eq (.eq (.nil))))))))) ?_ ?_
  refine .o1 (tk rfl rfl fun _ w hn k => ⟨_, v_field rfl (k.fx 1 h22) (fun w => rfl), rfl⟩) ?_
  refine .o1 (tk rfl rfl fun _ w hn k => ⟨_, v_load rfl (k.eq1 0 6 rfl) (l_one Try.isAgg3 ((hb28.new_ hn).cell 0)), rfl⟩) ?_
  refine .o1 (tk rfl rfl fun _ w hn k => ⟨_, v_bin rfl (k.eq1 1 7 rfl) rfl (fun _ => rfl) (r_neq ht35), rfl⟩) ?_
  refine .o1 (tk rfl rfl fun _ w hn k => ⟨_, v_move rfl (k.eq1 2 8 rfl), rfl⟩) ?_
  refine .o1 (tg rfl rfl rfl (fun _ _ k => k.eq1 3 9 rfl) fun _ w hn k => ⟨_, v_field rfl (k.fx 1 h22) (fun w => rfl), rfl⟩) ?_
  refine .o1 (tg rfl rfl rfl (fun _ _ k => k.eq1 3 9 rfl) fun _ w hn k => ⟨_, v_load rfl (k.eq1 4 10 rfl) (l_one Try.isAgg3 ((hb28.new_ hn).cell 1)), rfl⟩) ?_
  refine .o1 (tg rfl rfl rfl (fun _ _ k => k.eq1 3 9 rfl) fun _ w hn k => ⟨_, v_bin rfl (k.eq1 5 11 rfl) rfl (fun _ => rfl) (r_lssK rfl), rfl⟩) ?_
  refine .o1 (tk rfl rfl fun _ w hn k => ⟨_, v_pickF rfl (k.eq1 3 9 rfl) (k.eq1 6 12 rfl), rfl⟩) ?_
  exact .nil
  intro a36 w37 hn38 ha39
  obtain ⟨hs40, hd41, hN45⟩ := aft ha39 hs20 hd21 hN33 hn38
  have h42 := ha39.fx 1 h22
  have h43 := ha39.ge 7 13 rfl
  have hb44 := hb28.new_ hn38
  refine st_nil (hK34 _ _ ?_)
  rcases Bool.eq_false_or_eq_true (decide (((wholeM a).n) < 0)) with ht46 | ht46
  have ht46d := of_decide_eq_true ht46
  have hv47 := hB h43 ht46
  refine wp_cond_true hv47 ?_
  refine wp_seq_k fun K48 hK48 => ?_
  refine wp_g0 [true, true] [] 16
    [ve (iv 0),
     ve (.bool false)] hs40 (.eq (.eq (.nil))) ?_ ?_
  refine .o1 (tk rfl rfl fun _ w hn k => ⟨_, v_assign rfl rfl, rfl⟩) ?_
  refine .o1 (tk rfl rfl fun _ w hn k => ⟨_, v_assign rfl rfl, rfl⟩) ?_
  exact .nil
  intro a49 w50 hn51 ha52
  obtain ⟨hs53, hd54, hN57⟩ := aft ha52 hs40 hd41 hN45 hn51
  have h55 := ha52.ge 0 2 rfl
  have h56 := ha52.ge 1 3 rfl
  refine st_nil (hK48 _ _ ?_)
  refine wp_ret (ret_k hd54 (v := .tuple #[iv 0, .bool false]) (res_tt rfl h55 h56 _) ?_)
  refine ⟨?_, hN57⟩
  show Ending.returned (.tuple #[iv 0, .bool false]) = Ending.returned (.tuple #[iv ((indexM a).1), .bool ((indexM a).2)])
  first | rfl | (simp only [indexM, ht35, ht46, bsm] <;> rfl) | (simp [indexM, ht35, ht46]; done) | (exfalso; omega)
  have ht46d := of_decide_eq_false ht46
  have hv58 := hB h43 ht46
  refine wp_cond_false hv58 ?_
  refine wp_skip ?_
  refine hK14 _ _ ?_
  refine wp_seq_k fun K59 hK59 => ?_
  refine wp_g0 [true, true, true, true] [] 16
    [ve (.pointer (some ⟨q9, 1, none⟩)),
     ve (iv ((wholeM a).n)),
     ve (iv ((wholeM a).n)),
     ve (.bool true)] hs40 (.eq (.eq (.eq (.eq (.nil))))) ?_ ?_
  refine .o1 (tk rfl rfl fun _ w hn k => ⟨_, v_field rfl (k.fx 1 h42) (fun w => rfl), rfl⟩) ?_
  refine .o1 (tk rfl rfl fun _ w hn k => ⟨_, v_load rfl (k.eq1 0 14 rfl) (l_one Try.isAgg3 ((hb44.new_ hn).cell 1)), rfl⟩) ?_
  refine .o1 (tk rfl rfl fun _ w hn k => ⟨_, v_assign rfl (k.eq1 1 15 rfl), rfl⟩) ?_
  refine .o1 (tk rfl rfl fun _ w hn k => ⟨_, v_assign rfl rfl, rfl⟩) ?_
  exact .nil
  intro a60 w61 hn62 ha63
  obtain ⟨hs64, hd65, hN68⟩ := aft ha63 hs40 hd41 hN45 hn62
  have h66 := ha63.ge 2 2 rfl
  have h67 := ha63.ge 3 3 rfl
  refine st_nil (hK59 _ _ ?_)
  refine wp_ret (ret_k hd65 (v := .tuple #[iv ((wholeM a).n), .bool true]) (res_tt rfl h66 h67 _) ?_)
  refine ⟨?_, hN68⟩
  show Ending.returned (.tuple #[iv ((wholeM a).n), .bool true]) = Ending.returned (.tuple #[iv ((indexM a).1), .bool ((indexM a).2)])
  first | rfl | (simp only [indexM, ht35, ht46, bsm] <;> rfl) | (simp [indexM, ht35, ht46]; done) | (exfalso; omega)
  have ht35d := of_decide_eq_false ht35
  refine wp_g0 [true, true, true, true, true, true, true, true] [] 16
    [ve (pv q9),
     ve (iv ((wholeM a).k)),
     ve (.bool true),
     ve (.bool true),
     ve undef,
     ve undef,
     ve undef,
     ve (.bool true)] hs20 (.eq (.eq (.eq (.eq (.eq (.eq (.eq (.eq (.nil))))))))) ?_ ?_
  refine .o1 (tk rfl rfl fun _ w hn k => ⟨_, v_field rfl (k.fx 1 h22) (fun w => rfl), rfl⟩) ?_
  refine .o1 (tk rfl rfl fun _ w hn k => ⟨_, v_load rfl (k.eq1 0 6 rfl) (l_one Try.isAgg3 ((hb28.new_ hn).cell 0)), rfl⟩) ?_
  refine .o1 (tk rfl rfl fun _ w hn k => ⟨_, v_bin rfl (k.eq1 1 7 rfl) rfl (fun _ => rfl) (r_neq ht35), rfl⟩) ?_
  refine .o1 (tk rfl rfl fun _ w hn k => ⟨_, v_move rfl (k.eq1 2 8 rfl), rfl⟩) ?_
  refine .o1 (sk rfl rfl rfl (fun _ _ _ k => k.eq1 3 9 rfl) (fun _ => rfl)) ?_
  refine .o1 (sk rfl rfl rfl (fun _ _ _ k => k.eq1 3 9 rfl) (fun _ => rfl)) ?_
  refine .o1 (sk rfl rfl rfl (fun _ _ _ k => k.eq1 3 9 rfl) (fun _ => rfl)) ?_
  refine .o1 (tk rfl rfl fun _ w hn k => ⟨_, v_pickT rfl (k.eq1 3 9 rfl) rfl, rfl⟩) ?_
  exact .nil
  intro a69 w70 hn71 ha72
  obtain ⟨hs73, hd74, hN78⟩ := aft ha72 hs20 hd21 hN33 hn71
  have h75 := ha72.fx 1 h22
  have h76 := ha72.ge 7 13 rfl
  have hb77 := hb28.new_ hn71
  refine st_nil (hK34 _ _ ?_)
  refine wp_cond_true h76 ?_
  refine wp_seq_k fun K79 hK79 => ?_
  refine wp_g0 [true, true] [] 16
    [ve (iv 0),
     ve (.bool false)] hs73 (.eq (.eq (.nil))) ?_ ?_
  refine .o1 (tk rfl rfl fun _ w hn k => ⟨_, v_assign rfl rfl, rfl⟩) ?_
  refine .o1 (tk rfl rfl fun _ w hn k => ⟨_, v_assign rfl rfl, rfl⟩) ?_
  exact .nil
  intro a80 w81 hn82 ha83
  obtain ⟨hs84, hd85, hN88⟩ := aft ha83 hs73 hd74 hN78 hn82
  have h86 := ha83.ge 0 2 rfl
  have h87 := ha83.ge 1 3 rfl
  refine st_nil (hK79 _ _ ?_)
  refine wp_ret (ret_k hd85 (v := .tuple #[iv 0, .bool false]) (res_tt rfl h86 h87 _) ?_)
  refine ⟨?_, hN88⟩
  show Ending.returned (.tuple #[iv 0, .bool false]) = Ending.returned (.tuple #[iv ((indexM a).1), .bool ((indexM a).2)])
  first | rfl | (simp only [indexM, ht35, bsm] <;> rfl) | (simp [indexM, ht35]; done) | (exfalso; omega)
def btrim_c_P (Am : Option Addr) (m : List Nat) (cm : Nat) (w : World) (en : Ending) (w' : World) : Prop := ∃ (Ar0 : Option Addr) (cr0 : Nat), en = .returned (sv Ar0 (canon (val m)) cr0) ∧ SRow w' .u32 Ar0 (canon (val m)) cr0 ∧ New w w'
set_option maxHeartbeats 4000000 in
set_option maxRecDepth 100000 in
theorem btrim_c (Am : Option Addr) (m : List Nat) (cm : Nat) (w : World) (hrm : SRow w .u32 Am m cm) (hl : Limbs m) : Calls Try.prog 92 #[sv Am m cm] w (btrim_c_P Am m cm w) := by
  refine enter_abs Try.func92 rfl fun a0 hs0 hd0 hp => ?_
  have hs0 : a0.tmps.size = 21 := hs0
  have hN0 : New w w := Upd.refl _ _
  have hp0 : a0.eval (.tmp 0) = sv Am m cm := hp 0 _ rfl
  have hmx := hrm.max
  refine wp_seq_k fun K1 hK1 => ?_
  refine wp_g0 [true] [] 21
    [ve (sv none ([]) 0)] hs0 (.eq (.nil)) ?_ ?_
  refine .o1 (tk rfl rfl fun _ w hn k => ⟨_, v_assign rfl rfl, rfl⟩) ?_
  exact .nil
  intro a2 w3 hn4 ha5
  obtain ⟨hs6, hd7, hN9⟩ := aft ha5 hs0 hd0 hN0 hn4
  have h8 := ha5.fx 0 hp0
  refine st_nil (hK1 _ _ ?_)
  refine wp_seq_k fun K10 hK10 => ?_
  refine wp_block ?_
  refine wp_loopX (fun (mm : Nat) (aa : Act) (ww : World) => ∃ (kk : Nat) (A1 : Option Addr) (c1 : Nat), mm = kk ∧ aa.tmps.size = 21 ∧ aa.defers = [] ∧ New w ww ∧ aa.eval (.tmp 0) = sv A1 (m.take kk) c1 ∧ SRow ww .u32 A1 (m.take kk) c1 ∧ (kk ≤ m.length) ∧ (val (m.take kk) = val m)) (fun mm => mm) ⟨_, ⟨m.length, Am, cm, rfl, hs6, hd7, hN9, (h8.trans (by rw [List.take_length])), (by rw [List.take_length]; exact hrm.new_ hN9), (Nat.le_refl _), (by rw [List.take_length])⟩⟩ ?_
  rintro mm a11 w12 ⟨kk, A1, c1, hmm, hs13, hd14, hN15, h16, hr17, hk, hv⟩
  refine wp_seq_k fun K18 hK18 => ?_
  refine wp_seq_k fun K19 hK19 => ?_
  have htl : (m.take kk).length = kk := by rw [List.length_take]; omega
  rcases Bool.eq_false_or_eq_true (decide (((m.take kk).length : Int) ≤ 0)) with ht20 | ht20
  have ht20d := of_decide_eq_true ht20
  refine wp_g0 [true, true, true, true, true, true, true, true, true, true, true, true] [] 21
    [ve (sv A1 (m.take kk) c1),
     ve (iv ((m.take kk).length : Int)),
     ve (.bool false),
     ve (.bool false),
     ve undef,
     ve undef,
     ve undef,
     ve undef,
     ve undef,
     ve undef,
     ve undef,
     ve (.bool false)] hs13 (.eq (.eq (.eq (.eq (.eq (.eq (.eq (.eq (.eq (.eq (.eq (.eq (.nil))))))))))))) ?_ ?_
  refine .o1 (tk rfl rfl fun _ w hn k => ⟨_, v_move rfl (k.fx 0 h16), rfl⟩) ?_
  refine .o1 (tk rfl rfl fun _ w hn k => ⟨_, v_lenR rfl elW (k.eq1 0 3 rfl), rfl⟩) ?_
  refine .o1 (tk rfl rfl fun _ w hn k => ⟨_, v_bin rfl (k.eq1 1 4 rfl) rfl (fun _ => rfl) (r_gtrK ht20), rfl⟩) ?_
  refine .o1 (tk rfl rfl fun _ w hn k => ⟨_, v_move rfl (k.eq1 2 5 rfl), rfl⟩) ?_
  refine .o1 (sk rfl rfl rfl (fun _ _ _ k => k.eq1 3 6 rfl) (fun _ => rfl)) ?_
  refine .o1 (sk rfl rfl rfl (fun _ _ _ k => k.eq1 3 6 rfl) (fun _ => rfl)) ?_
  refine .o1 (sk rfl rfl rfl (fun _ _ _ k => k.eq1 3 6 rfl) (fun _ => rfl)) ?_
  refine .o1 (sk rfl rfl rfl (fun _ _ _ k => k.eq1 3 6 rfl) (fun _ => rfl)) ?_
  refine .o1 (sk rfl rfl rfl (fun _ _ _ k => k.eq1 3 6 rfl) (fun _ => rfl)) ?_
  refine .o1 (sk rfl rfl rfl (fun _ _ _ k => k.eq1 3 6 rfl) (fun _ => rfl)) ?_
  refine .o1 (sk rfl rfl rfl (fun _ _ _ k => k.eq1 3 6 rfl) (fun _ => rfl)) ?_
  refine .o1 (tk rfl rfl fun _ w hn k => ⟨_, v_pickF rfl (k.eq1 3 6 rfl) rfl, rfl⟩) ?_
  exact .nil
  intro a21 w22 hn23 ha24
  obtain ⟨hs25, hd26, hN30⟩ := aft ha24 hs13 hd14 hN15 hn23
  have h27 := ha24.fx 0 h16
  have h28 := ha24.ge 11 14 rfl
  have hr29 := hr17.new_ hn23
  refine st_nil (hK19 _ _ ?_)
  refine wp_cond_false h28 ?_
  refine wp_exit ?_
  refine hK10 _ _ ?_
  refine wp_seq_k fun K31 hK31 => ?_
  refine wp_g0 [true, true] [] 21
    [ve (sv A1 (m.take kk) c1),
     ve (sv A1 (m.take kk) c1)] hs25 (.eq (.eq (.nil))) ?_ ?_
  refine .o1 (tk rfl rfl fun _ w hn k => ⟨_, v_move rfl (k.fx 0 h27), rfl⟩) ?_
  refine .o1 (tk rfl rfl fun _ w hn k => ⟨_, v_assign rfl (k.eq1 0 20 rfl), rfl⟩) ?_
  exact .nil
  intro a32 w33 hn34 ha35
  obtain ⟨hs36, hd37, hN40⟩ := aft ha35 hs25 hd26 hN30 hn34
  have h38 := ha35.ge 1 2 rfl
  have hr39 := hr29.new_ hn34
  refine st_nil (hK31 _ _ ?_)
  refine wp_ret (ret_k hd37 (v := sv A1 (m.take kk) c1) (res_t rfl h38 _) ?_)
  have hsp : m.take kk = canon (val m) := trim_end' hl hk hv (Or.inl (by omega))
  exact ⟨A1, c1, by rw [← hsp], by rw [← hsp]; exact hr39, hN40⟩
  have ht20d := of_decide_eq_false ht20
  refine wp_g0 [true, true, true, true, true, true, true, true, true, true, true, true] [] 21
    [ve (sv A1 (m.take kk) c1),
     ve (iv ((m.take kk).length : Int)),
     ve (.bool true),
     ve (.bool true),
     ve (sv A1 (m.take kk) c1),
     ve (sv A1 (m.take kk) c1),
     ve (iv ((m.take kk).length : Int)),
     ve (iv (((m.take kk).length : Int) - 1)),
     (fun (v_ : Value) (W : World) => ∃ (b3 : Nat) (o4 : Nat), v_ = .pointer (some ⟨b3, o4, none⟩) ∧ SElem W b3 o4 (.int .u32 (((m.take kk).getD ((((m.take kk).length : Int) - 1 : Int).toNat) 0 : Nat) : Int))),
     ve (.int .u32 (((m.take kk).getD ((((m.take kk).length : Int) - 1 : Int).toNat) 0 : Nat) : Int)),
     ve (.bool (decide ((((m.take kk).getD ((((m.take kk).length : Int) - 1 : Int).toNat) 0 : Nat) : Int) = 0))),
     ve (.bool (decide ((((m.take kk).getD ((((m.take kk).length : Int) - 1 : Int).toNat) 0 : Nat) : Int) = 0)))] hs13 (.eq (.eq (.eq (.eq (.eq (.eq (.eq (.eq (.cons (fun v W W' hn ⟨b3, o4, he, h0⟩ => ⟨b3, o4, he, h0.new_ hn⟩) (.eq (.eq (.eq (.nil))))))))))))) ?_ ?_
  refine .o1 (tk rfl rfl fun _ w hn k => ⟨_, v_move rfl (k.fx 0 h16), rfl⟩) ?_
  refine .o1 (tk rfl rfl fun _ w hn k => ⟨_, v_lenR rfl elW (k.eq1 0 3 rfl), rfl⟩) ?_
  refine .o1 (tk rfl rfl fun _ w hn k => ⟨_, v_bin rfl (k.eq1 1 4 rfl) rfl (fun _ => rfl) (r_gtrK ht20), rfl⟩) ?_
  refine .o1 (tk rfl rfl fun _ w hn k => ⟨_, v_move rfl (k.eq1 2 5 rfl), rfl⟩) ?_
  refine .o1 (tg rfl rfl rfl (fun _ _ k => k.eq1 3 6 rfl) fun _ w hn k => ⟨_, v_move rfl (k.fx 0 h16), rfl⟩) ?_
  refine .o1 (tg rfl rfl rfl (fun _ _ k => k.eq1 3 6 rfl) fun _ w hn k => ⟨_, v_move rfl (k.fx 0 h16), rfl⟩) ?_
  refine .o1 (tg rfl rfl rfl (fun _ _ k => k.eq1 3 6 rfl) fun _ w hn k => ⟨_, v_lenR rfl elW (k.eq1 5 8 rfl), rfl⟩) ?_
  refine .o1 (tg rfl rfl rfl (fun _ _ k => k.eq1 3 6 rfl) fun _ w hn k => ⟨_, v_bin rfl (k.eq1 6 9 rfl) rfl (fun _ => rfl) (r_sub rfl (by omega)), rfl⟩) ?_
  refine .o1 (tg rfl rfl rfl (fun _ _ k => k.eq1 3 6 rfl) fun _ w hn k => (by
        exact x_eaddr (k := .u32) rfl elW (k.eq1 4 7 rfl) (k.eq1 7 10 rfl) (hr17.new_ hn) (by omega) fun b1 o2 hme => ⟨b1, o2, rfl, hme⟩)) ?_
  refine .o1 (tg rfl rfl rfl (fun _ _ k => k.eq1 3 6 rfl) fun _ w hn k => (by
        obtain ⟨b5, o6, e7, hx8⟩ : (fun (v_ : Value) (W : World) => ∃ (b3 : Nat) (o4 : Nat), v_ = .pointer (some ⟨b3, o4, none⟩) ∧ SElem W b3 o4 (.int .u32 (((m.take kk).getD ((((m.take kk).length : Int) - 1 : Int).toNat) 0 : Nat) : Int))) _ _ := k.dep 8 11 (by kernel_rfl) (by kernel_rfl)
        exact ⟨_, v_load rfl e7 (l_one Try.isAgg56 hx8.1), rfl⟩)) ?_
  refine .o1 (tg rfl rfl rfl (fun _ _ k => k.eq1 3 6 rfl) fun _ w hn k => ⟨_, v_bin rfl (k.eq1 9 12 rfl) rfl (fun _ => rfl) (r_eql rfl), rfl⟩) ?_
  refine .o1 (tk rfl rfl fun _ w hn k => ⟨_, v_pickT rfl (k.eq1 3 6 rfl) (k.eq1 10 13 rfl), rfl⟩) ?_
  exact .nil
  intro a41 w42 hn43 ha44
  obtain ⟨hs45, hd46, hN50⟩ := aft ha44 hs13 hd14 hN15 hn43
  have h47 := ha44.fx 0 h16
  have h48 := ha44.ge 11 14 rfl
  have hr49 := hr17.new_ hn43
  refine st_nil (hK19 _ _ ?_)
  rcases Bool.eq_false_or_eq_true (decide ((((m.take kk).getD ((((m.take kk).length : Int) - 1 : Int).toNat) 0 : Nat) : Int) = 0)) with ht51 | ht51
  have ht51d := of_decide_eq_true ht51
  have hv52 := hB h48 ht51
  refine wp_cond_true hv52 ?_
  refine wp_skip ?_
  refine hK18 _ _ ?_
  refine wp_block ?_
  refine wp_g0 [true, true, true, true, true, false] [(5, true)] 21
    [ve (sv A1 (m.take kk) c1),
     ve (sv A1 (m.take kk) c1),
     ve (iv ((m.take kk).length : Int)),
     ve (iv (((m.take kk).length : Int) - 1)),
     (fun (v_ : Value) (W : World) => ∃ (A11 : Option Addr) (c12 : Nat), v_ = sv A11 ((m.take kk).take ((((m.take kk).length : Int) - 1 : Int).toNat)) c12 ∧ SRow W .u32 A11 ((m.take kk).take ((((m.take kk).length : Int) - 1 : Int).toNat)) c12),
     vt] hs45 (.eq (.eq (.eq (.eq (.cons (fun v W W' hn ⟨A11, c12, he, h0⟩ => ⟨A11, c12, he, h0.new_ hn⟩) (.tt (.nil))))))) ?_ ?_
  refine .o1 (tk rfl rfl fun _ w hn k => ⟨_, v_move rfl (k.fx 0 h47), rfl⟩) ?_
  refine .o1 (tk rfl rfl fun _ w hn k => ⟨_, v_move rfl (k.fx 0 h47), rfl⟩) ?_
  refine .o1 (tk rfl rfl fun _ w hn k => ⟨_, v_lenR rfl elW (k.eq1 1 16 rfl), rfl⟩) ?_
  refine .o1 (tk rfl rfl fun _ w hn k => ⟨_, v_bin rfl (k.eq1 2 17 rfl) rfl (fun _ => rfl) (r_sub rfl (by omega)), rfl⟩) ?_
  refine .o1 (tk rfl rfl fun _ w hn k => (by
        exact x_cutH (k := .u32) rfl elW (k.eq1 0 15 rfl) (k.eq1 3 18 rfl) (hr49.new_ hn) (by omega) fun A9 c10 hmr => ⟨A9, c10, rfl, hmr⟩)) ?_
  refine .off ?_
  exact .nil
  intro a53 w54 hn55 ha56
  obtain ⟨hs57, hd58, hN65⟩ := aft ha56 hs45 hd46 hN50 hn55
  have h59 := ha56.fx 0 h47
  obtain ⟨A61, cc62, h60, hr63⟩ : (fun (v_ : Value) (W : World) => ∃ (A11 : Option Addr) (c12 : Nat), v_ = sv A11 ((m.take kk).take ((((m.take kk).length : Int) - 1 : Int).toNat)) c12 ∧ SRow W .u32 A11 ((m.take kk).take ((((m.take kk).length : Int) - 1 : Int).toNat)) c12) _ _ := ha56.got 4 19 rfl (by kernel_rfl)
  have h60 : a53.eval (.tmp 19) = sv A61 ((m.take kk).take ((((m.take kk).length : Int) - 1 : Int).toNat)) cc62 := h60
  have hr64 := hr49.new_ hn55
  refine st_take rfl rfl (y_assign (v := sv A61 ((m.take kk).take ((((m.take kk).length : Int) - 1 : Int).toNat)) cc62) rfl h60) rfl ?_
  obtain ⟨a66, ha67⟩ : ∃ a', a' = a53.put (some 0) (sv A61 ((m.take kk).take ((((m.take kk).length : Int) - 1 : Int).toNat)) cc62) := ⟨_, rfl⟩
  have hs68 : a66.tmps.size = 21 := by rw [ha67, put_size]; exact hs57
  have hd69 : a66.defers = [] := by rw [ha67, put_defers]; exact hd58
  have h70 := pn ha67 h60 (by decide)
  have h71 : a66.eval (.tmp 0) = sv A61 ((m.take kk).take ((((m.take kk).length : Int) - 1 : Int).toNat)) cc62 := by rw [ha67]; exact put_same _ _ _ (by rw [hs57]; decide)
  show stepsTo _ _ _ _ _ (a53.put (some 0) (sv A61 ((m.take kk).take ((((m.take kk).length : Int) - 1 : Int).toNat)) cc62)) _
  rw [← ha67]
  refine st_nil ?_
  have he72 : ((m.take kk).take ((((m.take kk).length : Int) - 1 : Int).toNat)) = (m.take (kk - 1)) := by rw [List.take_take]; congr 1; rw [htl]; omega
  rw [he72] at h71
  rw [he72] at hr63
  refine blk_n ?_
  refine then_n ?_
  exact ⟨_, ⟨kk - 1, A61, cc62, rfl, hs68, hd69, hN65, h71, hr63, (by omega), (trim_dn' (by omega) hk ht51 hv)⟩, (by omega)⟩
  have ht51d := of_decide_eq_false ht51
  have hv73 := hB h48 ht51
  refine wp_cond_false hv73 ?_
  refine wp_exit ?_
  refine hK10 _ _ ?_
  refine wp_seq_k fun K74 hK74 => ?_
  refine wp_g0 [true, true] [] 21
    [ve (sv A1 (m.take kk) c1),
     ve (sv A1 (m.take kk) c1)] hs45 (.eq (.eq (.nil))) ?_ ?_
  refine .o1 (tk rfl rfl fun _ w hn k => ⟨_, v_move rfl (k.fx 0 h47), rfl⟩) ?_
  refine .o1 (tk rfl rfl fun _ w hn k => ⟨_, v_assign rfl (k.eq1 0 20 rfl), rfl⟩) ?_
  exact .nil
  intro a75 w76 hn77 ha78
  obtain ⟨hs79, hd80, hN83⟩ := aft ha78 hs45 hd46 hN50 hn77
  have h81 := ha78.ge 1 2 rfl
  have hr82 := hr49.new_ hn77
  refine st_nil (hK74 _ _ ?_)
  refine wp_ret (ret_k hd80 (v := sv A1 (m.take kk) c1) (res_t rfl h81 _) ?_)
  have hsp : m.take kk = canon (val m) := trim_end' hl hk hv (Or.inr (trim_nz' (by omega) hk ht51))
  exact ⟨A1, c1, by rw [← hsp], by rw [← hsp]; exact hr82, hN83⟩
set_option maxHeartbeats 4000000 in
set_option maxRecDepth 100000 in
theorem bsign_c (n : Int) (w : World) : Calls Try.prog 102 #[iv n] w (IsRet (iv (cmpI1 n)) w) := by
  refine enter_abs Try.func102 rfl fun a0 hs0 hd0 hp => ?_
  have hs0 : a0.tmps.size = 6 := hs0
  have hN0 : New w w := Upd.refl _ _
  have hp0 : a0.eval (.tmp 0) = iv n := hp 0 _ rfl
  refine wp_seq_k fun K1 hK1 => ?_
  refine wp_g0 [true] [] 6
    [ve (iv 0)] hs0 (.eq (.nil)) ?_ ?_
  refine .o1 (tk rfl rfl fun _ w hn k => ⟨_, v_assign rfl rfl, rfl⟩) ?_
  exact .nil
  intro a2 w3 hn4 ha5
  obtain ⟨hs6, hd7, hN9⟩ := aft ha5 hs0 hd0 hN0 hn4
  have h8 := ha5.fx 0 hp0
  refine st_nil (hK1 _ _ ?_)
  refine wp_seq_k fun K10 hK10 => ?_
  refine wp_g0 [true, true, true, true] [] 6
    [ve (iv n),
     ve (iv (max n (-1))),
     ve (iv (min (max n (-1)) 1)),
     ve (iv (min (max n (-1)) 1))] hs6 (.eq (.eq (.eq (.eq (.nil))))) ?_ ?_
  refine .o1 (tk rfl rfl fun _ w hn k => ⟨_, v_move rfl (k.fx 0 h8), rfl⟩) ?_
  refine .o1 (tk rfl rfl fun _ w hn k => ⟨_, v_max rfl (k.eq1 0 3 rfl) rfl, rfl⟩) ?_
  refine .o1 (tk rfl rfl fun _ w hn k => ⟨_, v_min rfl (k.eq1 1 4 rfl) rfl, rfl⟩) ?_
  refine .o1 (tk rfl rfl fun _ w hn k => ⟨_, v_assign rfl (k.eq1 2 5 rfl), rfl⟩) ?_
  exact .nil
  intro a11 w12 hn13 ha14
  obtain ⟨hs15, hd16, hN18⟩ := aft ha14 hs6 hd7 hN9 hn13
  have h17 := ha14.ge 3 2 rfl
  refine st_nil (hK10 _ _ ?_)
  refine wp_ret (ret_k hd16 (v := iv (min (max n (-1)) 1)) (res_t rfl h17 _) ?_)
  exact ⟨congrArg (fun z => Ending.returned (iv z)) (sign_eq n), hN18⟩
set_option maxHeartbeats 4000000 in
set_option maxRecDepth 100000 in
theorem bneg_c (a : Bool) (Aa : Option Addr) (ma : List Nat) (ca : Nat) (w : World) (hra : SRow w .u32 Aa ma ca) : Calls Try.prog 89 #[.agg #[.bool a, sv Aa ma ca]] w (IsRet (.bool (mayB a ma && a)) w) := by
  refine enter_abs Try.func89 rfl fun a0 hs0 hd0 hp => ?_
  have hs0 : a0.tmps.size = 9 := hs0
  have hN0 : New w w := Upd.refl _ _
  have hp0 : a0.eval (.tmp 0) = .agg #[.bool a, sv Aa ma ca] := hp 0 _ rfl
  refine wp_seq_k fun K1 hK1 => ?_
  refine wp_g [true, true] [] [] 9
    [IsNew w 26 [.bool a, sv Aa ma ca],
     ve (.bool false)]
    [0] (newsCons (fun v w h => IsNew.old h) newsNil) hs0 (.nw (.eq (.nil))) ?_ (fun i h => by cases h) ?_
  refine .o2 (step_allocN (cs := [.bool a, sv Aa ma ca]) (t := 26) rfl (noG rfl) (fun _ w hn k => v_box rfl (k.fx 0 hp0) (fun w => rfl)) (fun q _ hq hb => ⟨q, rfl, hq, hb⟩)) ?_
  refine .o1 (tk rfl rfl fun _ w hn k => ⟨_, v_assign rfl rfl, rfl⟩) ?_
  exact .nil
  intro a2 w3 hn4 ha5
  obtain ⟨hs6, hd7, hN13⟩ := aft ha5 hs0 hd0 hN0 hn4
  obtain ⟨q9, h8, hq10, hb11⟩ : IsNew _ _ _ _ _ := ha5.got 0 1 rfl (by kernel_rfl)
  have hq12 := Nat.le_trans hN0.size hq10
  refine st_nil (hK1 _ _ ?_)
  refine wp_seq_k fun K14 hK14 => ?_
  rcases Bool.eq_false_or_eq_true (mayB a ma) with ht15 | ht15
  refine wp_g0 [true, true, true, true, true, true, true] [] 9
    [ve (.agg #[.bool a, sv Aa ma ca]),
     ve (.bool true),
     ve (.bool true),
     ve (pv q9),
     ve (.bool a),
     ve (.bool a),
     ve (.bool a)] hs6 (.eq (.eq (.eq (.eq (.eq (.eq (.eq (.nil)))))))) ?_ ?_
  refine .o1 (tk rfl rfl fun _ w hn k => ⟨_, v_load rfl (k.fx 1 h8) (l_two Try.isAgg26 Try.sizeOf26 (hb11.new_ hn)), rfl⟩) ?_
  refine .o1 (ck rfl rfl rfl (fun _ w hn k => ⟨#[.agg #[.bool a, sv Aa ma ca]], args1 (k.eq1 0 3 rfl), fun _ => by kernel_rfl, bmay_c a _ ma _ _ (hra.new_ (hN13.transNew hn))⟩) fun _ => congrArg Value.bool ht15) ?_
  refine .o1 (tk rfl rfl fun _ w hn k => ⟨_, v_move rfl (k.eq1 1 4 rfl), rfl⟩) ?_
  refine .o1 (tg rfl rfl rfl (fun _ _ k => k.eq1 2 5 rfl) fun _ w hn k => ⟨_, v_field rfl (k.fx 1 h8) (fun w => rfl), rfl⟩) ?_
  refine .o1 (tg rfl rfl rfl (fun _ _ k => k.eq1 2 5 rfl) fun _ w hn k => ⟨_, v_load rfl (k.eq1 3 6 rfl) (l_one Try.isAgg4 ((hb11.new_ hn).cell 0)), rfl⟩) ?_
  refine .o1 (tk rfl rfl fun _ w hn k => ⟨_, v_pickT rfl (k.eq1 2 5 rfl) (k.eq1 4 7 rfl), rfl⟩) ?_
  refine .o1 (tk rfl rfl fun _ w hn k => ⟨_, v_assign rfl (k.eq1 5 8 rfl), rfl⟩) ?_
  exact .nil
  intro a16 w17 hn18 ha19
  obtain ⟨hs20, hd21, hN23⟩ := aft ha19 hs6 hd7 hN13 hn18
  have h22 := ha19.ge 6 2 rfl
  refine st_nil (hK14 _ _ ?_)
  refine wp_ret (ret_k hd21 (v := .bool a) (res_t rfl h22 _) ?_)
  refine ⟨?_, hN23⟩
  show Ending.returned (.bool a) = Ending.returned (.bool (mayB a ma && a))
  first | rfl | (simp only [ht15, bsm] <;> rfl) | (simp [ht15]; done) | (exfalso; omega)
  refine wp_g0 [true, true, true, true, true, true, true] [] 9
    [ve (.agg #[.bool a, sv Aa ma ca]),
     ve (.bool false),
     ve (.bool false),
     ve undef,
     ve undef,
     ve (.bool false),
     ve (.bool false)] hs6 (.eq (.eq (.eq (.eq (.eq (.eq (.eq (.nil)))))))) ?_ ?_
  refine .o1 (tk rfl rfl fun _ w hn k => ⟨_, v_load rfl (k.fx 1 h8) (l_two Try.isAgg26 Try.sizeOf26 (hb11.new_ hn)), rfl⟩) ?_
  refine .o1 (ck rfl rfl rfl (fun _ w hn k => ⟨#[.agg #[.bool a, sv Aa ma ca]], args1 (k.eq1 0 3 rfl), fun _ => by kernel_rfl, bmay_c a _ ma _ _ (hra.new_ (hN13.transNew hn))⟩) fun _ => congrArg Value.bool ht15) ?_
  refine .o1 (tk rfl rfl fun _ w hn k => ⟨_, v_move rfl (k.eq1 1 4 rfl), rfl⟩) ?_
  refine .o1 (sk rfl rfl rfl (fun _ _ _ k => k.eq1 2 5 rfl) (fun _ => rfl)) ?_
  refine .o1 (sk rfl rfl rfl (fun _ _ _ k => k.eq1 2 5 rfl) (fun _ => rfl)) ?_
  refine .o1 (tk rfl rfl fun _ w hn k => ⟨_, v_pickF rfl (k.eq1 2 5 rfl) rfl, rfl⟩) ?_
  refine .o1 (tk rfl rfl fun _ w hn k => ⟨_, v_assign rfl (k.eq1 5 8 rfl), rfl⟩) ?_
  exact .nil
  intro a24 w25 hn26 ha27
  obtain ⟨hs28, hd29, hN31⟩ := aft ha27 hs6 hd7 hN13 hn26
  have h30 := ha27.ge 6 2 rfl
  refine st_nil (hK14 _ _ ?_)
  refine wp_ret (ret_k hd29 (v := .bool false) (res_t rfl h30 _) ?_)
  refine ⟨?_, hN31⟩
  show Ending.returned (.bool false) = Ending.returned (.bool (mayB a ma && a))
  first | rfl | (simp only [ht15, bsm] <;> rfl) | (simp [ht15]; done) | (exfalso; omega)
def clone32_c_P (Au : Option Addr) (u : List Nat) (cu : Nat) (w : World) (en : Ending) (w' : World) : Prop := ∃ (Ar0 : Option Addr) (cr0 : Nat), en = .returned (sv Ar0 u cr0) ∧ SOwn w' w.heap.size 56 .u32 Ar0 u cr0 ∧ New w w'
set_option maxHeartbeats 4000000 in
set_option maxRecDepth 100000 in
theorem clone32_c (Au : Option Addr) (u : List Nat) (cu : Nat) (w : World) (hru : SRow w .u32 Au u cu) (hs : u.length ≤ 1000000) : Calls Try.prog 103 #[sv Au u cu] w (clone32_c_P Au u cu w) := by
  refine enter_abs Try.func103 rfl fun a0 hs0 hd0 hp => ?_
  have hs0 : a0.tmps.size = 8 := hs0
  have hN0 : New w w := Upd.refl _ _
  have hp0 : a0.eval (.tmp 0) = sv Au u cu := hp 0 _ rfl
  refine wp_seq_k fun K1 hK1 => ?_
  refine wp_g0 [true] [] 8
    [ve (sv none ([]) 0)] hs0 (.eq (.nil)) ?_ ?_
  refine .o1 (tk rfl rfl fun _ w hn k => ⟨_, v_assign rfl rfl, rfl⟩) ?_
  exact .nil
  intro a2 w3 hn4 ha5
  obtain ⟨hs6, hd7, hN9⟩ := aft ha5 hs0 hd0 hN0 hn4
  have h8 := ha5.fx 0 hp0
  refine st_nil (hK1 _ _ ?_)
  refine wp_seq_k fun K10 hK10 => ?_
  refine wp_seq_k fun K11 hK11 => ?_
  refine wp_g0 [true, true] [] 8
    [ve (sv Au u cu),
     ve (.bool Au.isNone)] hs6 (.eq (.eq (.nil))) ?_ ?_
  refine .o1 (tk rfl rfl fun _ w hn k => ⟨_, v_move rfl (k.fx 0 h8), rfl⟩) ?_
  refine .o1 (tk rfl rfl fun _ w hn k => ⟨_, v_bin rfl (k.eq1 0 3 rfl) rfl (fun _ => rfl) (fun W => Lib.run_eql_slice_nil W _ _ _ _ _ _ _ Try.underlying24), rfl⟩) ?_
  exact .nil
  intro a12 w13 hn14 ha15
  obtain ⟨hs16, hd17, hN20⟩ := aft ha15 hs6 hd7 hN9 hn14
  have h18 := ha15.fx 0 h8
  have h19 := ha15.ge 1 4 rfl
  refine st_nil (hK11 _ _ ?_)
  rcases Bool.eq_false_or_eq_true (Au.isNone) with ht21 | ht21
  have hv22 := hB h19 ht21
  refine wp_cond_true hv22 ?_
  refine wp_seq_k fun K23 hK23 => ?_
  refine wp_g0 [true] [] 8
    [ve (sv none ([]) 0)] hs16 (.eq (.nil)) ?_ ?_
  refine .o1 (tk rfl rfl fun _ w hn k => ⟨_, v_assign rfl rfl, rfl⟩) ?_
  exact .nil
  intro a24 w25 hn26 ha27
  obtain ⟨hs28, hd29, hN31⟩ := aft ha27 hs16 hd17 hN20 hn26
  have h30 := ha27.ge 0 2 rfl
  refine st_nil (hK23 _ _ ?_)
  refine wp_ret (ret_k hd29 (v := sv none ([]) 0) (res_t rfl h30 _) ?_)
  have hu0 := row_none hru ht21
  exact ⟨none, 0, by rw [hu0], by rw [hu0]; exact SOwn.nil _ _ _ _, hN31⟩
  have hv32 := hB h19 ht21
  refine wp_cond_false hv32 ?_
  refine wp_skip ?_
  refine hK10 _ _ ?_
  refine wp_seq_k fun K33 hK33 => ?_
  refine wp_g0 [true, true, false, false] [(2, false), (3, true)] 8
    [(fun (v_ : Value) (W : World) => ∃ (A3 : Option Addr) (c4 : Nat), v_ = sv A3 ([]) c4 ∧ SOwn W w13.heap.size 56 .u32 A3 ([]) c4),
     ve (sv Au u cu),
     vt,
     vt] hs16 (.cons (fun v W W' hn ⟨A3, c4, he, h0⟩ => ⟨A3, c4, he, h0.new_ hn⟩) (.eq (.tt (.tt (.nil))))) ?_ ?_
  refine .o1 (tkA rfl (noG rfl) fun _ w hn k => (by
        exact x_bslice0 .u32 rfl parts0 elW fun A1 c2 W' hmo => ⟨A1, c2, rfl, (hmo.more hn.size)⟩)) ?_
  refine .o1 (tk rfl rfl fun _ w hn k => ⟨_, v_move rfl (k.fx 0 h18), rfl⟩) ?_
  refine .off ?_
  refine .off ?_
  exact .nil
  intro a34 w35 hn36 ha37
  obtain ⟨hs38, hd39, hN46⟩ := aft ha37 hs16 hd17 hN20 hn36
  obtain ⟨A41, cc42, h40, hr43⟩ : (fun (v_ : Value) (W : World) => ∃ (A3 : Option Addr) (c4 : Nat), v_ = sv A3 ([]) c4 ∧ SOwn W w13.heap.size 56 .u32 A3 ([]) c4) _ _ := ha37.got 0 5 rfl (by kernel_rfl)
  have h40 : a34.eval (.tmp 5) = sv A41 ([]) cc42 := h40
  have h44 := ha37.ge 1 6 rfl
  have hr45 := hr43.more hN20.size
  have hw55 := hN46.size
  refine st_act rfl rfl fun K53 hL54 => a_append (k := .u32) (b := w.heap.size) rfl elW h40 hr45 h44 (hru.new_ hN46) (by first | omega | (simp only [List.length_nil, List.length_cons, List.length_append, List.length_take, List.length_drop, List.length_replicate, List.length_set]; omega)) (by first | omega | (simp only [List.length_nil, List.length_cons, List.length_append, List.length_take, List.length_drop, List.length_replicate, List.length_set]; omega)) hw55 fun A47 cc48 w49 hr50 hg51 => hL54 _ _ trivial ?_
  have hN52 := hN46.ownGrown hr45 hg51
  obtain ⟨a56, ha57⟩ : ∃ a', a' = a34.put (some 7) (sv A47 ([] ++ u) cc48) := ⟨_, rfl⟩
  have hs58 : a56.tmps.size = 8 := by rw [ha57, put_size]; exact hs38
  have hd59 : a56.defers = [] := by rw [ha57, put_defers]; exact hd39
  have h60 := pn ha57 h44 (by decide)
  have h61 : a56.eval (.tmp 7) = sv A47 ([] ++ u) cc48 := by rw [ha57]; exact put_same _ _ _ (by rw [hs38]; decide)
  show stepsTo _ _ _ _ _ (a34.put (some 7) (sv A47 ([] ++ u) cc48)) _
  rw [← ha57]
  refine st_take rfl rfl (y_assign (v := sv A47 ([] ++ u) cc48) rfl h61) rfl ?_
  obtain ⟨a62, ha63⟩ : ∃ a', a' = a56.put (some 2) (sv A47 ([] ++ u) cc48) := ⟨_, rfl⟩
  have hs64 : a62.tmps.size = 8 := by rw [ha63, put_size]; exact hs58
  have hd65 : a62.defers = [] := by rw [ha63, put_defers]; exact hd59
  have h66 := pn ha63 h60 (by decide)
  have h67 := pn ha63 h61 (by decide)
  have h68 : a62.eval (.tmp 2) = sv A47 ([] ++ u) cc48 := by rw [ha63]; exact put_same _ _ _ (by rw [hs58]; decide)
  show stepsTo _ _ _ _ _ (a56.put (some 2) (sv A47 ([] ++ u) cc48)) _
  rw [← ha63]
  refine st_nil (hK33 _ _ ?_)
  refine wp_ret (ret_k hd65 (v := sv A47 ([] ++ u) cc48) (res_t rfl h68 _) ?_)
  exact ⟨A47, cc48, by rw [List.nil_append], by have h := hr50; rw [List.nil_append] at h; exact h, hN52⟩
def bmag_c_P (a : Bool) (Aa : Option Addr) (ma : List Nat) (ca : Nat) (w : World) (en : Ending) (w' : World) : Prop := ∃ (Ar0 : Option Addr) (cr0 : Nat), en = .returned (sv Ar0 (canon (goodI a ma).natAbs) cr0) ∧ SOwn w' w.heap.size 56 .u32 Ar0 (canon (goodI a ma).natAbs) cr0 ∧ New w w'
set_option maxHeartbeats 4000000 in
set_option maxRecDepth 100000 in
theorem bmag_c (a : Bool) (Aa : Option Addr) (ma : List Nat) (ca : Nat) (w : World) (hra : SRow w .u32 Aa ma ca) (ha : Limbs ma) (hs : ma.length ≤ 1000000) : Calls Try.prog 91 #[.agg #[.bool a, sv Aa ma ca]] w (bmag_c_P a Aa ma ca w) := by
  refine enter_abs Try.func91 rfl fun a0 hs0 hd0 hp => ?_
  have hs0 : a0.tmps.size = 9 := hs0
  have hN0 : New w w := Upd.refl _ _
  have hp0 : a0.eval (.tmp 0) = .agg #[.bool a, sv Aa ma ca] := hp 0 _ rfl
  refine wp_seq_k fun K1 hK1 => ?_
  refine wp_g [true, true] [] [] 9
    [IsNew w 26 [.bool a, sv Aa ma ca],
     ve (sv none ([]) 0)]
    [0] (newsCons (fun v w h => IsNew.old h) newsNil) hs0 (.nw (.eq (.nil))) ?_ (fun i h => by cases h) ?_
  refine .o2 (step_allocN (cs := [.bool a, sv Aa ma ca]) (t := 26) rfl (noG rfl) (fun _ w hn k => v_box rfl (k.fx 0 hp0) (fun w => rfl)) (fun q _ hq hb => ⟨q, rfl, hq, hb⟩)) ?_
  refine .o1 (tk rfl rfl fun _ w hn k => ⟨_, v_assign rfl rfl, rfl⟩) ?_
  exact .nil
  intro a2 w3 hn4 ha5
  obtain ⟨hs6, hd7, hN13⟩ := aft ha5 hs0 hd0 hN0 hn4
  obtain ⟨q9, h8, hq10, hb11⟩ : IsNew _ _ _ _ _ := ha5.got 0 1 rfl (by kernel_rfl)
  have hq12 := Nat.le_trans hN0.size hq10
  refine st_nil (hK1 _ _ ?_)
  refine wp_seq_k fun K14 hK14 => ?_
  refine wp_seq_k fun K15 hK15 => ?_
  rcases Bool.eq_false_or_eq_true (mayB a ma) with ht16 | ht16
  refine wp_g0 [true, true, true] [] 9
    [ve (.agg #[.bool a, sv Aa ma ca]),
     ve (.bool true),
     ve (.bool false)] hs6 (.eq (.eq (.eq (.nil)))) ?_ ?_
  refine .o1 (tk rfl rfl fun _ w hn k => ⟨_, v_load rfl (k.fx 1 h8) (l_two Try.isAgg26 Try.sizeOf26 (hb11.new_ hn)), rfl⟩) ?_
  refine .o1 (ck rfl rfl rfl (fun _ w hn k => ⟨#[.agg #[.bool a, sv Aa ma ca]], args1 (k.eq1 0 3 rfl), fun _ => by kernel_rfl, bmay_c a _ ma _ _ (hra.new_ (hN13.transNew hn))⟩) fun _ => congrArg Value.bool ht16) ?_
  refine .o1 (tk rfl rfl fun _ w hn k => ⟨_, v_not rfl (k.eq1 1 4 rfl), rfl⟩) ?_
  exact .nil
  intro a17 w18 hn19 ha20
  obtain ⟨hs21, hd22, hN26⟩ := aft ha20 hs6 hd7 hN13 hn19
  have h23 := ha20.fx 1 h8
  have h24 := ha20.ge 2 5 rfl
  have hb25 := hb11.new_ hn19
  refine st_nil (hK15 _ _ ?_)
  refine wp_cond_false h24 ?_
  refine wp_skip ?_
  refine hK14 _ _ ?_
  refine wp_seq_k fun K27 hK27 => ?_
  refine wp_g0 [true, true, true, true] [] 9
    [ve (.pointer (some ⟨q9, 1, none⟩)),
     ve (sv Aa ma ca),
     (fun (v_ : Value) (W : World) => ∃ (A3 : Option Addr) (c4 : Nat), v_ = sv A3 ma c4 ∧ SOwn W w18.heap.size 56 .u32 A3 ma c4),
     (fun (v_ : Value) (W : World) => ∃ (A9 : Option Addr) (c10 : Nat), v_ = sv A9 ma c10 ∧ SOwn W w18.heap.size 56 .u32 A9 ma c10)] hs21 (.eq (.eq (.cons (fun v W W' hn ⟨A3, c4, he, h0⟩ => ⟨A3, c4, he, h0.new_ hn⟩) (.cons (fun v W W' hn ⟨A9, c10, he, h0⟩ => ⟨A9, c10, he, h0.new_ hn⟩) (.nil))))) ?_ ?_
  refine .o1 (tk rfl rfl fun _ w hn k => ⟨_, v_field rfl (k.fx 1 h23) (fun w => rfl), rfl⟩) ?_
  refine .o1 (tk rfl rfl fun _ w hn k => ⟨_, v_load rfl (k.eq1 0 6 rfl) (l_one Try.isAgg24 ((hb25.new_ hn).cell 1)), rfl⟩) ?_
  refine .o1 (tkC rfl (noG rfl) rfl fun _ w hn k => (by
        refine ⟨#[sv Aa ma ca], _, args1 (k.eq1 1 7 rfl), fun w => by kernel_rfl, clone32_c _ ma _ _ (hra.new_ (hN26.transNew hn)) (by first | omega | (simp only [List.length_nil, List.length_take, List.length_drop]; omega) | (simp only [List.length_cons, List.length_nil]; omega)), ?_⟩
        rintro e w' ⟨A1, c2, rfl, hmo0, hm⟩
        exact ⟨_, rfl, hm, ⟨A1, c2, rfl, (hmo0.more hn.size)⟩⟩)) ?_
  refine .o1 (tk rfl rfl fun _ w hn k => (by
        obtain ⟨A5, c6, e7, hx8⟩ : (fun (v_ : Value) (W : World) => ∃ (A3 : Option Addr) (c4 : Nat), v_ = sv A3 ma c4 ∧ SOwn W w18.heap.size 56 .u32 A3 ma c4) _ _ := k.dep 2 8 (by kernel_rfl) (by kernel_rfl)
        exact ⟨_, v_assign rfl e7, ⟨A5, c6, rfl, hx8⟩⟩)) ?_
  exact .nil
  intro a28 w29 hn30 ha31
  obtain ⟨hs32, hd33, hN39⟩ := aft ha31 hs21 hd22 hN26 hn30
  obtain ⟨A35, cc36, h34, hr37⟩ : (fun (v_ : Value) (W : World) => ∃ (A9 : Option Addr) (c10 : Nat), v_ = sv A9 ma c10 ∧ SOwn W w18.heap.size 56 .u32 A9 ma c10) _ _ := ha31.got 3 2 rfl (by kernel_rfl)
  have h34 : a28.eval (.tmp 2) = sv A35 ma cc36 := h34
  have hr38 := hr37.more hN26.size
  refine st_nil (hK27 _ _ ?_)
  refine wp_ret (ret_k hd33 (v := sv A35 ma cc36) (res_t rfl h34 _) ?_)
  have hg := canon_good (b := a) ha
  rw [ht16] at hg
  exact ⟨A35, cc36, congrArg (fun l => Ending.returned (sv A35 l cc36)) hg.symm, by rw [hg]; exact hr38, hN39⟩
  refine wp_g0 [true, true, true] [] 9
    [ve (.agg #[.bool a, sv Aa ma ca]),
     ve (.bool false),
     ve (.bool true)] hs6 (.eq (.eq (.eq (.nil)))) ?_ ?_
  refine .o1 (tk rfl rfl fun _ w hn k => ⟨_, v_load rfl (k.fx 1 h8) (l_two Try.isAgg26 Try.sizeOf26 (hb11.new_ hn)), rfl⟩) ?_
  refine .o1 (ck rfl rfl rfl (fun _ w hn k => ⟨#[.agg #[.bool a, sv Aa ma ca]], args1 (k.eq1 0 3 rfl), fun _ => by kernel_rfl, bmay_c a _ ma _ _ (hra.new_ (hN13.transNew hn))⟩) fun _ => congrArg Value.bool ht16) ?_
  refine .o1 (tk rfl rfl fun _ w hn k => ⟨_, v_not rfl (k.eq1 1 4 rfl), rfl⟩) ?_
  exact .nil
  intro a40 w41 hn42 ha43
  obtain ⟨hs44, hd45, hN49⟩ := aft ha43 hs6 hd7 hN13 hn42
  have h46 := ha43.fx 1 h8
  have h47 := ha43.ge 2 5 rfl
  have hb48 := hb11.new_ hn42
  refine st_nil (hK15 _ _ ?_)
  refine wp_cond_true h47 ?_
  refine wp_seq_k fun K50 hK50 => ?_
  refine wp_g0 [true] [] 9
    [ve (sv none ([]) 0)] hs44 (.eq (.nil)) ?_ ?_
  refine .o1 (tk rfl rfl fun _ w hn k => ⟨_, v_assign rfl rfl, rfl⟩) ?_
  exact .nil
  intro a51 w52 hn53 ha54
  obtain ⟨hs55, hd56, hN58⟩ := aft ha54 hs44 hd45 hN49 hn53
  have h57 := ha54.ge 0 2 rfl
  refine st_nil (hK50 _ _ ?_)
  refine wp_ret (ret_k hd56 (v := sv none ([]) 0) (res_t rfl h57 _) ?_)
  have hg := canon_good (b := a) ha
  rw [ht16] at hg
  exact ⟨none, 0, congrArg (fun l => Ending.returned (sv none l 0)) hg.symm, by rw [hg]; exact (SOwn.nil _ _ _ _), hN58⟩
def bmade_c_P (Am : Option Addr) (m : List Nat) (cm : Nat) (d : Bool) (w : World) (en : Ending) (w' : World) : Prop := ∃ (Ar0 : Option Addr) (cr0 : Nat), en = .returned (.agg #[.bool (decide (sgn d (val m) < 0)), sv Ar0 (canon (sgn d (val m)).natAbs) cr0]) ∧ SRow w' .u32 Ar0 (canon (sgn d (val m)).natAbs) cr0 ∧ New w w'
set_option maxHeartbeats 4000000 in
set_option maxRecDepth 100000 in
theorem bmade_c (Am : Option Addr) (m : List Nat) (cm : Nat) (d : Bool) (w : World) (hrm : SRow w .u32 Am m cm) (hl : Limbs m) : Calls Try.prog 73 #[sv Am m cm, .bool d] w (bmade_c_P Am m cm d w) := by
  refine enter_abs Try.func73 rfl fun a0 hs0 hd0 hp => ?_
  have hs0 : a0.tmps.size = 14 := hs0
  have hN0 : New w w := Upd.refl _ _
  have hp0 : a0.eval (.tmp 0) = sv Am m cm := hp 0 _ rfl
  have hp1 : a0.eval (.tmp 1) = .bool d := hp 1 _ rfl
  refine wp_seq_k fun K1 hK1 => ?_
  refine wp_g [true] [] [] 14
    [IsNew w 26 [.bool false, sv none ([]) 0]]
    [0] (newsCons (fun v w h => IsNew.old h) newsNil) hs0 (.nw (.nil)) ?_ (fun i h => by cases h) ?_
  refine .o2 (step_allocN (cs := [.bool false, sv none ([]) 0]) (t := 26) rfl (noG rfl) (fun _ w hn k => rfl) (fun q _ hq hb => ⟨q, rfl, hq, hb⟩)) ?_
  exact .nil
  intro a2 w3 hn4 ha5
  obtain ⟨hs6, hd7, hN15⟩ := aft ha5 hs0 hd0 hN0 hn4
  have h8 := ha5.fx 0 hp0
  have h9 := ha5.fx 1 hp1
  obtain ⟨q11, h10, hq12, hb13⟩ : IsNew _ _ _ _ _ := ha5.got 0 4 rfl (by kernel_rfl)
  have hq14 := Nat.le_trans hN0.size hq12
  refine st_nil (hK1 _ _ ?_)
  refine wp_seq_k fun K16 hK16 => ?_
  refine wp_g0 [true, true, false] [(2, true)] 14
    [ve (sv Am m cm),
     (fun (v_ : Value) (W : World) => ∃ (A3 : Option Addr) (c4 : Nat), v_ = sv A3 (canon (val m)) c4 ∧ SRow W .u32 A3 (canon (val m)) c4),
     vt] hs6 (.eq (.cons (fun v W W' hn ⟨A3, c4, he, h0⟩ => ⟨A3, c4, he, h0.new_ hn⟩) (.tt (.nil)))) ?_ ?_
  refine .o1 (tk rfl rfl fun _ w hn k => ⟨_, v_move rfl (k.fx 0 h8), rfl⟩) ?_
  refine .o1 (tkC rfl (noG rfl) rfl fun _ w hn k => (by
        refine ⟨#[sv Am m cm], _, args1 (k.eq1 0 5 rfl), fun w => by kernel_rfl, btrim_c _ m _ _ (hrm.new_ (hN15.transNew hn)) hl, ?_⟩
        rintro e w' ⟨A1, c2, rfl, hmo0, hm⟩
        exact ⟨_, rfl, hm, ⟨A1, c2, rfl, hmo0⟩⟩)) ?_
  refine .off ?_
  exact .nil
  intro a17 w18 hn19 ha20
  obtain ⟨hs21, hd22, hN31⟩ := aft ha20 hs6 hd7 hN15 hn19
  have h23 := ha20.fx 0 h8
  have h24 := ha20.fx 1 h9
  have h25 := ha20.fx 4 h10
  obtain ⟨A27, cc28, h26, hr29⟩ : (fun (v_ : Value) (W : World) => ∃ (A3 : Option Addr) (c4 : Nat), v_ = sv A3 (canon (val m)) c4 ∧ SRow W .u32 A3 (canon (val m)) c4) _ _ := ha20.got 1 6 rfl (by kernel_rfl)
  have h26 : a17.eval (.tmp 6) = sv A27 (canon (val m)) cc28 := h26
  have hb30 := hb13.new_ hn19
  refine st_take rfl rfl (y_assign (v := sv A27 (canon (val m)) cc28) rfl h26) rfl ?_
  obtain ⟨a32, ha33⟩ : ∃ a', a' = a17.put (some 0) (sv A27 (canon (val m)) cc28) := ⟨_, rfl⟩
  have hs34 : a32.tmps.size = 14 := by rw [ha33, put_size]; exact hs21
  have hd35 : a32.defers = [] := by rw [ha33, put_defers]; exact hd22
  have h36 := pn ha33 h24 (by decide)
  have h37 := pn ha33 h25 (by decide)
  have h38 := pn ha33 h26 (by decide)
  have h39 : a32.eval (.tmp 0) = sv A27 (canon (val m)) cc28 := by rw [ha33]; exact put_same _ _ _ (by rw [hs21]; decide)
  show stepsTo _ _ _ _ _ (a17.put (some 0) (sv A27 (canon (val m)) cc28)) _
  rw [← ha33]
  refine st_nil (hK16 _ _ ?_)
  refine wp_seq_k fun K40 hK40 => ?_
  refine wp_seq_k fun K41 hK41 => ?_
  refine wp_g0 [true, true, true] [] 14
    [ve (sv A27 (canon (val m)) cc28),
     ve (iv ((canon (val m)).length : Int)),
     ve (.bool (decide (((canon (val m)).length : Int) = 0)))] hs34 (.eq (.eq (.eq (.nil)))) ?_ ?_
  refine .o1 (tk rfl rfl fun _ w hn k => ⟨_, v_move rfl (k.fx 0 h39), rfl⟩) ?_
  refine .o1 (tk rfl rfl fun _ w hn k => ⟨_, v_lenR rfl elW (k.eq1 0 7 rfl), rfl⟩) ?_
  refine .o1 (tk rfl rfl fun _ w hn k => ⟨_, v_bin rfl (k.eq1 1 8 rfl) rfl (fun _ => rfl) (r_eql rfl), rfl⟩) ?_
  exact .nil
  intro a42 w43 hn44 ha45
  obtain ⟨hs46, hd47, hN54⟩ := aft ha45 hs34 hd35 hN31 hn44
  have h48 := ha45.fx 1 h36
  have h49 := ha45.fx 4 h37
  have h50 := ha45.fx 0 h39
  have h51 := ha45.ge 2 9 rfl
  have hb52 := hb30.new_ hn44
  have hr53 := hr29.new_ hn44
  refine st_nil (hK41 _ _ ?_)
  rcases Bool.eq_false_or_eq_true (decide (((canon (val m)).length : Int) = 0)) with ht55 | ht55
  have ht55d := of_decide_eq_true ht55
  have hv56 := hB h51 ht55
  refine wp_cond_true hv56 ?_
  refine wp_seq_k fun K57 hK57 => ?_
  refine wp_g0 [true, false] [(1, false)] 14
    [ve (.agg #[.bool false, sv none ([]) 0]),
     vt] hs46 (.eq (.tt (.nil))) ?_ ?_
  refine .o1 (tk rfl rfl fun _ w hn k => ⟨_, v_build (ps := []) rfl parts0 (by kernel_rfl), rfl⟩) ?_
  refine .off ?_
  exact .nil
  intro a58 w59 hn60 ha61
  obtain ⟨hs62, hd63, hN67⟩ := aft ha61 hs46 hd47 hN54 hn60
  have h64 := ha61.fx 4 h49
  have h65 := ha61.ge 0 10 rfl
  have hb66 := hb52.new_ hn60
  obtain ⟨w68, -, hst69, hb70, hu71, hf72⟩ := s_two (v0 := .bool false) (v1 := sv none ([]) 0) Try.sizeOf26 rfl rfl rfl hb66
  refine st_act rfl rfl fun K73 hL74 => a_store' rfl h64 h65 hst69 (hL74 _ _ trivial ?_)
  have hN75 := hN67.trans hu71 (fun k hk hkb => by subst hkb; omega)
  refine st_nil (hK57 _ _ ?_)
  refine wp_ret (ret_k hd63 (v := .agg #[.bool false, sv none ([]) 0]) (res_c rfl h64 (l_two Try.isAgg26 Try.sizeOf26 hb70)) ?_)
  have hz1 : (decide (sgn d (val m) < 0)) = false := by rw [made_zero ht55]; rfl
  have hz2 : canon (sgn d (val m)).natAbs = [] := by rw [made_zero ht55]; exact canon_zero
  exact ⟨none, 0, by rw [hz1, hz2], by rw [hz2]; exact (SRow.nil _ _), hN75⟩
  have ht55d := of_decide_eq_false ht55
  have hv76 := hB h51 ht55
  refine wp_cond_false hv76 ?_
  refine wp_skip ?_
  refine hK40 _ _ ?_
  refine wp_seq_k fun K77 hK77 => ?_
  refine wp_g0 [true, true, true, false] [(3, false)] 14
    [ve (.bool d),
     ve (sv A27 (canon (val m)) cc28),
     ve (.agg #[.bool d, sv A27 (canon (val m)) cc28]),
     vt] hs46 (.eq (.eq (.eq (.tt (.nil))))) ?_ ?_
  refine .o1 (tk rfl rfl fun _ w hn k => ⟨_, v_move rfl (k.fx 1 h48), rfl⟩) ?_
  refine .o1 (tk rfl rfl fun _ w hn k => ⟨_, v_move rfl (k.fx 0 h50), rfl⟩) ?_
  refine .o1 (tk rfl rfl fun _ w hn k => ⟨_, v_build (ps := [(0, .bool d), (1, sv A27 (canon (val m)) cc28)]) rfl (parts2 (k.eq1 0 11 rfl) (k.eq1 1 12 rfl)) (by kernel_rfl), rfl⟩) ?_
  refine .off ?_
  exact .nil
  intro a78 w79 hn80 ha81
  obtain ⟨hs82, hd83, hN88⟩ := aft ha81 hs46 hd47 hN54 hn80
  have h84 := ha81.fx 4 h49
  have h85 := ha81.ge 2 13 rfl
  have hb86 := hb52.new_ hn80
  have hr87 := hr53.new_ hn80
  obtain ⟨w89, -, hst90, hb91, hu92, hf93⟩ := s_two (v0 := .bool d) (v1 := sv A27 (canon (val m)) cc28) Try.sizeOf26 rfl rfl rfl hb86
  refine st_act rfl rfl fun K94 hL95 => a_store' rfl h84 h85 hst90 (hL95 _ _ trivial ?_)
  have hr96 := hr87.far hb86 hu92 (by first | rfl | decide | simp [notK])
  have hN97 := hN88.trans hu92 (fun k hk hkb => by subst hkb; omega)
  refine st_nil (hK77 _ _ ?_)
  refine wp_ret (ret_k hd83 (v := .agg #[.bool d, sv A27 (canon (val m)) cc28]) (res_c rfl h84 (l_two Try.isAgg26 Try.sizeOf26 hb91)) ?_)
  have hz1 : (decide (sgn d (val m) < 0)) = d := made_nz ht55
  have hz2 : canon (sgn d (val m)).natAbs = (canon (val m)) := by rw [natAbs_sgn]
  exact ⟨A27, cc28, by rw [hz1, hz2], by rw [hz2]; exact hr96, hN97⟩
set_option maxHeartbeats 4000000 in
set_option maxRecDepth 100000 in
theorem bcmp_c (Aa : Option Addr) (a : List Nat) (ca : Nat) (Ab : Option Addr) (b : List Nat) (cb : Nat) (w : World) (hra : SRow w .u32 Aa a ca) (hrb : SRow w .u32 Ab b cb) (ha : Limbs a) (hb : Limbs b) (hta : Trim a) (htb : Trim b) : Calls Try.prog 90 #[sv Aa a ca, sv Ab b cb] w (IsRet (iv (cmpI (val a) (val b))) w) := by
  refine enter_abs Try.func90 rfl fun a0 hs0 hd0 hp => ?_
  have hs0 : a0.tmps.size = 45 := hs0
  have hN0 : New w w := Upd.refl _ _
  have hp0 : a0.eval (.tmp 0) = sv Aa a ca := hp 0 _ rfl
  have hp1 : a0.eval (.tmp 1) = sv Ab b cb := hp 1 _ rfl
  have hmx := hra.max
  have hmy := hrb.max
  refine wp_seq_k fun K1 hK1 => ?_
  refine wp_g0 [true] [] 45
    [ve (iv 0)] hs0 (.eq (.nil)) ?_ ?_
  refine .o1 (tk rfl rfl fun _ w hn k => ⟨_, v_assign rfl rfl, rfl⟩) ?_
  exact .nil
  intro a2 w3 hn4 ha5
  obtain ⟨hs6, hd7, hN10⟩ := aft ha5 hs0 hd0 hN0 hn4
  have h8 := ha5.fx 0 hp0
  have h9 := ha5.fx 1 hp1
  refine st_nil (hK1 _ _ ?_)
  refine wp_seq_k fun K11 hK11 => ?_
  refine wp_seq_k fun K12 hK12 => ?_
  rcases Bool.eq_false_or_eq_true (decide ((a.length : Int) = (b.length : Int))) with ht13 | ht13
  have ht13d := of_decide_eq_true ht13
  refine wp_g0 [true, true, true, true, true] [] 45
    [ve (sv Aa a ca),
     ve (iv (a.length : Int)),
     ve (sv Ab b cb),
     ve (iv (b.length : Int)),
     ve (.bool false)] hs6 (.eq (.eq (.eq (.eq (.eq (.nil)))))) ?_ ?_
  refine .o1 (tk rfl rfl fun _ w hn k => ⟨_, v_move rfl (k.fx 0 h8), rfl⟩) ?_
  refine .o1 (tk rfl rfl fun _ w hn k => ⟨_, v_lenR rfl elW (k.eq1 0 6 rfl), rfl⟩) ?_
  refine .o1 (tk rfl rfl fun _ w hn k => ⟨_, v_move rfl (k.fx 1 h9), rfl⟩) ?_
  refine .o1 (tk rfl rfl fun _ w hn k => ⟨_, v_lenR rfl elW (k.eq1 2 8 rfl), rfl⟩) ?_
  refine .o1 (tk rfl rfl fun _ w hn k => ⟨_, v_bin rfl (k.eq1 1 7 rfl) (k.eq1 3 9 rfl) (fun _ => rfl) (r_neq ht13), rfl⟩) ?_
  exact .nil
  intro a14 w15 hn16 ha17
  obtain ⟨hs18, hd19, hN23⟩ := aft ha17 hs6 hd7 hN10 hn16
  have h20 := ha17.fx 0 h8
  have h21 := ha17.fx 1 h9
  have h22 := ha17.ge 4 10 rfl
  refine st_nil (hK12 _ _ ?_)
  refine wp_cond_false h22 ?_
  refine wp_skip ?_
  refine hK11 _ _ ?_
  refine wp_seq_k fun K24 hK24 => ?_
  refine wp_seq_k fun K25 hK25 => ?_
  refine wp_g0 [true, true, true, true] [] 45
    [ve (sv Aa a ca),
     ve (iv (a.length : Int)),
     ve (iv ((a.length : Int) - 1)),
     ve (iv ((a.length : Int) - 1))] hs18 (.eq (.eq (.eq (.eq (.nil))))) ?_ ?_
  refine .o1 (tk rfl rfl fun _ w hn k => ⟨_, v_move rfl (k.fx 0 h20), rfl⟩) ?_
  refine .o1 (tk rfl rfl fun _ w hn k => ⟨_, v_lenR rfl elW (k.eq1 0 17 rfl), rfl⟩) ?_
  refine .o1 (tk rfl rfl fun _ w hn k => ⟨_, v_bin rfl (k.eq1 1 18 rfl) rfl (fun _ => rfl) (r_sub rfl (by omega)), rfl⟩) ?_
  refine .o1 (tk rfl rfl fun _ w hn k => ⟨_, v_assign rfl (k.eq1 2 19 rfl), rfl⟩) ?_
  exact .nil
  intro a26 w27 hn28 ha29
  obtain ⟨hs30, hd31, hN35⟩ := aft ha29 hs18 hd19 hN23 hn28
  have h32 := ha29.fx 0 h20
  have h33 := ha29.fx 1 h21
  have h34 := ha29.ge 3 5 rfl
  refine st_nil (hK25 _ _ ?_)
  refine wp_block ?_
  refine wp_loopX (fun (mm : Nat) (aa : Act) (ww : World) => ∃ (n : Nat), mm = n ∧ aa.tmps.size = 45 ∧ aa.defers = [] ∧ New w ww ∧ aa.eval (.tmp 5) = iv ((n : Int) - 1) ∧ aa.eval (.tmp 0) = sv Aa a ca ∧ aa.eval (.tmp 1) = sv Ab b cb ∧ (n ≤ a.length) ∧ (Above a b n)) (fun mm => mm) ⟨_, ⟨a.length, rfl, hs30, hd31, hN35, h34, h32, h33, (Nat.le_refl _), (above_of_eqlen (by omega))⟩⟩ ?_
  rintro mm a36 w37 ⟨n, hmm, hs38, hd39, hN40, h41, h42, h43, hn, hab⟩
  refine wp_seq_k fun K44 hK44 => ?_
  refine wp_seq_k fun K45 hK45 => ?_
  rcases Bool.eq_false_or_eq_true (decide (((n : Int) - 1) < 0)) with ht46 | ht46
  have ht46d := of_decide_eq_true ht46
  refine wp_g0 [true, true] [] 45
    [ve (iv ((n : Int) - 1)),
     ve (.bool false)] hs38 (.eq (.eq (.nil))) ?_ ?_
  refine .o1 (tk rfl rfl fun _ w hn k => ⟨_, v_move rfl (k.fx 5 h41), rfl⟩) ?_
  refine .o1 (tk rfl rfl fun _ w hn k => ⟨_, v_bin rfl (k.eq1 0 20 rfl) rfl (fun _ => rfl) (r_geqK ht46), rfl⟩) ?_
  exact .nil
  intro a47 w48 hn49 ha50
  obtain ⟨hs51, hd52, hN57⟩ := aft ha50 hs38 hd39 hN40 hn49
  have h53 := ha50.fx 5 h41
  have h54 := ha50.fx 0 h42
  have h55 := ha50.fx 1 h43
  have h56 := ha50.ge 1 21 rfl
  refine st_nil (hK45 _ _ ?_)
  refine wp_cond_false h56 ?_
  refine wp_exit ?_
  refine hK24 _ _ ?_
  refine wp_seq_k fun K58 hK58 => ?_
  refine wp_g0 [true] [] 45
    [ve (iv 0)] hs51 (.eq (.nil)) ?_ ?_
  refine .o1 (tk rfl rfl fun _ w hn k => ⟨_, v_assign rfl rfl, rfl⟩) ?_
  exact .nil
  intro a59 w60 hn61 ha62
  obtain ⟨hs63, hd64, hN66⟩ := aft ha62 hs51 hd52 hN57 hn61
  have h65 := ha62.ge 0 4 rfl
  refine st_nil (hK58 _ _ ?_)
  refine wp_ret (ret_k hd64 (v := iv 0) (res_t rfl h65 _) ?_)
  exact ⟨by rw [cmp_same hab (by omega)], hN66⟩
  have ht46d := of_decide_eq_false ht46
  refine wp_g0 [true, true] [] 45
    [ve (iv ((n : Int) - 1)),
     ve (.bool true)] hs38 (.eq (.eq (.nil))) ?_ ?_
  refine .o1 (tk rfl rfl fun _ w hn k => ⟨_, v_move rfl (k.fx 5 h41), rfl⟩) ?_
  refine .o1 (tk rfl rfl fun _ w hn k => ⟨_, v_bin rfl (k.eq1 0 20 rfl) rfl (fun _ => rfl) (r_geqK ht46), rfl⟩) ?_
  exact .nil
  intro a67 w68 hn69 ha70
  obtain ⟨hs71, hd72, hN77⟩ := aft ha70 hs38 hd39 hN40 hn69
  have h73 := ha70.fx 5 h41
  have h74 := ha70.fx 0 h42
  have h75 := ha70.fx 1 h43
  have h76 := ha70.ge 1 21 rfl
  refine st_nil (hK45 _ _ ?_)
  refine wp_cond_true h76 ?_
  refine wp_skip ?_
  refine hK44 _ _ ?_
  refine wp_seq_k fun K78 hK78 => ?_
  refine wp_block ?_
  refine wp_seq_k fun K79 hK79 => ?_
  rcases Bool.eq_false_or_eq_true (decide (((a.getD (((n : Int) - 1 : Int).toNat) 0 : Nat) : Int) = ((b.getD (((n : Int) - 1 : Int).toNat) 0 : Nat) : Int))) with ht80 | ht80
  have ht80d := of_decide_eq_true ht80
  have hai := ha.at ((n : Int) - 1).toNat
  have hbi := hb.at ((n : Int) - 1).toNat
  refine wp_g0 [true, true, true, true, true, true, true, true, true] [] 45
    [ve (sv Aa a ca),
     ve (iv ((n : Int) - 1)),
     (fun (v_ : Value) (W : World) => ∃ (b19 : Nat) (o20 : Nat), v_ = .pointer (some ⟨b19, o20, none⟩) ∧ SElem W b19 o20 (.int .u32 ((a.getD (((n : Int) - 1 : Int).toNat) 0 : Nat) : Int))),
     ve (.int .u32 ((a.getD (((n : Int) - 1 : Int).toNat) 0 : Nat) : Int)),
     ve (sv Ab b cb),
     ve (iv ((n : Int) - 1)),
     (fun (v_ : Value) (W : World) => ∃ (b27 : Nat) (o28 : Nat), v_ = .pointer (some ⟨b27, o28, none⟩) ∧ SElem W b27 o28 (.int .u32 ((b.getD (((n : Int) - 1 : Int).toNat) 0 : Nat) : Int))),
     ve (.int .u32 ((b.getD (((n : Int) - 1 : Int).toNat) 0 : Nat) : Int)),
     ve (.bool false)] hs71 (.eq (.eq (.cons (fun v W W' hn ⟨b19, o20, he, h0⟩ => ⟨b19, o20, he, h0.new_ hn⟩) (.eq (.eq (.eq (.cons (fun v W W' hn ⟨b27, o28, he, h0⟩ => ⟨b27, o28, he, h0.new_ hn⟩) (.eq (.eq (.nil)))))))))) ?_ ?_
  refine .o1 (tk rfl rfl fun _ w hn k => ⟨_, v_move rfl (k.fx 0 h74), rfl⟩) ?_
  refine .o1 (tk rfl rfl fun _ w hn k => ⟨_, v_move rfl (k.fx 5 h73), rfl⟩) ?_
  refine .o1 (tk rfl rfl fun _ w hn k => (by
        exact x_eaddr (k := .u32) rfl elW (k.eq1 0 24 rfl) (k.eq1 1 25 rfl) (hra.new_ (hN77.transNew hn)) (by omega) fun b17 o18 hme => ⟨b17, o18, rfl, hme⟩)) ?_
  refine .o1 (tk rfl rfl fun _ w hn k => (by
        obtain ⟨b21, o22, e23, hx24⟩ : (fun (v_ : Value) (W : World) => ∃ (b19 : Nat) (o20 : Nat), v_ = .pointer (some ⟨b19, o20, none⟩) ∧ SElem W b19 o20 (.int .u32 ((a.getD (((n : Int) - 1 : Int).toNat) 0 : Nat) : Int))) _ _ := k.dep 2 26 (by kernel_rfl) (by kernel_rfl)
        exact ⟨_, v_load rfl e23 (l_one Try.isAgg56 hx24.1), rfl⟩)) ?_
  refine .o1 (tk rfl rfl fun _ w hn k => ⟨_, v_move rfl (k.fx 1 h75), rfl⟩) ?_
  refine .o1 (tk rfl rfl fun _ w hn k => ⟨_, v_move rfl (k.fx 5 h73), rfl⟩) ?_
  refine .o1 (tk rfl rfl fun _ w hn k => (by
        exact x_eaddr (k := .u32) rfl elW (k.eq1 4 28 rfl) (k.eq1 5 29 rfl) (hrb.new_ (hN77.transNew hn)) (by omega) fun b25 o26 hme => ⟨b25, o26, rfl, hme⟩)) ?_
  refine .o1 (tk rfl rfl fun _ w hn k => (by
        obtain ⟨b29, o30, e31, hx32⟩ : (fun (v_ : Value) (W : World) => ∃ (b27 : Nat) (o28 : Nat), v_ = .pointer (some ⟨b27, o28, none⟩) ∧ SElem W b27 o28 (.int .u32 ((b.getD (((n : Int) - 1 : Int).toNat) 0 : Nat) : Int))) _ _ := k.dep 6 30 (by kernel_rfl) (by kernel_rfl)
        exact ⟨_, v_load rfl e31 (l_one Try.isAgg56 hx32.1), rfl⟩)) ?_
  refine .o1 (tk rfl rfl fun _ w hn k => ⟨_, v_bin rfl (k.eq1 3 27 rfl) (k.eq1 7 31 rfl) (fun _ => rfl) (r_neq ht80), rfl⟩) ?_
  exact .nil
  intro a81 w82 hn83 ha84
  obtain ⟨hs85, hd86, hN91⟩ := aft ha84 hs71 hd72 hN77 hn83
  have h87 := ha84.fx 5 h73
  have h88 := ha84.fx 0 h74
  have h89 := ha84.fx 1 h75
  have h90 := ha84.ge 8 32 rfl
  refine st_nil (hK79 _ _ ?_)
  refine wp_cond_false h90 ?_
  refine wp_skip ?_
  refine hK78 _ _ ?_
  refine wp_g0 [true, true, false] [(2, true)] 45
    [ve (iv ((n : Int) - 1)),
     ve (iv (((n : Int) - 1) - 1)),
     vt] hs85 (.eq (.eq (.tt (.nil)))) ?_ ?_
  refine .o1 (tk rfl rfl fun _ w hn k => ⟨_, v_move rfl (k.fx 5 h87), rfl⟩) ?_
  refine .o1 (tk rfl rfl fun _ w hn k => ⟨_, v_bin rfl (k.eq1 0 22 rfl) rfl (fun _ => rfl) (r_sub rfl (by omega)), rfl⟩) ?_
  refine .off ?_
  exact .nil
  intro a92 w93 hn94 ha95
  obtain ⟨hs96, hd97, hN102⟩ := aft ha95 hs85 hd86 hN91 hn94
  have h98 := ha95.fx 5 h87
  have h99 := ha95.fx 0 h88
  have h100 := ha95.fx 1 h89
  have h101 := ha95.ge 1 23 rfl
  refine st_take rfl rfl (y_assign (v := iv (((n : Int) - 1) - 1)) rfl h101) rfl ?_
  obtain ⟨a103, ha104⟩ : ∃ a', a' = a92.put (some 5) (iv (((n : Int) - 1) - 1)) := ⟨_, rfl⟩
  have hs105 : a103.tmps.size = 45 := by rw [ha104, put_size]; exact hs96
  have hd106 : a103.defers = [] := by rw [ha104, put_defers]; exact hd97
  have h107 := pn ha104 h99 (by decide)
  have h108 := pn ha104 h100 (by decide)
  have h109 := pn ha104 h101 (by decide)
  have h110 : a103.eval (.tmp 5) = iv (((n : Int) - 1) - 1) := by rw [ha104]; exact put_same _ _ _ (by rw [hs96]; decide)
  show stepsTo _ _ _ _ _ (a92.put (some 5) (iv (((n : Int) - 1) - 1))) _
  rw [← ha104]
  refine st_nil ?_
  refine then_n ?_
  exact ⟨_, ⟨n - 1, rfl, hs105, hd106, hN102, (h110.trans (congrArg (Value.int .i64) (by omega))), h107, h108, (by omega), (above_dn1 hab (by omega) ht80)⟩, (by omega)⟩
  have ht80d := of_decide_eq_false ht80
  have hai := ha.at ((n : Int) - 1).toNat
  have hbi := hb.at ((n : Int) - 1).toNat
  refine wp_g0 [true, true, true, true, true, true, true, true, true] [] 45
    [ve (sv Aa a ca),
     ve (iv ((n : Int) - 1)),
     (fun (v_ : Value) (W : World) => ∃ (b35 : Nat) (o36 : Nat), v_ = .pointer (some ⟨b35, o36, none⟩) ∧ SElem W b35 o36 (.int .u32 ((a.getD (((n : Int) - 1 : Int).toNat) 0 : Nat) : Int))),
     ve (.int .u32 ((a.getD (((n : Int) - 1 : Int).toNat) 0 : Nat) : Int)),
     ve (sv Ab b cb),
     ve (iv ((n : Int) - 1)),
     (fun (v_ : Value) (W : World) => ∃ (b43 : Nat) (o44 : Nat), v_ = .pointer (some ⟨b43, o44, none⟩) ∧ SElem W b43 o44 (.int .u32 ((b.getD (((n : Int) - 1 : Int).toNat) 0 : Nat) : Int))),
     ve (.int .u32 ((b.getD (((n : Int) - 1 : Int).toNat) 0 : Nat) : Int)),
     ve (.bool true)] hs71 (.eq (.eq (.cons (fun v W W' hn ⟨b35, o36, he, h0⟩ => ⟨b35, o36, he, h0.new_ hn⟩) (.eq (.eq (.eq (.cons (fun v W W' hn ⟨b43, o44, he, h0⟩ => ⟨b43, o44, he, h0.new_ hn⟩) (.eq (.eq (.nil)))))))))) ?_ ?_
  refine .o1 (tk rfl rfl fun _ w hn k => ⟨_, v_move rfl (k.fx 0 h74), rfl⟩) ?_
  refine .o1 (tk rfl rfl fun _ w hn k => ⟨_, v_move rfl (k.fx 5 h73), rfl⟩) ?_
  refine .o1 (tk rfl rfl fun _ w hn k => (by
        exact x_eaddr (k := .u32) rfl elW (k.eq1 0 24 rfl) (k.eq1 1 25 rfl) (hra.new_ (hN77.transNew hn)) (by omega) fun b33 o34 hme => ⟨b33, o34, rfl, hme⟩)) ?_
  refine .o1 (tk rfl rfl fun _ w hn k => (by
        obtain ⟨b37, o38, e39, hx40⟩ : (fun (v_ : Value) (W : World) => ∃ (b35 : Nat) (o36 : Nat), v_ = .pointer (some ⟨b35, o36, none⟩) ∧ SElem W b35 o36 (.int .u32 ((a.getD (((n : Int) - 1 : Int).toNat) 0 : Nat) : Int))) _ _ := k.dep 2 26 (by kernel_rfl) (by kernel_rfl)
        exact ⟨_, v_load rfl e39 (l_one Try.isAgg56 hx40.1), rfl⟩)) ?_
  refine .o1 (tk rfl rfl fun _ w hn k => ⟨_, v_move rfl (k.fx 1 h75), rfl⟩) ?_
  refine .o1 (tk rfl rfl fun _ w hn k => ⟨_, v_move rfl (k.fx 5 h73), rfl⟩) ?_
  refine .o1 (tk rfl rfl fun _ w hn k => (by
        exact x_eaddr (k := .u32) rfl elW (k.eq1 4 28 rfl) (k.eq1 5 29 rfl) (hrb.new_ (hN77.transNew hn)) (by omega) fun b41 o42 hme => ⟨b41, o42, rfl, hme⟩)) ?_
  refine .o1 (tk rfl rfl fun _ w hn k => (by
        obtain ⟨b45, o46, e47, hx48⟩ : (fun (v_ : Value) (W : World) => ∃ (b43 : Nat) (o44 : Nat), v_ = .pointer (some ⟨b43, o44, none⟩) ∧ SElem W b43 o44 (.int .u32 ((b.getD (((n : Int) - 1 : Int).toNat) 0 : Nat) : Int))) _ _ := k.dep 6 30 (by kernel_rfl) (by kernel_rfl)
        exact ⟨_, v_load rfl e47 (l_one Try.isAgg56 hx48.1), rfl⟩)) ?_
  refine .o1 (tk rfl rfl fun _ w hn k => ⟨_, v_bin rfl (k.eq1 3 27 rfl) (k.eq1 7 31 rfl) (fun _ => rfl) (r_neq ht80), rfl⟩) ?_
  exact .nil
  intro a111 w112 hn113 ha114
  obtain ⟨hs115, hd116, hN121⟩ := aft ha114 hs71 hd72 hN77 hn113
  have h117 := ha114.fx 5 h73
  have h118 := ha114.fx 0 h74
  have h119 := ha114.fx 1 h75
  have h120 := ha114.ge 8 32 rfl
  refine st_nil (hK79 _ _ ?_)
  refine wp_cond_true h120 ?_
  refine wp_seq_k fun K122 hK122 => ?_
  have hai := ha.at ((n : Int) - 1).toNat
  have hbi := hb.at ((n : Int) - 1).toNat
  refine wp_g0 [true, true, true, true, true, true, true, true, true, true, true, true, true] [] 45
    [ve (sv Aa a ca),
     ve (iv ((n : Int) - 1)),
     (fun (v_ : Value) (W : World) => ∃ (b51 : Nat) (o52 : Nat), v_ = .pointer (some ⟨b51, o52, none⟩) ∧ SElem W b51 o52 (.int .u32 ((a.getD (((n : Int) - 1 : Int).toNat) 0 : Nat) : Int))),
     ve (.int .u32 ((a.getD (((n : Int) - 1 : Int).toNat) 0 : Nat) : Int)),
     ve (iv ((a.getD (((n : Int) - 1 : Int).toNat) 0 : Nat) : Int)),
     ve (sv Ab b cb),
     ve (iv ((n : Int) - 1)),
     (fun (v_ : Value) (W : World) => ∃ (b59 : Nat) (o60 : Nat), v_ = .pointer (some ⟨b59, o60, none⟩) ∧ SElem W b59 o60 (.int .u32 ((b.getD (((n : Int) - 1 : Int).toNat) 0 : Nat) : Int))),
     ve (.int .u32 ((b.getD (((n : Int) - 1 : Int).toNat) 0 : Nat) : Int)),
     ve (iv ((b.getD (((n : Int) - 1 : Int).toNat) 0 : Nat) : Int)),
     ve (iv (((a.getD (((n : Int) - 1 : Int).toNat) 0 : Nat) : Int) - ((b.getD (((n : Int) - 1 : Int).toNat) 0 : Nat) : Int))),
     ve (iv (cmpI1 (((a.getD (((n : Int) - 1 : Int).toNat) 0 : Nat) : Int) - ((b.getD (((n : Int) - 1 : Int).toNat) 0 : Nat) : Int)))),
     ve (iv (cmpI1 (((a.getD (((n : Int) - 1 : Int).toNat) 0 : Nat) : Int) - ((b.getD (((n : Int) - 1 : Int).toNat) 0 : Nat) : Int))))] hs115 (.eq (.eq (.cons (fun v W W' hn ⟨b51, o52, he, h0⟩ => ⟨b51, o52, he, h0.new_ hn⟩) (.eq (.eq (.eq (.eq (.cons (fun v W W' hn ⟨b59, o60, he, h0⟩ => ⟨b59, o60, he, h0.new_ hn⟩) (.eq (.eq (.eq (.eq (.eq (.nil)))))))))))))) ?_ ?_
  refine .o1 (tk rfl rfl fun _ w hn k => ⟨_, v_move rfl (k.fx 0 h118), rfl⟩) ?_
  refine .o1 (tk rfl rfl fun _ w hn k => ⟨_, v_move rfl (k.fx 5 h117), rfl⟩) ?_
  refine .o1 (tk rfl rfl fun _ w hn k => (by
        exact x_eaddr (k := .u32) rfl elW (k.eq1 0 33 rfl) (k.eq1 1 34 rfl) (hra.new_ (hN121.transNew hn)) (by omega) fun b49 o50 hme => ⟨b49, o50, rfl, hme⟩)) ?_
  refine .o1 (tk rfl rfl fun _ w hn k => (by
        obtain ⟨b53, o54, e55, hx56⟩ : (fun (v_ : Value) (W : World) => ∃ (b51 : Nat) (o52 : Nat), v_ = .pointer (some ⟨b51, o52, none⟩) ∧ SElem W b51 o52 (.int .u32 ((a.getD (((n : Int) - 1 : Int).toNat) 0 : Nat) : Int))) _ _ := k.dep 2 35 (by kernel_rfl) (by kernel_rfl)
        exact ⟨_, v_load rfl e55 (l_one Try.isAgg56 hx56.1), rfl⟩)) ?_
  refine .o1 (tk rfl rfl fun _ w hn k => ⟨_, v_conv rfl (k.eq1 3 36 rfl) (n_conv (by kernel_rfl) (by kernel_rfl) (by kernel_rfl) (IntWalk.i64_in _ (by omega))), rfl⟩) ?_
  refine .o1 (tk rfl rfl fun _ w hn k => ⟨_, v_move rfl (k.fx 1 h119), rfl⟩) ?_
  refine .o1 (tk rfl rfl fun _ w hn k => ⟨_, v_move rfl (k.fx 5 h117), rfl⟩) ?_
  refine .o1 (tk rfl rfl fun _ w hn k => (by
        exact x_eaddr (k := .u32) rfl elW (k.eq1 5 38 rfl) (k.eq1 6 39 rfl) (hrb.new_ (hN121.transNew hn)) (by omega) fun b57 o58 hme => ⟨b57, o58, rfl, hme⟩)) ?_
  refine .o1 (tk rfl rfl fun _ w hn k => (by
        obtain ⟨b61, o62, e63, hx64⟩ : (fun (v_ : Value) (W : World) => ∃ (b59 : Nat) (o60 : Nat), v_ = .pointer (some ⟨b59, o60, none⟩) ∧ SElem W b59 o60 (.int .u32 ((b.getD (((n : Int) - 1 : Int).toNat) 0 : Nat) : Int))) _ _ := k.dep 7 40 (by kernel_rfl) (by kernel_rfl)
        exact ⟨_, v_load rfl e63 (l_one Try.isAgg56 hx64.1), rfl⟩)) ?_
  refine .o1 (tk rfl rfl fun _ w hn k => ⟨_, v_conv rfl (k.eq1 8 41 rfl) (n_conv (by kernel_rfl) (by kernel_rfl) (by kernel_rfl) (IntWalk.i64_in _ (by omega))), rfl⟩) ?_
  refine .o1 (tk rfl rfl fun _ w hn k => ⟨_, v_bin rfl (k.eq1 4 37 rfl) (k.eq1 9 42 rfl) (fun _ => rfl) (r_sub rfl (by omega)), rfl⟩) ?_
  refine .o1 (ck rfl rfl rfl (fun _ w hn k => ⟨#[iv (((a.getD (((n : Int) - 1 : Int).toNat) 0 : Nat) : Int) - ((b.getD (((n : Int) - 1 : Int).toNat) 0 : Nat) : Int))], args1 (k.eq1 10 43 rfl), fun _ => by kernel_rfl, bsign_c (((a.getD (((n : Int) - 1 : Int).toNat) 0 : Nat) : Int) - ((b.getD (((n : Int) - 1 : Int).toNat) 0 : Nat) : Int)) _ ⟩) fun _ => rfl) ?_
  refine .o1 (tk rfl rfl fun _ w hn k => ⟨_, v_assign rfl (k.eq1 11 44 rfl), rfl⟩) ?_
  exact .nil
  intro a123 w124 hn125 ha126
  obtain ⟨hs127, hd128, hN130⟩ := aft ha126 hs115 hd116 hN121 hn125
  have h129 := ha126.ge 12 4 rfl
  refine st_nil (hK122 _ _ ?_)
  refine wp_ret (ret_k hd128 (v := iv (cmpI1 (((a.getD (((n : Int) - 1 : Int).toNat) 0 : Nat) : Int) - ((b.getD (((n : Int) - 1 : Int).toNat) 0 : Nat) : Int)))) (res_t rfl h129 _) ?_)
  exact ⟨congrArg (fun z => Ending.returned (iv z)) (cmp_at ha hb hab (by omega) ht80), hN130⟩
  have ht13d := of_decide_eq_false ht13
  refine wp_g0 [true, true, true, true, true] [] 45
    [ve (sv Aa a ca),
     ve (iv (a.length : Int)),
     ve (sv Ab b cb),
     ve (iv (b.length : Int)),
     ve (.bool true)] hs6 (.eq (.eq (.eq (.eq (.eq (.nil)))))) ?_ ?_
  refine .o1 (tk rfl rfl fun _ w hn k => ⟨_, v_move rfl (k.fx 0 h8), rfl⟩) ?_
  refine .o1 (tk rfl rfl fun _ w hn k => ⟨_, v_lenR rfl elW (k.eq1 0 6 rfl), rfl⟩) ?_
  refine .o1 (tk rfl rfl fun _ w hn k => ⟨_, v_move rfl (k.fx 1 h9), rfl⟩) ?_
  refine .o1 (tk rfl rfl fun _ w hn k => ⟨_, v_lenR rfl elW (k.eq1 2 8 rfl), rfl⟩) ?_
  refine .o1 (tk rfl rfl fun _ w hn k => ⟨_, v_bin rfl (k.eq1 1 7 rfl) (k.eq1 3 9 rfl) (fun _ => rfl) (r_neq ht13), rfl⟩) ?_
  exact .nil
  intro a131 w132 hn133 ha134
  obtain ⟨hs135, hd136, hN140⟩ := aft ha134 hs6 hd7 hN10 hn133
  have h137 := ha134.fx 0 h8
  have h138 := ha134.fx 1 h9
  have h139 := ha134.ge 4 10 rfl
  refine st_nil (hK12 _ _ ?_)
  refine wp_cond_true h139 ?_
  refine wp_seq_k fun K141 hK141 => ?_
  refine wp_g0 [true, true, true, true, true, true, true] [] 45
    [ve (sv Aa a ca),
     ve (iv (a.length : Int)),
     ve (sv Ab b cb),
     ve (iv (b.length : Int)),
     ve (iv ((a.length : Int) - (b.length : Int))),
     ve (iv (cmpI1 ((a.length : Int) - (b.length : Int)))),
     ve (iv (cmpI1 ((a.length : Int) - (b.length : Int))))] hs135 (.eq (.eq (.eq (.eq (.eq (.eq (.eq (.nil)))))))) ?_ ?_
  refine .o1 (tk rfl rfl fun _ w hn k => ⟨_, v_move rfl (k.fx 0 h137), rfl⟩) ?_
  refine .o1 (tk rfl rfl fun _ w hn k => ⟨_, v_lenR rfl elW (k.eq1 0 11 rfl), rfl⟩) ?_
  refine .o1 (tk rfl rfl fun _ w hn k => ⟨_, v_move rfl (k.fx 1 h138), rfl⟩) ?_
  refine .o1 (tk rfl rfl fun _ w hn k => ⟨_, v_lenR rfl elW (k.eq1 2 13 rfl), rfl⟩) ?_
  refine .o1 (tk rfl rfl fun _ w hn k => ⟨_, v_bin rfl (k.eq1 1 12 rfl) (k.eq1 3 14 rfl) (fun _ => rfl) (r_sub rfl (by omega)), rfl⟩) ?_
  refine .o1 (ck rfl rfl rfl (fun _ w hn k => ⟨#[iv ((a.length : Int) - (b.length : Int))], args1 (k.eq1 4 15 rfl), fun _ => by kernel_rfl, bsign_c ((a.length : Int) - (b.length : Int)) _ ⟩) fun _ => rfl) ?_
  refine .o1 (tk rfl rfl fun _ w hn k => ⟨_, v_assign rfl (k.eq1 5 16 rfl), rfl⟩) ?_
  exact .nil
  intro a142 w143 hn144 ha145
  obtain ⟨hs146, hd147, hN149⟩ := aft ha145 hs135 hd136 hN140 hn144
  have h148 := ha145.ge 6 4 rfl
  refine st_nil (hK141 _ _ ?_)
  refine wp_ret (ret_k hd147 (v := iv (cmpI1 ((a.length : Int) - (b.length : Int)))) (res_t rfl h148 _) ?_)
  exact ⟨congrArg (fun z => Ending.returned (iv z)) (cmp_len ha hb hta htb (by omega)), hN149⟩
end Go.Proofs.Ytecgdgjlmlpcnaa
