/- Package renref1. -/
import Derived.Test.YtldakajmhfdfgaaDoorNumL2
namespace Go.Proofs.YtldakajmhfdfgaaDoor
open Go.RowKit
set_option linter.unusedSimpArgs false
set_option linter.unusedVariables false
theorem tmod_nz_bd (x : Int) {y : Int} (hy : y ≠ 0) : (x.tmod y).natAbs ≤ x.natAbs := by rw [Int.natAbs_tmod]; exact Nat.mod_le _ _
theorem tdiv_nz_bd (x : Int) {y : Int} (hy : y ≠ 0) : (x.tdiv y).natAbs ≤ x.natAbs := by rw [Int.natAbs_tdiv]; exact Nat.div_le_self _ _
set_option maxHeartbeats 4000000 in
set_option maxRecDepth 100000 in
theorem rkind_c (j : Int) (w : World) : Calls Tryd.prog 59 #[iv j] w (IsRet (nv (Nm.mk j 0)) w) := by
  refine enter_abs Tryd.func59 rfl fun a0 hs0 hd0 hp => ?_
  have hs0 : a0.tmps.size = 5 := hs0
  have hN0 : New w w := Upd.refl _ _
  have hp0 : a0.eval (.tmp 0) = iv j := hp 0 _ rfl
  clear hp
  refine wp_seq_k fun K hK => ?_
  refine wp_g [true] [] [] 5
    [IsNew w 23 [iv 0, iv 0]]
    [0] (newsCons (fun v w h => IsNew.old h) newsNil) hs0 (.nw (.nil)) ?_ (fun i h => by cases h) ?_
  · skip
    refine .o2 (step_allocN (cs := [iv 0, iv 0]) (t := 23) rfl (noG rfl) (fun _ w hn k => rfl) (fun q _ hq hb => ⟨q, rfl, hq, hb⟩)) ?_
    exact .nil
  intro a1 w2 hn3 ha4
  have hs5 := ha4.size.trans hs0
  have hd6 := ha4.defers.trans hd0
  have h7 := ha4.fx 0 hp0
  obtain ⟨q9, h8, hq10, hb11⟩ : IsNew _ _ _ _ _ := ha4.got 0 2 rfl (by kernel_rfl)
  have hq12 := Nat.le_trans hN0.size hq10
  have hN13 := hN0.transNew hn3
  clear hs0 hd0 hp0 hq10 hN0 ha4 hn3
  refine st_nil ?_
  refine hK _ _ ?_
  clear hK K
  refine wp_seq_k fun K hK => ?_
  refine wp_g0 [true, true, false] [(2, false)] 5
    [ve (iv j),
     ve (nv (Nm.mk j 0)),
     vt] hs5 (.eq (.eq (.tt (.nil)))) ?_ ?_
  · skip
    refine .o1 (tk rfl rfl fun _ w hn k => ⟨_, v_move rfl (k.fx 0 h7), rfl⟩) ?_
    refine .o1 (tk rfl rfl fun _ w hn k => ⟨_, v_build (ps := [(0, iv j)]) rfl (parts1 (k.eq1 0 3 rfl)) (by kernel_rfl), rfl⟩) ?_
    refine .off ?_
    exact .nil
  intro a14 w15 hn16 ha17
  have hs18 := ha17.size.trans hs5
  have hd19 := ha17.defers.trans hd6
  have h20 := ha17.fx 2 h8
  have h21 := ha17.ge 1 4 rfl
  have hb22 := hb11.new_ hn16
  have hN23 := hN13.transNew hn16
  clear hs5 hd6 h7 h8 hb11 hN13 ha17 hn16
  obtain ⟨w24, -, hst25, hb26, hu27, hf28⟩ := s_two (v0 := iv j) (v1 := iv 0) Tryd.sizeOf23 rfl rfl rfl hb22
  refine st_act rfl rfl fun K29 hL30 => a_store' rfl h20 h21 hst25 (hL30 _ _ trivial ?_)
  have hN31 := hN23.trans hu27 (fun k hk hkb => by subst hkb; omega)
  clear hb22 hst25 K29 hL30 hN23 hu27 hf28
  refine st_nil ?_
  clear h21
  refine hK _ _ ?_
  clear hK K
  refine wp_ret (ret_k hd19 (v := nv (Nm.mk j 0)) (res_c rfl h20 (l_two Tryd.isAgg23 Tryd.sizeOf23 hb26)) ?_)
  refine ⟨?_, hN31⟩
  rfl
set_option maxHeartbeats 4000000 in
set_option maxRecDepth 100000 in
theorem rNaN_c  (w : World) : Calls Tryd.prog 61 #[] w (IsRet (nv (Nm.mk 2 0)) w) := by
  refine enter_abs Tryd.func61 rfl fun a0 hs0 hd0 hp => ?_
  have hs0 : a0.tmps.size = 2 := hs0
  have hN0 : New w w := Upd.refl _ _
  clear hp
  refine wp_seq_k fun K hK => ?_
  refine wp_g [true] [] [] 2
    [IsNew w 23 [iv 0, iv 0]]
    [0] (newsCons (fun v w h => IsNew.old h) newsNil) hs0 (.nw (.nil)) ?_ (fun i h => by cases h) ?_
  · skip
    refine .o2 (step_allocN (cs := [iv 0, iv 0]) (t := 23) rfl (noG rfl) (fun _ w hn k => rfl) (fun q _ hq hb => ⟨q, rfl, hq, hb⟩)) ?_
    exact .nil
  intro a1 w2 hn3 ha4
  have hs5 := ha4.size.trans hs0
  have hd6 := ha4.defers.trans hd0
  obtain ⟨q8, h7, hq9, hb10⟩ : IsNew _ _ _ _ _ := ha4.got 0 0 rfl (by kernel_rfl)
  have hq11 := Nat.le_trans hN0.size hq9
  have hN12 := hN0.transNew hn3
  clear hs0 hd0 hq9 hN0 ha4 hn3
  refine st_nil ?_
  refine hK _ _ ?_
  clear hK K
  refine wp_seq_k fun K hK => ?_
  refine wp_g0 [true, false] [(1, false)] 2
    [ve (nv (Nm.mk 2 0)),
     vt] hs5 (.eq (.tt (.nil))) ?_ ?_
  · skip
    refine .o1 (ck rfl rfl rfl (fun _ w hn k => ⟨#[iv 2], args1 rfl, fun _ => by kernel_rfl, rkind_c 2 _⟩) fun _ => rfl) ?_
    refine .off ?_
    exact .nil
  intro a13 w14 hn15 ha16
  have hs17 := ha16.size.trans hs5
  have hd18 := ha16.defers.trans hd6
  have h19 := ha16.fx 0 h7
  have h20 := ha16.ge 0 1 rfl
  have hb21 := hb10.new_ hn15
  have hN22 := hN12.transNew hn15
  clear hs5 hd6 h7 hb10 hN12 ha16 hn15
  obtain ⟨w23, -, hst24, hb25, hu26, hf27⟩ := s_two (v0 := iv 2) (v1 := iv 0) Tryd.sizeOf23 rfl rfl rfl hb21
  refine st_act rfl rfl fun K28 hL29 => a_store' rfl h19 h20 hst24 (hL29 _ _ trivial ?_)
  have hN30 := hN22.trans hu26 (fun k hk hkb => by subst hkb; omega)
  clear hb21 hst24 K28 hL29 hN22 hu26 hf27
  refine st_nil ?_
  clear h20
  refine hK _ _ ?_
  clear hK K
  refine wp_ret (ret_k hd18 (v := nv (Nm.mk 2 0)) (res_c rfl h19 (l_two Tryd.isAgg23 Tryd.sizeOf23 hb25)) ?_)
  refine ⟨?_, hN30⟩
  rfl
set_option maxHeartbeats 4000000 in
set_option maxRecDepth 100000 in
theorem rmay0_c (a : Nm) (w : World) : Calls Tryd.prog 45 #[nv a] w (IsRet (.bool (rMayB a)) w) := by
  refine enter_abs Tryd.func45 rfl fun a0 hs0 hd0 hp => ?_
  have hs0 : a0.tmps.size = 27 := hs0
  have hN0 : New w w := Upd.refl _ _
  have hp0 : a0.eval (.tmp 0) = nv a := hp 0 _ rfl
  clear hp
  refine wp_seq_k fun K hK => ?_
  refine wp_g [true, true] [] [] 27
    [IsNew w 23 [iv a.k, iv a.n],
     ve (.bool false)]
    [0] (newsCons (fun v w h => IsNew.old h) newsNil) hs0 (.nw (.eq (.nil))) ?_ (fun i h => by cases h) ?_
  · skip
    refine .o2 (step_allocN (cs := [iv a.k, iv a.n]) (t := 23) rfl (noG rfl) (fun _ w hn k => v_box rfl (k.fx 0 hp0) (fun w => rfl)) (fun q _ hq hb => ⟨q, rfl, hq, hb⟩)) ?_
    refine .o1 (tk rfl rfl fun _ w hn k => ⟨_, v_assign rfl rfl, rfl⟩) ?_
    exact .nil
  intro a1 w2 hn3 ha4
  have hs5 := ha4.size.trans hs0
  have hd6 := ha4.defers.trans hd0
  obtain ⟨q8, h7, hq9, hb10⟩ : IsNew _ _ _ _ _ := ha4.got 0 1 rfl (by kernel_rfl)
  have h11 := ha4.ge 1 2 rfl
  have hq12 := Nat.le_trans hN0.size hq9
  have hN13 := hN0.transNew hn3
  clear hs0 hd0 hp0 hq9 hN0 ha4 hn3
  refine st_nil ?_
  refine hK _ _ ?_
  clear hK K
  refine wp_seq_k fun K hK => ?_
  refine wp_seq_k fun K hK => ?_
  refine wp_g0 [true, true, true] [] 27
    [ve (pv q8),
     ve (iv a.k),
     ve (.bool (decide (a.k = 0)))] hs5 (.eq (.eq (.eq (.nil)))) ?_ ?_
  · skip
    refine .o1 (tk rfl rfl fun _ w hn k => ⟨_, v_field rfl (k.fx 1 h7) (fun w => rfl), rfl⟩) ?_
    refine .o1 (tk rfl rfl fun _ w hn k => ⟨_, v_load rfl (k.eq1 0 3 rfl) (l_one Tryd.isAgg3 ((hb10.new_ hn).cell 0)), rfl⟩) ?_
    refine .o1 (tk rfl rfl fun _ w hn k => ⟨_, v_bin rfl (k.eq1 1 4 rfl) rfl (fun _ => rfl) (r_eql rfl), rfl⟩) ?_
    exact .nil
  intro a14 w15 hn16 ha17
  have hs18 := ha17.size.trans hs5
  have hd19 := ha17.defers.trans hd6
  have h20 := ha17.fx 1 h7
  have h21 := ha17.fx 2 h11
  have h22 := ha17.ge 2 5 rfl
  have hb23 := hb10.new_ hn16
  have hN24 := hN13.transNew hn16
  clear hs5 hd6 h7 h11 hb10 hN13 ha17 hn16
  refine st_nil ?_
  refine hK _ _ ?_
  clear hK K
  rcases Bool.eq_false_or_eq_true (decide (a.k = 0)) with ht25 | ht25
  · skip
    have ht25d := of_decide_eq_true ht25
    have hv26 : a14.eval (.tmp 5) = .bool true := h22.trans (congrArg Value.bool ht25)
    clear h22
    refine wp_cond_true hv26 ?_
    refine wp_seq_k fun K hK => ?_
    rcases Bool.eq_false_or_eq_true (decide (a.n < -9007199254740991)) with ht27 | ht27
    · skip
      have ht27d := of_decide_eq_true ht27
      refine wp_g0 [true, true, true, true, true, true, true, true, true] [] 27
        [ve (.pointer (some ⟨q8, 1, none⟩)),
         ve (iv a.n),
         ve (.bool false),
         ve (.bool false),
         ve undef,
         ve undef,
         ve undef,
         ve (.bool false),
         ve (.bool false)] hs18 (.eq (.eq (.eq (.eq (.eq (.eq (.eq (.eq (.eq (.nil)))))))))) ?_ ?_
      · skip
        refine .o1 (tk rfl rfl fun _ w hn k => ⟨_, v_field rfl (k.fx 1 h20) (fun w => rfl), rfl⟩) ?_
        refine .o1 (tk rfl rfl fun _ w hn k => ⟨_, v_load rfl (k.eq1 0 6 rfl) (l_one Tryd.isAgg3 ((hb23.new_ hn).cell 1)), rfl⟩) ?_
        refine .o1 (tk rfl rfl fun _ w hn k => ⟨_, v_bin rfl (k.eq1 1 7 rfl) rfl (fun _ => rfl) (r_geqK ht27), rfl⟩) ?_
        refine .o1 (tk rfl rfl fun _ w hn k => ⟨_, v_move rfl (k.eq1 2 8 rfl), rfl⟩) ?_
        refine .o1 (sk rfl rfl rfl (fun _ _ _ k => k.eq1 3 9 rfl) (fun _ => rfl)) ?_
        refine .o1 (sk rfl rfl rfl (fun _ _ _ k => k.eq1 3 9 rfl) (fun _ => rfl)) ?_
        refine .o1 (sk rfl rfl rfl (fun _ _ _ k => k.eq1 3 9 rfl) (fun _ => rfl)) ?_
        refine .o1 (tk rfl rfl fun _ w hn k => ⟨_, v_pickF rfl (k.eq1 3 9 rfl) rfl, rfl⟩) ?_
        refine .o1 (tk rfl rfl fun _ w hn k => ⟨_, v_assign rfl (k.eq1 7 13 rfl), rfl⟩) ?_
        exact .nil
      intro a28 w29 hn30 ha31
      have hs32 := ha31.size.trans hs18
      have hd33 := ha31.defers.trans hd19
      have h34 := ha31.fx 1 h20
      have h35 := ha31.ge 8 2 rfl
      have hb36 := hb23.new_ hn30
      have hN37 := hN24.transNew hn30
      clear hs18 hd19 h20 h21 hv26 hb23 hN24 ha31 hn30
      refine st_nil ?_
      refine hK _ _ ?_
      clear hK K
      refine wp_ret (ret_k hd33 (v := .bool false) (res_t rfl h35 _) ?_)
      refine ⟨?_, hN37⟩
      show Ending.returned (.bool false) = Ending.returned (.bool (rMayB a))
      first | rfl | (simp [rMayB, ht25, ht27])
    have ht27d := of_decide_eq_false ht27
    refine wp_g0 [true, true, true, true, true, true, true, true, true] [] 27
      [ve (.pointer (some ⟨q8, 1, none⟩)),
       ve (iv a.n),
       ve (.bool true),
       ve (.bool true),
       ve (.pointer (some ⟨q8, 1, none⟩)),
       ve (iv a.n),
       ve (.bool (decide (a.n ≤ 9007199254740991))),
       ve (.bool (decide (a.n ≤ 9007199254740991))),
       ve (.bool (decide (a.n ≤ 9007199254740991)))] hs18 (.eq (.eq (.eq (.eq (.eq (.eq (.eq (.eq (.eq (.nil)))))))))) ?_ ?_
    · skip
      refine .o1 (tk rfl rfl fun _ w hn k => ⟨_, v_field rfl (k.fx 1 h20) (fun w => rfl), rfl⟩) ?_
      refine .o1 (tk rfl rfl fun _ w hn k => ⟨_, v_load rfl (k.eq1 0 6 rfl) (l_one Tryd.isAgg3 ((hb23.new_ hn).cell 1)), rfl⟩) ?_
      refine .o1 (tk rfl rfl fun _ w hn k => ⟨_, v_bin rfl (k.eq1 1 7 rfl) rfl (fun _ => rfl) (r_geqK ht27), rfl⟩) ?_
      refine .o1 (tk rfl rfl fun _ w hn k => ⟨_, v_move rfl (k.eq1 2 8 rfl), rfl⟩) ?_
      refine .o1 (tg rfl rfl rfl (fun _ _ k => k.eq1 3 9 rfl) fun _ w hn k => ⟨_, v_field rfl (k.fx 1 h20) (fun w => rfl), rfl⟩) ?_
      refine .o1 (tg rfl rfl rfl (fun _ _ k => k.eq1 3 9 rfl) fun _ w hn k => ⟨_, v_load rfl (k.eq1 4 10 rfl) (l_one Tryd.isAgg3 ((hb23.new_ hn).cell 1)), rfl⟩) ?_
      refine .o1 (tg rfl rfl rfl (fun _ _ k => k.eq1 3 9 rfl) fun _ w hn k => ⟨_, v_bin rfl (k.eq1 5 11 rfl) rfl (fun _ => rfl) (r_leqK rfl), rfl⟩) ?_
      refine .o1 (tk rfl rfl fun _ w hn k => ⟨_, v_pickT rfl (k.eq1 3 9 rfl) (k.eq1 6 12 rfl), rfl⟩) ?_
      refine .o1 (tk rfl rfl fun _ w hn k => ⟨_, v_assign rfl (k.eq1 7 13 rfl), rfl⟩) ?_
      exact .nil
    intro a38 w39 hn40 ha41
    have hs42 := ha41.size.trans hs18
    have hd43 := ha41.defers.trans hd19
    have h44 := ha41.fx 1 h20
    have h45 := ha41.ge 8 2 rfl
    have hb46 := hb23.new_ hn40
    have hN47 := hN24.transNew hn40
    clear hs18 hd19 h20 h21 hv26 hb23 hN24 ha41 hn40
    refine st_nil ?_
    refine hK _ _ ?_
    clear hK K
    refine wp_ret (ret_k hd43 (v := .bool (decide (a.n ≤ 9007199254740991))) (res_t rfl h45 _) ?_)
    refine ⟨?_, hN47⟩
    show Ending.returned (.bool (decide (a.n ≤ 9007199254740991))) = Ending.returned (.bool (rMayB a))
    first | rfl | (simp [rMayB, ht25, ht27])
  have ht25d := of_decide_eq_false ht25
  have hv48 : a14.eval (.tmp 5) = .bool false := h22.trans (congrArg Value.bool ht25)
  clear h22
  refine wp_cond_false hv48 ?_
  refine wp_skip ?_
  refine hK _ _ ?_
  clear hK K
  refine wp_seq_k fun K hK => ?_
  rcases Bool.eq_false_or_eq_true (decide (a.k < 1)) with ht49 | ht49
  · skip
    have ht49d := of_decide_eq_true ht49
    refine wp_g0 [true, true, true, true, true, true, true, true, true, true, true, true, true, true] [] 27
      [ve (pv q8),
       ve (iv a.k),
       ve (.bool false),
       ve (.bool false),
       ve undef,
       ve undef,
       ve undef,
       ve (.bool false),
       ve (.bool false),
       ve undef,
       ve undef,
       ve undef,
       ve (.bool false),
       ve (.bool false)] hs18 (.eq (.eq (.eq (.eq (.eq (.eq (.eq (.eq (.eq (.eq (.eq (.eq (.eq (.eq (.nil))))))))))))))) ?_ ?_
    · skip
      refine .o1 (tk rfl rfl fun _ w hn k => ⟨_, v_field rfl (k.fx 1 h20) (fun w => rfl), rfl⟩) ?_
      refine .o1 (tk rfl rfl fun _ w hn k => ⟨_, v_load rfl (k.eq1 0 14 rfl) (l_one Tryd.isAgg3 ((hb23.new_ hn).cell 0)), rfl⟩) ?_
      refine .o1 (tk rfl rfl fun _ w hn k => ⟨_, v_bin rfl (k.eq1 1 15 rfl) rfl (fun _ => rfl) (r_geqK ht49), rfl⟩) ?_
      refine .o1 (tk rfl rfl fun _ w hn k => ⟨_, v_move rfl (k.eq1 2 16 rfl), rfl⟩) ?_
      refine .o1 (sk rfl rfl rfl (fun _ _ _ k => k.eq1 3 17 rfl) (fun _ => rfl)) ?_
      refine .o1 (sk rfl rfl rfl (fun _ _ _ k => k.eq1 3 17 rfl) (fun _ => rfl)) ?_
      refine .o1 (sk rfl rfl rfl (fun _ _ _ k => k.eq1 3 17 rfl) (fun _ => rfl)) ?_
      refine .o1 (tk rfl rfl fun _ w hn k => ⟨_, v_pickF rfl (k.eq1 3 17 rfl) rfl, rfl⟩) ?_
      refine .o1 (tk rfl rfl fun _ w hn k => ⟨_, v_move rfl (k.eq1 7 21 rfl), rfl⟩) ?_
      refine .o1 (sk rfl rfl rfl (fun _ _ _ k => k.eq1 8 22 rfl) (fun _ => rfl)) ?_
      refine .o1 (sk rfl rfl rfl (fun _ _ _ k => k.eq1 8 22 rfl) (fun _ => rfl)) ?_
      refine .o1 (sk rfl rfl rfl (fun _ _ _ k => k.eq1 8 22 rfl) (fun _ => rfl)) ?_
      refine .o1 (tk rfl rfl fun _ w hn k => ⟨_, v_pickF rfl (k.eq1 8 22 rfl) rfl, rfl⟩) ?_
      refine .o1 (tk rfl rfl fun _ w hn k => ⟨_, v_assign rfl (k.eq1 12 26 rfl), rfl⟩) ?_
      exact .nil
    intro a50 w51 hn52 ha53
    have hs54 := ha53.size.trans hs18
    have hd55 := ha53.defers.trans hd19
    have h56 := ha53.ge 13 2 rfl
    have hN57 := hN24.transNew hn52
    clear hs18 hd19 h20 h21 hv48 hb23 hq12 hN24 ha53 hn52
    refine st_nil ?_
    refine hK _ _ ?_
    clear hK K
    refine wp_ret (ret_k hd55 (v := .bool false) (res_t rfl h56 _) ?_)
    refine ⟨?_, hN57⟩
    show Ending.returned (.bool false) = Ending.returned (.bool (rMayB a))
    first | rfl | (simp [rMayB, ht25, ht49])
  have ht49d := of_decide_eq_false ht49
  rcases Bool.eq_false_or_eq_true (decide (a.k ≤ 4)) with ht58 | ht58
  · skip
    have ht58d := of_decide_eq_true ht58
    refine wp_g0 [true, true, true, true, true, true, true, true, true, true, true, true, true, true] [] 27
      [ve (pv q8),
       ve (iv a.k),
       ve (.bool true),
       ve (.bool true),
       ve (pv q8),
       ve (iv a.k),
       ve (.bool true),
       ve (.bool true),
       ve (.bool true),
       ve (.pointer (some ⟨q8, 1, none⟩)),
       ve (iv a.n),
       ve (.bool (decide (a.n = 0))),
       ve (.bool (decide (a.n = 0))),
       ve (.bool (decide (a.n = 0)))] hs18 (.eq (.eq (.eq (.eq (.eq (.eq (.eq (.eq (.eq (.eq (.eq (.eq (.eq (.eq (.nil))))))))))))))) ?_ ?_
    · skip
      refine .o1 (tk rfl rfl fun _ w hn k => ⟨_, v_field rfl (k.fx 1 h20) (fun w => rfl), rfl⟩) ?_
      refine .o1 (tk rfl rfl fun _ w hn k => ⟨_, v_load rfl (k.eq1 0 14 rfl) (l_one Tryd.isAgg3 ((hb23.new_ hn).cell 0)), rfl⟩) ?_
      refine .o1 (tk rfl rfl fun _ w hn k => ⟨_, v_bin rfl (k.eq1 1 15 rfl) rfl (fun _ => rfl) (r_geqK ht49), rfl⟩) ?_
      refine .o1 (tk rfl rfl fun _ w hn k => ⟨_, v_move rfl (k.eq1 2 16 rfl), rfl⟩) ?_
      refine .o1 (tg rfl rfl rfl (fun _ _ k => k.eq1 3 17 rfl) fun _ w hn k => ⟨_, v_field rfl (k.fx 1 h20) (fun w => rfl), rfl⟩) ?_
      refine .o1 (tg rfl rfl rfl (fun _ _ k => k.eq1 3 17 rfl) fun _ w hn k => ⟨_, v_load rfl (k.eq1 4 18 rfl) (l_one Tryd.isAgg3 ((hb23.new_ hn).cell 0)), rfl⟩) ?_
      refine .o1 (tg rfl rfl rfl (fun _ _ k => k.eq1 3 17 rfl) fun _ w hn k => ⟨_, v_bin rfl (k.eq1 5 19 rfl) rfl (fun _ => rfl) (r_leqK ht58), rfl⟩) ?_
      refine .o1 (tk rfl rfl fun _ w hn k => ⟨_, v_pickT rfl (k.eq1 3 17 rfl) (k.eq1 6 20 rfl), rfl⟩) ?_
      refine .o1 (tk rfl rfl fun _ w hn k => ⟨_, v_move rfl (k.eq1 7 21 rfl), rfl⟩) ?_
      refine .o1 (tg rfl rfl rfl (fun _ _ k => k.eq1 8 22 rfl) fun _ w hn k => ⟨_, v_field rfl (k.fx 1 h20) (fun w => rfl), rfl⟩) ?_
      refine .o1 (tg rfl rfl rfl (fun _ _ k => k.eq1 8 22 rfl) fun _ w hn k => ⟨_, v_load rfl (k.eq1 9 23 rfl) (l_one Tryd.isAgg3 ((hb23.new_ hn).cell 1)), rfl⟩) ?_
      refine .o1 (tg rfl rfl rfl (fun _ _ k => k.eq1 8 22 rfl) fun _ w hn k => ⟨_, v_bin rfl (k.eq1 10 24 rfl) rfl (fun _ => rfl) (r_eql rfl), rfl⟩) ?_
      refine .o1 (tk rfl rfl fun _ w hn k => ⟨_, v_pickT rfl (k.eq1 8 22 rfl) (k.eq1 11 25 rfl), rfl⟩) ?_
      refine .o1 (tk rfl rfl fun _ w hn k => ⟨_, v_assign rfl (k.eq1 12 26 rfl), rfl⟩) ?_
      exact .nil
    intro a59 w60 hn61 ha62
    have hs63 := ha62.size.trans hs18
    have hd64 := ha62.defers.trans hd19
    have h65 := ha62.ge 13 2 rfl
    have hN66 := hN24.transNew hn61
    clear hs18 hd19 h20 h21 hv48 hb23 hq12 hN24 ha62 hn61
    refine st_nil ?_
    refine hK _ _ ?_
    clear hK K
    refine wp_ret (ret_k hd64 (v := .bool (decide (a.n = 0))) (res_t rfl h65 _) ?_)
    refine ⟨?_, hN66⟩
    show Ending.returned (.bool (decide (a.n = 0))) = Ending.returned (.bool (rMayB a))
    first | rfl | (simp [rMayB, ht25, ht49, ht58])
  have ht58d := of_decide_eq_false ht58
  refine wp_g0 [true, true, true, true, true, true, true, true, true, true, true, true, true, true] [] 27
    [ve (pv q8),
     ve (iv a.k),
     ve (.bool true),
     ve (.bool true),
     ve (pv q8),
     ve (iv a.k),
     ve (.bool false),
     ve (.bool false),
     ve (.bool false),
     ve undef,
     ve undef,
     ve undef,
     ve (.bool false),
     ve (.bool false)] hs18 (.eq (.eq (.eq (.eq (.eq (.eq (.eq (.eq (.eq (.eq (.eq (.eq (.eq (.eq (.nil))))))))))))))) ?_ ?_
  · skip
    refine .o1 (tk rfl rfl fun _ w hn k => ⟨_, v_field rfl (k.fx 1 h20) (fun w => rfl), rfl⟩) ?_
    refine .o1 (tk rfl rfl fun _ w hn k => ⟨_, v_load rfl (k.eq1 0 14 rfl) (l_one Tryd.isAgg3 ((hb23.new_ hn).cell 0)), rfl⟩) ?_
    refine .o1 (tk rfl rfl fun _ w hn k => ⟨_, v_bin rfl (k.eq1 1 15 rfl) rfl (fun _ => rfl) (r_geqK ht49), rfl⟩) ?_
    refine .o1 (tk rfl rfl fun _ w hn k => ⟨_, v_move rfl (k.eq1 2 16 rfl), rfl⟩) ?_
    refine .o1 (tg rfl rfl rfl (fun _ _ k => k.eq1 3 17 rfl) fun _ w hn k => ⟨_, v_field rfl (k.fx 1 h20) (fun w => rfl), rfl⟩) ?_
    refine .o1 (tg rfl rfl rfl (fun _ _ k => k.eq1 3 17 rfl) fun _ w hn k => ⟨_, v_load rfl (k.eq1 4 18 rfl) (l_one Tryd.isAgg3 ((hb23.new_ hn).cell 0)), rfl⟩) ?_
    refine .o1 (tg rfl rfl rfl (fun _ _ k => k.eq1 3 17 rfl) fun _ w hn k => ⟨_, v_bin rfl (k.eq1 5 19 rfl) rfl (fun _ => rfl) (r_leqK ht58), rfl⟩) ?_
    refine .o1 (tk rfl rfl fun _ w hn k => ⟨_, v_pickT rfl (k.eq1 3 17 rfl) (k.eq1 6 20 rfl), rfl⟩) ?_
    refine .o1 (tk rfl rfl fun _ w hn k => ⟨_, v_move rfl (k.eq1 7 21 rfl), rfl⟩) ?_
    refine .o1 (sk rfl rfl rfl (fun _ _ _ k => k.eq1 8 22 rfl) (fun _ => rfl)) ?_
    refine .o1 (sk rfl rfl rfl (fun _ _ _ k => k.eq1 8 22 rfl) (fun _ => rfl)) ?_
    refine .o1 (sk rfl rfl rfl (fun _ _ _ k => k.eq1 8 22 rfl) (fun _ => rfl)) ?_
    refine .o1 (tk rfl rfl fun _ w hn k => ⟨_, v_pickF rfl (k.eq1 8 22 rfl) rfl, rfl⟩) ?_
    refine .o1 (tk rfl rfl fun _ w hn k => ⟨_, v_assign rfl (k.eq1 12 26 rfl), rfl⟩) ?_
    exact .nil
  intro a67 w68 hn69 ha70
  have hs71 := ha70.size.trans hs18
  have hd72 := ha70.defers.trans hd19
  have h73 := ha70.ge 13 2 rfl
  have hN74 := hN24.transNew hn69
  clear hs18 hd19 h20 h21 hv48 hb23 hq12 hN24 ha70 hn69
  refine st_nil ?_
  refine hK _ _ ?_
  clear hK K
  refine wp_ret (ret_k hd72 (v := .bool false) (res_t rfl h73 _) ?_)
  refine ⟨?_, hN74⟩
  show Ending.returned (.bool false) = Ending.returned (.bool (rMayB a))
  first | rfl | (simp [rMayB, ht25, ht49, ht58])
theorem rmay_c (a : Nm) (w : World) : Calls Tryd.prog 45 #[nv a] w (IsRet (.bool (mayB a)) w) := by
  have h := rmay0_c a w
  rw [rMay_eq] at h
  exact h
set_option maxHeartbeats 4000000 in
set_option maxRecDepth 100000 in
theorem good_c (a : Nm) (w : World) : Calls Tryd.prog 64 #[nv a] w (IsRet (nv (asM a)) w) := by
  refine enter_abs Tryd.func64 rfl fun a0 hs0 hd0 hp => ?_
  have hs0 : a0.tmps.size = 7 := hs0
  have hN0 : New w w := Upd.refl _ _
  have hp0 : a0.eval (.tmp 0) = nv a := hp 0 _ rfl
  clear hp
  refine wp_seq_k fun K hK => ?_
  refine wp_g [true, true] [] [] 7
    [IsNew w 23 [iv a.k, iv a.n],
     IsNew w 23 [iv 0, iv 0]]
    [0, 1] (newsCons (fun v w h => IsNew.old h) (newsCons (fun v w h => IsNew.old h) newsNil)) hs0 (.nw (.nw (.nil))) ?_ (fun i h => by cases h) ?_
  · skip
    refine .o2 (step_allocN (cs := [iv a.k, iv a.n]) (t := 23) rfl (noG rfl) (fun _ w hn k => v_box rfl (k.fx 0 hp0) (fun w => rfl)) (fun q _ hq hb => ⟨q, rfl, hq, hb⟩)) ?_
    refine .o2 (step_allocN (cs := [iv 0, iv 0]) (t := 23) rfl (noG rfl) (fun _ w hn k => rfl) (fun q _ hq hb => ⟨q, rfl, hq, hb⟩)) ?_
    exact .nil
  intro a1 w2 hn3 ha4
  have hs5 := ha4.size.trans hs0
  have hd6 := ha4.defers.trans hd0
  obtain ⟨q8, h7, hq9, hb10⟩ : IsNew _ _ _ _ _ := ha4.got 0 1 rfl (by kernel_rfl)
  obtain ⟨q12, h11, hq13, hb14⟩ : IsNew _ _ _ _ _ := ha4.got 1 2 rfl (by kernel_rfl)
  have hne15 : q8 ≠ q12 := ha4.ne 0 1 1 2 h7 h11
  have hq16 := Nat.le_trans hN0.size hq9
  have hq17 := Nat.le_trans hN0.size hq13
  have hN18 := hN0.transNew hn3
  clear hs0 hd0 hp0 hq9 hq13 hN0 ha4 hn3
  refine st_nil ?_
  refine hK _ _ ?_
  clear hK K
  refine wp_seq_k fun K hK => ?_
  refine wp_seq_k fun K hK => ?_
  refine wp_g0 [true, true] [] 7
    [ve (nv a),
     ve (.bool (mayB a))] hs5 (.eq (.eq (.nil))) ?_ ?_
  · skip
    refine .o1 (tk rfl rfl fun _ w hn k => ⟨_, v_load rfl (k.fx 1 h7) (l_two Tryd.isAgg23 Tryd.sizeOf23 (hb10.new_ hn)), rfl⟩) ?_
    refine .o1 (ck rfl rfl rfl (fun _ w hn k => ⟨#[nv a], args1 (k.eq1 0 3 rfl), fun _ => by kernel_rfl, rmay_c a _⟩) fun _ => rfl) ?_
    exact .nil
  intro a19 w20 hn21 ha22
  have hs23 := ha22.size.trans hs5
  have hd24 := ha22.defers.trans hd6
  have h25 := ha22.fx 1 h7
  have h26 := ha22.fx 2 h11
  have h27 := ha22.ge 1 4 rfl
  have hb28 := hb10.new_ hn21
  have hb29 := hb14.new_ hn21
  have hN30 := hN18.transNew hn21
  clear hs5 hd6 h7 h11 hb10 hb14 hN18 ha22 hn21
  refine st_nil ?_
  refine hK _ _ ?_
  clear hK K
  rcases Bool.eq_false_or_eq_true (mayB a) with ht31 | ht31
  · skip
    have hv32 : a19.eval (.tmp 4) = .bool true := h27.trans (congrArg Value.bool ht31)
    clear h27
    refine wp_cond_true hv32 ?_
    refine wp_seq_k fun K hK => ?_
    refine wp_g0 [true, false] [(1, false)] 7
      [ve (nv a),
       vt] hs23 (.eq (.tt (.nil))) ?_ ?_
    · skip
      refine .o1 (tk rfl rfl fun _ w hn k => ⟨_, v_load rfl (k.fx 1 h25) (l_two Tryd.isAgg23 Tryd.sizeOf23 (hb28.new_ hn)), rfl⟩) ?_
      refine .off ?_
      exact .nil
    intro a33 w34 hn35 ha36
    have hs37 := ha36.size.trans hs23
    have hd38 := ha36.defers.trans hd24
    have h39 := ha36.fx 2 h26
    have h40 := ha36.ge 0 5 rfl
    have hb41 := hb29.new_ hn35
    have hN42 := hN30.transNew hn35
    clear hs23 hd24 h25 h26 hv32 hb28 hq16 hb29 hN30 ha36 hn35
    obtain ⟨w43, -, hst44, hb45, hu46, hf47⟩ := s_two (v0 := iv a.k) (v1 := iv a.n) Tryd.sizeOf23 rfl rfl rfl hb41
    refine st_act rfl rfl fun K48 hL49 => a_store' rfl h39 h40 hst44 (hL49 _ _ trivial ?_)
    have hN50 := hN42.trans hu46 (fun k hk hkb => by subst hkb; omega)
    clear hb41 hst44 K48 hL49 hN42 hu46 hf47
    refine st_nil ?_
    clear h40
    refine hK _ _ ?_
    clear hK K
    refine wp_ret (ret_k hd38 (v := nv a) (res_c rfl h39 (l_two Tryd.isAgg23 Tryd.sizeOf23 hb45)) ?_)
    refine ⟨?_, hN50⟩
    show Ending.returned (nv a) = Ending.returned (nv (asM a))
    first | rfl | (simp [asM, ht31])
  have hv51 : a19.eval (.tmp 4) = .bool false := h27.trans (congrArg Value.bool ht31)
  clear h27
  refine wp_cond_false hv51 ?_
  refine wp_skip ?_
  refine hK _ _ ?_
  clear hK K
  refine wp_seq_k fun K hK => ?_
  refine wp_g0 [true, false] [(1, false)] 7
    [ve (nv (Nm.mk 2 0)),
     vt] hs23 (.eq (.tt (.nil))) ?_ ?_
  · skip
    refine .o1 (ck rfl rfl rfl (fun _ w hn k => ⟨#[iv 2], args1 rfl, fun _ => by kernel_rfl, rkind_c 2 _⟩) fun _ => rfl) ?_
    refine .off ?_
    exact .nil
  intro a52 w53 hn54 ha55
  have hs56 := ha55.size.trans hs23
  have hd57 := ha55.defers.trans hd24
  have h58 := ha55.fx 2 h26
  have h59 := ha55.ge 0 6 rfl
  have hb60 := hb29.new_ hn54
  have hN61 := hN30.transNew hn54
  clear hs23 hd24 h25 h26 hv51 hb28 hq16 hb29 hN30 ha55 hn54
  obtain ⟨w62, -, hst63, hb64, hu65, hf66⟩ := s_two (v0 := iv 2) (v1 := iv 0) Tryd.sizeOf23 rfl rfl rfl hb60
  refine st_act rfl rfl fun K67 hL68 => a_store' rfl h58 h59 hst63 (hL68 _ _ trivial ?_)
  have hN69 := hN61.trans hu65 (fun k hk hkb => by subst hkb; omega)
  clear hb60 hst63 K67 hL68 hN61 hu65 hf66
  refine st_nil ?_
  clear h59
  refine hK _ _ ?_
  clear hK K
  refine wp_ret (ret_k hd57 (v := nv (Nm.mk 2 0)) (res_c rfl h58 (l_two Tryd.isAgg23 Tryd.sizeOf23 hb64)) ?_)
  refine ⟨?_, hN69⟩
  show Ending.returned (nv (Nm.mk 2 0)) = Ending.returned (nv (asM a))
  first | rfl | (simp [asM, ht31])
set_option maxHeartbeats 4000000 in
set_option maxRecDepth 100000 in
theorem rnan_c (a : Nm) (w : World) : Calls Tryd.prog 73 #[nv a] w (IsRet (.bool (decide (a.k = 2))) w) := by
  refine enter_abs Tryd.func73 rfl fun a0 hs0 hd0 hp => ?_
  have hs0 : a0.tmps.size = 6 := hs0
  have hN0 : New w w := Upd.refl _ _
  have hp0 : a0.eval (.tmp 0) = nv a := hp 0 _ rfl
  clear hp
  refine wp_seq_k fun K hK => ?_
  refine wp_g [true, true] [] [] 6
    [IsNew w 23 [iv a.k, iv a.n],
     ve (.bool false)]
    [0] (newsCons (fun v w h => IsNew.old h) newsNil) hs0 (.nw (.eq (.nil))) ?_ (fun i h => by cases h) ?_
  · skip
    refine .o2 (step_allocN (cs := [iv a.k, iv a.n]) (t := 23) rfl (noG rfl) (fun _ w hn k => v_box rfl (k.fx 0 hp0) (fun w => rfl)) (fun q _ hq hb => ⟨q, rfl, hq, hb⟩)) ?_
    refine .o1 (tk rfl rfl fun _ w hn k => ⟨_, v_assign rfl rfl, rfl⟩) ?_
    exact .nil
  intro a1 w2 hn3 ha4
  have hs5 := ha4.size.trans hs0
  have hd6 := ha4.defers.trans hd0
  obtain ⟨q8, h7, hq9, hb10⟩ : IsNew _ _ _ _ _ := ha4.got 0 1 rfl (by kernel_rfl)
  have h11 := ha4.ge 1 2 rfl
  have hq12 := Nat.le_trans hN0.size hq9
  have hN13 := hN0.transNew hn3
  clear hs0 hd0 hp0 hq9 hN0 ha4 hn3
  refine st_nil ?_
  refine hK _ _ ?_
  clear hK K
  refine wp_seq_k fun K hK => ?_
  refine wp_g0 [true, true, true, true] [] 6
    [ve (pv q8),
     ve (iv a.k),
     ve (.bool (decide (a.k = 2))),
     ve (.bool (decide (a.k = 2)))] hs5 (.eq (.eq (.eq (.eq (.nil))))) ?_ ?_
  · skip
    refine .o1 (tk rfl rfl fun _ w hn k => ⟨_, v_field rfl (k.fx 1 h7) (fun w => rfl), rfl⟩) ?_
    refine .o1 (tk rfl rfl fun _ w hn k => ⟨_, v_load rfl (k.eq1 0 3 rfl) (l_one Tryd.isAgg3 ((hb10.new_ hn).cell 0)), rfl⟩) ?_
    refine .o1 (tk rfl rfl fun _ w hn k => ⟨_, v_bin rfl (k.eq1 1 4 rfl) rfl (fun _ => rfl) (r_eql rfl), rfl⟩) ?_
    refine .o1 (tk rfl rfl fun _ w hn k => ⟨_, v_assign rfl (k.eq1 2 5 rfl), rfl⟩) ?_
    exact .nil
  intro a14 w15 hn16 ha17
  have hs18 := ha17.size.trans hs5
  have hd19 := ha17.defers.trans hd6
  have h20 := ha17.ge 3 2 rfl
  have hN21 := hN13.transNew hn16
  clear hs5 hd6 h7 h11 hb10 hq12 hN13 ha17 hn16
  refine st_nil ?_
  refine hK _ _ ?_
  clear hK K
  refine wp_ret (ret_k hd19 (v := .bool (decide (a.k = 2))) (res_t rfl h20 _) ?_)
  refine ⟨?_, hN21⟩
  rfl
set_option maxHeartbeats 4000000 in
set_option maxRecDepth 100000 in
theorem rinf_c (a : Nm) (w : World) : Calls Tryd.prog 74 #[nv a] w (IsRet (.bool (infB a.k)) w) := by
  refine enter_abs Tryd.func74 rfl fun a0 hs0 hd0 hp => ?_
  have hs0 : a0.tmps.size = 11 := hs0
  have hN0 : New w w := Upd.refl _ _
  have hp0 : a0.eval (.tmp 0) = nv a := hp 0 _ rfl
  clear hp
  refine wp_seq_k fun K hK => ?_
  refine wp_g [true, true] [] [] 11
    [IsNew w 23 [iv a.k, iv a.n],
     ve (.bool false)]
    [0] (newsCons (fun v w h => IsNew.old h) newsNil) hs0 (.nw (.eq (.nil))) ?_ (fun i h => by cases h) ?_
  · skip
    refine .o2 (step_allocN (cs := [iv a.k, iv a.n]) (t := 23) rfl (noG rfl) (fun _ w hn k => v_box rfl (k.fx 0 hp0) (fun w => rfl)) (fun q _ hq hb => ⟨q, rfl, hq, hb⟩)) ?_
    refine .o1 (tk rfl rfl fun _ w hn k => ⟨_, v_assign rfl rfl, rfl⟩) ?_
    exact .nil
  intro a1 w2 hn3 ha4
  have hs5 := ha4.size.trans hs0
  have hd6 := ha4.defers.trans hd0
  obtain ⟨q8, h7, hq9, hb10⟩ : IsNew _ _ _ _ _ := ha4.got 0 1 rfl (by kernel_rfl)
  have h11 := ha4.ge 1 2 rfl
  have hq12 := Nat.le_trans hN0.size hq9
  have hN13 := hN0.transNew hn3
  clear hs0 hd0 hp0 hq9 hN0 ha4 hn3
  refine st_nil ?_
  refine hK _ _ ?_
  clear hK K
  refine wp_seq_k fun K hK => ?_
  rcases Bool.eq_false_or_eq_true (decide (a.k = 3)) with ht14 | ht14
  · skip
    have ht14d := of_decide_eq_true ht14
    refine wp_g0 [true, true, true, true, true, true, true, true, true] [] 11
      [ve (pv q8),
       ve (iv a.k),
       ve (.bool true),
       ve (.bool true),
       ve undef,
       ve undef,
       ve undef,
       ve (.bool true),
       ve (.bool true)] hs5 (.eq (.eq (.eq (.eq (.eq (.eq (.eq (.eq (.eq (.nil)))))))))) ?_ ?_
    · skip
      refine .o1 (tk rfl rfl fun _ w hn k => ⟨_, v_field rfl (k.fx 1 h7) (fun w => rfl), rfl⟩) ?_
      refine .o1 (tk rfl rfl fun _ w hn k => ⟨_, v_load rfl (k.eq1 0 3 rfl) (l_one Tryd.isAgg3 ((hb10.new_ hn).cell 0)), rfl⟩) ?_
      refine .o1 (tk rfl rfl fun _ w hn k => ⟨_, v_bin rfl (k.eq1 1 4 rfl) rfl (fun _ => rfl) (r_eql ht14), rfl⟩) ?_
      refine .o1 (tk rfl rfl fun _ w hn k => ⟨_, v_move rfl (k.eq1 2 5 rfl), rfl⟩) ?_
      refine .o1 (sk rfl rfl rfl (fun _ _ _ k => k.eq1 3 6 rfl) (fun _ => rfl)) ?_
      refine .o1 (sk rfl rfl rfl (fun _ _ _ k => k.eq1 3 6 rfl) (fun _ => rfl)) ?_
      refine .o1 (sk rfl rfl rfl (fun _ _ _ k => k.eq1 3 6 rfl) (fun _ => rfl)) ?_
      refine .o1 (tk rfl rfl fun _ w hn k => ⟨_, v_pickT rfl (k.eq1 3 6 rfl) rfl, rfl⟩) ?_
      refine .o1 (tk rfl rfl fun _ w hn k => ⟨_, v_assign rfl (k.eq1 7 10 rfl), rfl⟩) ?_
      exact .nil
    intro a15 w16 hn17 ha18
    have hs19 := ha18.size.trans hs5
    have hd20 := ha18.defers.trans hd6
    have h21 := ha18.ge 8 2 rfl
    have hN22 := hN13.transNew hn17
    clear hs5 hd6 h7 h11 hb10 hq12 hN13 ha18 hn17
    refine st_nil ?_
    refine hK _ _ ?_
    clear hK K
    refine wp_ret (ret_k hd20 (v := .bool true) (res_t rfl h21 _) ?_)
    refine ⟨?_, hN22⟩
    show Ending.returned (.bool true) = Ending.returned (.bool (infB a.k))
    first | rfl | (simp [infB, ht14])
  have ht14d := of_decide_eq_false ht14
  refine wp_g0 [true, true, true, true, true, true, true, true, true] [] 11
    [ve (pv q8),
     ve (iv a.k),
     ve (.bool false),
     ve (.bool false),
     ve (pv q8),
     ve (iv a.k),
     ve (.bool (decide (a.k = 4))),
     ve (.bool (decide (a.k = 4))),
     ve (.bool (decide (a.k = 4)))] hs5 (.eq (.eq (.eq (.eq (.eq (.eq (.eq (.eq (.eq (.nil)))))))))) ?_ ?_
  · skip
    refine .o1 (tk rfl rfl fun _ w hn k => ⟨_, v_field rfl (k.fx 1 h7) (fun w => rfl), rfl⟩) ?_
    refine .o1 (tk rfl rfl fun _ w hn k => ⟨_, v_load rfl (k.eq1 0 3 rfl) (l_one Tryd.isAgg3 ((hb10.new_ hn).cell 0)), rfl⟩) ?_
    refine .o1 (tk rfl rfl fun _ w hn k => ⟨_, v_bin rfl (k.eq1 1 4 rfl) rfl (fun _ => rfl) (r_eql ht14), rfl⟩) ?_
    refine .o1 (tk rfl rfl fun _ w hn k => ⟨_, v_move rfl (k.eq1 2 5 rfl), rfl⟩) ?_
    refine .o1 (tg rfl rfl rfl (fun _ _ k => k.eq1 3 6 rfl) fun _ w hn k => ⟨_, v_field rfl (k.fx 1 h7) (fun w => rfl), rfl⟩) ?_
    refine .o1 (tg rfl rfl rfl (fun _ _ k => k.eq1 3 6 rfl) fun _ w hn k => ⟨_, v_load rfl (k.eq1 4 7 rfl) (l_one Tryd.isAgg3 ((hb10.new_ hn).cell 0)), rfl⟩) ?_
    refine .o1 (tg rfl rfl rfl (fun _ _ k => k.eq1 3 6 rfl) fun _ w hn k => ⟨_, v_bin rfl (k.eq1 5 8 rfl) rfl (fun _ => rfl) (r_eql rfl), rfl⟩) ?_
    refine .o1 (tk rfl rfl fun _ w hn k => ⟨_, v_pickF rfl (k.eq1 3 6 rfl) (k.eq1 6 9 rfl), rfl⟩) ?_
    refine .o1 (tk rfl rfl fun _ w hn k => ⟨_, v_assign rfl (k.eq1 7 10 rfl), rfl⟩) ?_
    exact .nil
  intro a23 w24 hn25 ha26
  have hs27 := ha26.size.trans hs5
  have hd28 := ha26.defers.trans hd6
  have h29 := ha26.ge 8 2 rfl
  have hN30 := hN13.transNew hn25
  clear hs5 hd6 h7 h11 hb10 hq12 hN13 ha26 hn25
  refine st_nil ?_
  refine hK _ _ ?_
  clear hK K
  refine wp_ret (ret_k hd28 (v := .bool (decide (a.k = 4))) (res_t rfl h29 _) ?_)
  refine ⟨?_, hN30⟩
  show Ending.returned (.bool (decide (a.k = 4))) = Ending.returned (.bool (infB a.k))
  first | rfl | (simp [infB, ht14])
set_option maxHeartbeats 4000000 in
set_option maxRecDepth 100000 in
theorem rnought_c (a : Nm) (w : World) : Calls Tryd.prog 76 #[nv a] w (IsRet (.bool (noughtB a)) w) := by
  refine enter_abs Tryd.func76 rfl fun a0 hs0 hd0 hp => ?_
  have hs0 : a0.tmps.size = 16 := hs0
  have hN0 : New w w := Upd.refl _ _
  have hp0 : a0.eval (.tmp 0) = nv a := hp 0 _ rfl
  clear hp
  refine wp_seq_k fun K hK => ?_
  refine wp_g [true, true] [] [] 16
    [IsNew w 23 [iv a.k, iv a.n],
     ve (.bool false)]
    [0] (newsCons (fun v w h => IsNew.old h) newsNil) hs0 (.nw (.eq (.nil))) ?_ (fun i h => by cases h) ?_
  · skip
    refine .o2 (step_allocN (cs := [iv a.k, iv a.n]) (t := 23) rfl (noG rfl) (fun _ w hn k => v_box rfl (k.fx 0 hp0) (fun w => rfl)) (fun q _ hq hb => ⟨q, rfl, hq, hb⟩)) ?_
    refine .o1 (tk rfl rfl fun _ w hn k => ⟨_, v_assign rfl rfl, rfl⟩) ?_
    exact .nil
  intro a1 w2 hn3 ha4
  have hs5 := ha4.size.trans hs0
  have hd6 := ha4.defers.trans hd0
  obtain ⟨q8, h7, hq9, hb10⟩ : IsNew _ _ _ _ _ := ha4.got 0 1 rfl (by kernel_rfl)
  have h11 := ha4.ge 1 2 rfl
  have hq12 := Nat.le_trans hN0.size hq9
  have hN13 := hN0.transNew hn3
  clear hs0 hd0 hp0 hq9 hN0 ha4 hn3
  refine st_nil ?_
  refine hK _ _ ?_
  clear hK K
  refine wp_seq_k fun K hK => ?_
  rcases Bool.eq_false_or_eq_true (decide (a.k = 1)) with ht14 | ht14
  · skip
    have ht14d := of_decide_eq_true ht14
    refine wp_g0 [true, true, true, true, true, true, true, true, true, true, true, true, true, true] [] 16
      [ve (pv q8),
       ve (iv a.k),
       ve (.bool true),
       ve (.bool true),
       ve undef,
       ve undef,
       ve undef,
       ve undef,
       ve undef,
       ve undef,
       ve undef,
       ve undef,
       ve (.bool true),
       ve (.bool true)] hs5 (.eq (.eq (.eq (.eq (.eq (.eq (.eq (.eq (.eq (.eq (.eq (.eq (.eq (.eq (.nil))))))))))))))) ?_ ?_
    · skip
      refine .o1 (tk rfl rfl fun _ w hn k => ⟨_, v_field rfl (k.fx 1 h7) (fun w => rfl), rfl⟩) ?_
      refine .o1 (tk rfl rfl fun _ w hn k => ⟨_, v_load rfl (k.eq1 0 3 rfl) (l_one Tryd.isAgg3 ((hb10.new_ hn).cell 0)), rfl⟩) ?_
      refine .o1 (tk rfl rfl fun _ w hn k => ⟨_, v_bin rfl (k.eq1 1 4 rfl) rfl (fun _ => rfl) (r_eql ht14), rfl⟩) ?_
      refine .o1 (tk rfl rfl fun _ w hn k => ⟨_, v_move rfl (k.eq1 2 5 rfl), rfl⟩) ?_
      refine .o1 (sk rfl rfl rfl (fun _ _ _ k => k.eq1 3 6 rfl) (fun _ => rfl)) ?_
      refine .o1 (sk rfl rfl rfl (fun _ _ _ k => k.eq1 3 6 rfl) (fun _ => rfl)) ?_
      refine .o1 (sk rfl rfl rfl (fun _ _ _ k => k.eq1 3 6 rfl) (fun _ => rfl)) ?_
      refine .o1 (sk rfl rfl rfl (fun _ _ _ k => k.eq1 3 6 rfl) (fun _ => rfl)) ?_
      refine .o1 (su rfl rfl rfl (fun _ _ _ k => k.eq1 7 10 rfl) (fun _ => rfl)) ?_
      refine .o1 (su rfl rfl rfl (fun _ _ _ k => k.eq1 7 10 rfl) (fun _ => rfl)) ?_
      refine .o1 (su rfl rfl rfl (fun _ _ _ k => k.eq1 7 10 rfl) (fun _ => rfl)) ?_
      refine .o1 (sk rfl rfl rfl (fun _ _ _ k => k.eq1 3 6 rfl) (fun _ => rfl)) ?_
      refine .o1 (tk rfl rfl fun _ w hn k => ⟨_, v_pickT rfl (k.eq1 3 6 rfl) rfl, rfl⟩) ?_
      refine .o1 (tk rfl rfl fun _ w hn k => ⟨_, v_assign rfl (k.eq1 12 15 rfl), rfl⟩) ?_
      exact .nil
    intro a15 w16 hn17 ha18
    have hs19 := ha18.size.trans hs5
    have hd20 := ha18.defers.trans hd6
    have h21 := ha18.ge 13 2 rfl
    have hN22 := hN13.transNew hn17
    clear hs5 hd6 h7 h11 hb10 hq12 hN13 ha18 hn17
    refine st_nil ?_
    refine hK _ _ ?_
    clear hK K
    refine wp_ret (ret_k hd20 (v := .bool true) (res_t rfl h21 _) ?_)
    refine ⟨?_, hN22⟩
    show Ending.returned (.bool true) = Ending.returned (.bool (noughtB a))
    first | rfl | (simp [noughtB, ht14])
  have ht14d := of_decide_eq_false ht14
  rcases Bool.eq_false_or_eq_true (decide (a.k = 0)) with ht23 | ht23
  · skip
    have ht23d := of_decide_eq_true ht23
    refine wp_g0 [true, true, true, true, true, true, true, true, true, true, true, true, true, true] [] 16
      [ve (pv q8),
       ve (iv a.k),
       ve (.bool false),
       ve (.bool false),
       ve (pv q8),
       ve (iv a.k),
       ve (.bool true),
       ve (.bool true),
       ve (.pointer (some ⟨q8, 1, none⟩)),
       ve (iv a.n),
       ve (.bool (decide (a.n = 0))),
       ve (.bool (decide (a.n = 0))),
       ve (.bool (decide (a.n = 0))),
       ve (.bool (decide (a.n = 0)))] hs5 (.eq (.eq (.eq (.eq (.eq (.eq (.eq (.eq (.eq (.eq (.eq (.eq (.eq (.eq (.nil))))))))))))))) ?_ ?_
    · skip
      refine .o1 (tk rfl rfl fun _ w hn k => ⟨_, v_field rfl (k.fx 1 h7) (fun w => rfl), rfl⟩) ?_
      refine .o1 (tk rfl rfl fun _ w hn k => ⟨_, v_load rfl (k.eq1 0 3 rfl) (l_one Tryd.isAgg3 ((hb10.new_ hn).cell 0)), rfl⟩) ?_
      refine .o1 (tk rfl rfl fun _ w hn k => ⟨_, v_bin rfl (k.eq1 1 4 rfl) rfl (fun _ => rfl) (r_eql ht14), rfl⟩) ?_
      refine .o1 (tk rfl rfl fun _ w hn k => ⟨_, v_move rfl (k.eq1 2 5 rfl), rfl⟩) ?_
      refine .o1 (tg rfl rfl rfl (fun _ _ k => k.eq1 3 6 rfl) fun _ w hn k => ⟨_, v_field rfl (k.fx 1 h7) (fun w => rfl), rfl⟩) ?_
      refine .o1 (tg rfl rfl rfl (fun _ _ k => k.eq1 3 6 rfl) fun _ w hn k => ⟨_, v_load rfl (k.eq1 4 7 rfl) (l_one Tryd.isAgg3 ((hb10.new_ hn).cell 0)), rfl⟩) ?_
      refine .o1 (tg rfl rfl rfl (fun _ _ k => k.eq1 3 6 rfl) fun _ w hn k => ⟨_, v_bin rfl (k.eq1 5 8 rfl) rfl (fun _ => rfl) (r_eql ht23), rfl⟩) ?_
      refine .o1 (tg rfl rfl rfl (fun _ _ k => k.eq1 3 6 rfl) fun _ w hn k => ⟨_, v_move rfl (k.eq1 6 9 rfl), rfl⟩) ?_
      refine .o1 (tg rfl rfl rfl (fun _ _ k => k.eq1 7 10 rfl) fun _ w hn k => ⟨_, v_field rfl (k.fx 1 h7) (fun w => rfl), rfl⟩) ?_
      refine .o1 (tg rfl rfl rfl (fun _ _ k => k.eq1 7 10 rfl) fun _ w hn k => ⟨_, v_load rfl (k.eq1 8 11 rfl) (l_one Tryd.isAgg3 ((hb10.new_ hn).cell 1)), rfl⟩) ?_
      refine .o1 (tg rfl rfl rfl (fun _ _ k => k.eq1 7 10 rfl) fun _ w hn k => ⟨_, v_bin rfl (k.eq1 9 12 rfl) rfl (fun _ => rfl) (r_eql rfl), rfl⟩) ?_
      refine .o1 (tg rfl rfl rfl (fun _ _ k => k.eq1 3 6 rfl) fun _ w hn k => ⟨_, v_pickT rfl (k.eq1 7 10 rfl) (k.eq1 10 13 rfl), rfl⟩) ?_
      refine .o1 (tk rfl rfl fun _ w hn k => ⟨_, v_pickF rfl (k.eq1 3 6 rfl) (k.eq1 11 14 rfl), rfl⟩) ?_
      refine .o1 (tk rfl rfl fun _ w hn k => ⟨_, v_assign rfl (k.eq1 12 15 rfl), rfl⟩) ?_
      exact .nil
    intro a24 w25 hn26 ha27
    have hs28 := ha27.size.trans hs5
    have hd29 := ha27.defers.trans hd6
    have h30 := ha27.ge 13 2 rfl
    have hN31 := hN13.transNew hn26
    clear hs5 hd6 h7 h11 hb10 hq12 hN13 ha27 hn26
    refine st_nil ?_
    refine hK _ _ ?_
    clear hK K
    refine wp_ret (ret_k hd29 (v := .bool (decide (a.n = 0))) (res_t rfl h30 _) ?_)
    refine ⟨?_, hN31⟩
    show Ending.returned (.bool (decide (a.n = 0))) = Ending.returned (.bool (noughtB a))
    first | rfl | (simp [noughtB, ht14, ht23])
  have ht23d := of_decide_eq_false ht23
  refine wp_g0 [true, true, true, true, true, true, true, true, true, true, true, true, true, true] [] 16
    [ve (pv q8),
     ve (iv a.k),
     ve (.bool false),
     ve (.bool false),
     ve (pv q8),
     ve (iv a.k),
     ve (.bool false),
     ve (.bool false),
     ve undef,
     ve undef,
     ve undef,
     ve (.bool false),
     ve (.bool false),
     ve (.bool false)] hs5 (.eq (.eq (.eq (.eq (.eq (.eq (.eq (.eq (.eq (.eq (.eq (.eq (.eq (.eq (.nil))))))))))))))) ?_ ?_
  · skip
    refine .o1 (tk rfl rfl fun _ w hn k => ⟨_, v_field rfl (k.fx 1 h7) (fun w => rfl), rfl⟩) ?_
    refine .o1 (tk rfl rfl fun _ w hn k => ⟨_, v_load rfl (k.eq1 0 3 rfl) (l_one Tryd.isAgg3 ((hb10.new_ hn).cell 0)), rfl⟩) ?_
    refine .o1 (tk rfl rfl fun _ w hn k => ⟨_, v_bin rfl (k.eq1 1 4 rfl) rfl (fun _ => rfl) (r_eql ht14), rfl⟩) ?_
    refine .o1 (tk rfl rfl fun _ w hn k => ⟨_, v_move rfl (k.eq1 2 5 rfl), rfl⟩) ?_
    refine .o1 (tg rfl rfl rfl (fun _ _ k => k.eq1 3 6 rfl) fun _ w hn k => ⟨_, v_field rfl (k.fx 1 h7) (fun w => rfl), rfl⟩) ?_
    refine .o1 (tg rfl rfl rfl (fun _ _ k => k.eq1 3 6 rfl) fun _ w hn k => ⟨_, v_load rfl (k.eq1 4 7 rfl) (l_one Tryd.isAgg3 ((hb10.new_ hn).cell 0)), rfl⟩) ?_
    refine .o1 (tg rfl rfl rfl (fun _ _ k => k.eq1 3 6 rfl) fun _ w hn k => ⟨_, v_bin rfl (k.eq1 5 8 rfl) rfl (fun _ => rfl) (r_eql ht23), rfl⟩) ?_
    refine .o1 (tg rfl rfl rfl (fun _ _ k => k.eq1 3 6 rfl) fun _ w hn k => ⟨_, v_move rfl (k.eq1 6 9 rfl), rfl⟩) ?_
    refine .o1 (sk rfl rfl rfl (fun _ _ _ k => k.eq1 7 10 rfl) (fun _ => rfl)) ?_
    refine .o1 (sk rfl rfl rfl (fun _ _ _ k => k.eq1 7 10 rfl) (fun _ => rfl)) ?_
    refine .o1 (sk rfl rfl rfl (fun _ _ _ k => k.eq1 7 10 rfl) (fun _ => rfl)) ?_
    refine .o1 (tg rfl rfl rfl (fun _ _ k => k.eq1 3 6 rfl) fun _ w hn k => ⟨_, v_pickF rfl (k.eq1 7 10 rfl) rfl, rfl⟩) ?_
    refine .o1 (tk rfl rfl fun _ w hn k => ⟨_, v_pickF rfl (k.eq1 3 6 rfl) (k.eq1 11 14 rfl), rfl⟩) ?_
    refine .o1 (tk rfl rfl fun _ w hn k => ⟨_, v_assign rfl (k.eq1 12 15 rfl), rfl⟩) ?_
    exact .nil
  intro a32 w33 hn34 ha35
  have hs36 := ha35.size.trans hs5
  have hd37 := ha35.defers.trans hd6
  have h38 := ha35.ge 13 2 rfl
  have hN39 := hN13.transNew hn34
  clear hs5 hd6 h7 h11 hb10 hq12 hN13 ha35 hn34
  refine st_nil ?_
  refine hK _ _ ?_
  clear hK K
  refine wp_ret (ret_k hd37 (v := .bool false) (res_t rfl h38 _) ?_)
  refine ⟨?_, hN39⟩
  show Ending.returned (.bool false) = Ending.returned (.bool (noughtB a))
  first | rfl | (simp [noughtB, ht14, ht23])
set_option maxHeartbeats 4000000 in
set_option maxRecDepth 100000 in
theorem rbelow_c (a : Nm) (w : World) : Calls Tryd.prog 75 #[nv a] w (IsRet (.bool (belowB a)) w) := by
  refine enter_abs Tryd.func75 rfl fun a0 hs0 hd0 hp => ?_
  have hs0 : a0.tmps.size = 21 := hs0
  have hN0 : New w w := Upd.refl _ _
  have hp0 : a0.eval (.tmp 0) = nv a := hp 0 _ rfl
  clear hp
  refine wp_seq_k fun K hK => ?_
  refine wp_g [true, true] [] [] 21
    [IsNew w 23 [iv a.k, iv a.n],
     ve (.bool false)]
    [0] (newsCons (fun v w h => IsNew.old h) newsNil) hs0 (.nw (.eq (.nil))) ?_ (fun i h => by cases h) ?_
  · skip
    refine .o2 (step_allocN (cs := [iv a.k, iv a.n]) (t := 23) rfl (noG rfl) (fun _ w hn k => v_box rfl (k.fx 0 hp0) (fun w => rfl)) (fun q _ hq hb => ⟨q, rfl, hq, hb⟩)) ?_
    refine .o1 (tk rfl rfl fun _ w hn k => ⟨_, v_assign rfl rfl, rfl⟩) ?_
    exact .nil
  intro a1 w2 hn3 ha4
  have hs5 := ha4.size.trans hs0
  have hd6 := ha4.defers.trans hd0
  obtain ⟨q8, h7, hq9, hb10⟩ : IsNew _ _ _ _ _ := ha4.got 0 1 rfl (by kernel_rfl)
  have h11 := ha4.ge 1 2 rfl
  have hq12 := Nat.le_trans hN0.size hq9
  have hN13 := hN0.transNew hn3
  clear hs0 hd0 hp0 hq9 hN0 ha4 hn3
  refine st_nil ?_
  refine hK _ _ ?_
  clear hK K
  refine wp_seq_k fun K hK => ?_
  rcases Bool.eq_false_or_eq_true (decide (a.k = 1)) with ht14 | ht14
  · skip
    have ht14d := of_decide_eq_true ht14
    refine wp_g0 [true, true, true, true, true, true, true, true, true, true, true, true, true, true, true, true, true, true, true] [] 21
      [ve (pv q8),
       ve (iv a.k),
       ve (.bool true),
       ve (.bool true),
       ve undef,
       ve undef,
       ve undef,
       ve (.bool true),
       ve (.bool true),
       ve undef,
       ve undef,
       ve undef,
       ve undef,
       ve undef,
       ve undef,
       ve undef,
       ve undef,
       ve (.bool true),
       ve (.bool true)] hs5 (.eq (.eq (.eq (.eq (.eq (.eq (.eq (.eq (.eq (.eq (.eq (.eq (.eq (.eq (.eq (.eq (.eq (.eq (.eq (.nil)))))))))))))))))))) ?_ ?_
    · skip
      refine .o1 (tk rfl rfl fun _ w hn k => ⟨_, v_field rfl (k.fx 1 h7) (fun w => rfl), rfl⟩) ?_
      refine .o1 (tk rfl rfl fun _ w hn k => ⟨_, v_load rfl (k.eq1 0 3 rfl) (l_one Tryd.isAgg3 ((hb10.new_ hn).cell 0)), rfl⟩) ?_
      refine .o1 (tk rfl rfl fun _ w hn k => ⟨_, v_bin rfl (k.eq1 1 4 rfl) rfl (fun _ => rfl) (r_eql ht14), rfl⟩) ?_
      refine .o1 (tk rfl rfl fun _ w hn k => ⟨_, v_move rfl (k.eq1 2 5 rfl), rfl⟩) ?_
      refine .o1 (sk rfl rfl rfl (fun _ _ _ k => k.eq1 3 6 rfl) (fun _ => rfl)) ?_
      refine .o1 (sk rfl rfl rfl (fun _ _ _ k => k.eq1 3 6 rfl) (fun _ => rfl)) ?_
      refine .o1 (sk rfl rfl rfl (fun _ _ _ k => k.eq1 3 6 rfl) (fun _ => rfl)) ?_
      refine .o1 (tk rfl rfl fun _ w hn k => ⟨_, v_pickT rfl (k.eq1 3 6 rfl) rfl, rfl⟩) ?_
      refine .o1 (tk rfl rfl fun _ w hn k => ⟨_, v_move rfl (k.eq1 7 10 rfl), rfl⟩) ?_
      refine .o1 (sk rfl rfl rfl (fun _ _ _ k => k.eq1 8 11 rfl) (fun _ => rfl)) ?_
      refine .o1 (sk rfl rfl rfl (fun _ _ _ k => k.eq1 8 11 rfl) (fun _ => rfl)) ?_
      refine .o1 (sk rfl rfl rfl (fun _ _ _ k => k.eq1 8 11 rfl) (fun _ => rfl)) ?_
      refine .o1 (sk rfl rfl rfl (fun _ _ _ k => k.eq1 8 11 rfl) (fun _ => rfl)) ?_
      refine .o1 (su rfl rfl rfl (fun _ _ _ k => k.eq1 12 15 rfl) (fun _ => rfl)) ?_
      refine .o1 (su rfl rfl rfl (fun _ _ _ k => k.eq1 12 15 rfl) (fun _ => rfl)) ?_
      refine .o1 (su rfl rfl rfl (fun _ _ _ k => k.eq1 12 15 rfl) (fun _ => rfl)) ?_
      refine .o1 (sk rfl rfl rfl (fun _ _ _ k => k.eq1 8 11 rfl) (fun _ => rfl)) ?_
      refine .o1 (tk rfl rfl fun _ w hn k => ⟨_, v_pickT rfl (k.eq1 8 11 rfl) rfl, rfl⟩) ?_
      refine .o1 (tk rfl rfl fun _ w hn k => ⟨_, v_assign rfl (k.eq1 17 20 rfl), rfl⟩) ?_
      exact .nil
    intro a15 w16 hn17 ha18
    have hs19 := ha18.size.trans hs5
    have hd20 := ha18.defers.trans hd6
    have h21 := ha18.ge 18 2 rfl
    have hN22 := hN13.transNew hn17
    clear hs5 hd6 h7 h11 hb10 hq12 hN13 ha18 hn17
    refine st_nil ?_
    refine hK _ _ ?_
    clear hK K
    refine wp_ret (ret_k hd20 (v := .bool true) (res_t rfl h21 _) ?_)
    refine ⟨?_, hN22⟩
    show Ending.returned (.bool true) = Ending.returned (.bool (belowB a))
    first | rfl | (simp [belowB, ht14])
  have ht14d := of_decide_eq_false ht14
  rcases Bool.eq_false_or_eq_true (decide (a.k = 4)) with ht23 | ht23
  · skip
    have ht23d := of_decide_eq_true ht23
    refine wp_g0 [true, true, true, true, true, true, true, true, true, true, true, true, true, true, true, true, true, true, true] [] 21
      [ve (pv q8),
       ve (iv a.k),
       ve (.bool false),
       ve (.bool false),
       ve (pv q8),
       ve (iv a.k),
       ve (.bool true),
       ve (.bool true),
       ve (.bool true),
       ve undef,
       ve undef,
       ve undef,
       ve undef,
       ve undef,
       ve undef,
       ve undef,
       ve undef,
       ve (.bool true),
       ve (.bool true)] hs5 (.eq (.eq (.eq (.eq (.eq (.eq (.eq (.eq (.eq (.eq (.eq (.eq (.eq (.eq (.eq (.eq (.eq (.eq (.eq (.nil)))))))))))))))))))) ?_ ?_
    · skip
      refine .o1 (tk rfl rfl fun _ w hn k => ⟨_, v_field rfl (k.fx 1 h7) (fun w => rfl), rfl⟩) ?_
      refine .o1 (tk rfl rfl fun _ w hn k => ⟨_, v_load rfl (k.eq1 0 3 rfl) (l_one Tryd.isAgg3 ((hb10.new_ hn).cell 0)), rfl⟩) ?_
      refine .o1 (tk rfl rfl fun _ w hn k => ⟨_, v_bin rfl (k.eq1 1 4 rfl) rfl (fun _ => rfl) (r_eql ht14), rfl⟩) ?_
      refine .o1 (tk rfl rfl fun _ w hn k => ⟨_, v_move rfl (k.eq1 2 5 rfl), rfl⟩) ?_
      refine .o1 (tg rfl rfl rfl (fun _ _ k => k.eq1 3 6 rfl) fun _ w hn k => ⟨_, v_field rfl (k.fx 1 h7) (fun w => rfl), rfl⟩) ?_
      refine .o1 (tg rfl rfl rfl (fun _ _ k => k.eq1 3 6 rfl) fun _ w hn k => ⟨_, v_load rfl (k.eq1 4 7 rfl) (l_one Tryd.isAgg3 ((hb10.new_ hn).cell 0)), rfl⟩) ?_
      refine .o1 (tg rfl rfl rfl (fun _ _ k => k.eq1 3 6 rfl) fun _ w hn k => ⟨_, v_bin rfl (k.eq1 5 8 rfl) rfl (fun _ => rfl) (r_eql ht23), rfl⟩) ?_
      refine .o1 (tk rfl rfl fun _ w hn k => ⟨_, v_pickF rfl (k.eq1 3 6 rfl) (k.eq1 6 9 rfl), rfl⟩) ?_
      refine .o1 (tk rfl rfl fun _ w hn k => ⟨_, v_move rfl (k.eq1 7 10 rfl), rfl⟩) ?_
      refine .o1 (sk rfl rfl rfl (fun _ _ _ k => k.eq1 8 11 rfl) (fun _ => rfl)) ?_
      refine .o1 (sk rfl rfl rfl (fun _ _ _ k => k.eq1 8 11 rfl) (fun _ => rfl)) ?_
      refine .o1 (sk rfl rfl rfl (fun _ _ _ k => k.eq1 8 11 rfl) (fun _ => rfl)) ?_
      refine .o1 (sk rfl rfl rfl (fun _ _ _ k => k.eq1 8 11 rfl) (fun _ => rfl)) ?_
      refine .o1 (su rfl rfl rfl (fun _ _ _ k => k.eq1 12 15 rfl) (fun _ => rfl)) ?_
      refine .o1 (su rfl rfl rfl (fun _ _ _ k => k.eq1 12 15 rfl) (fun _ => rfl)) ?_
      refine .o1 (su rfl rfl rfl (fun _ _ _ k => k.eq1 12 15 rfl) (fun _ => rfl)) ?_
      refine .o1 (sk rfl rfl rfl (fun _ _ _ k => k.eq1 8 11 rfl) (fun _ => rfl)) ?_
      refine .o1 (tk rfl rfl fun _ w hn k => ⟨_, v_pickT rfl (k.eq1 8 11 rfl) rfl, rfl⟩) ?_
      refine .o1 (tk rfl rfl fun _ w hn k => ⟨_, v_assign rfl (k.eq1 17 20 rfl), rfl⟩) ?_
      exact .nil
    intro a24 w25 hn26 ha27
    have hs28 := ha27.size.trans hs5
    have hd29 := ha27.defers.trans hd6
    have h30 := ha27.ge 18 2 rfl
    have hN31 := hN13.transNew hn26
    clear hs5 hd6 h7 h11 hb10 hq12 hN13 ha27 hn26
    refine st_nil ?_
    refine hK _ _ ?_
    clear hK K
    refine wp_ret (ret_k hd29 (v := .bool true) (res_t rfl h30 _) ?_)
    refine ⟨?_, hN31⟩
    show Ending.returned (.bool true) = Ending.returned (.bool (belowB a))
    first | rfl | (simp [belowB, ht14, ht23])
  have ht23d := of_decide_eq_false ht23
  rcases Bool.eq_false_or_eq_true (decide (a.k = 0)) with ht32 | ht32
  · skip
    have ht32d := of_decide_eq_true ht32
    refine wp_g0 [true, true, true, true, true, true, true, true, true, true, true, true, true, true, true, true, true, true, true] [] 21
      [ve (pv q8),
       ve (iv a.k),
       ve (.bool false),
       ve (.bool false),
       ve (pv q8),
       ve (iv a.k),
       ve (.bool false),
       ve (.bool false),
       ve (.bool false),
       ve (pv q8),
       ve (iv a.k),
       ve (.bool true),
       ve (.bool true),
       ve (.pointer (some ⟨q8, 1, none⟩)),
       ve (iv a.n),
       ve (.bool (decide (a.n < 0))),
       ve (.bool (decide (a.n < 0))),
       ve (.bool (decide (a.n < 0))),
       ve (.bool (decide (a.n < 0)))] hs5 (.eq (.eq (.eq (.eq (.eq (.eq (.eq (.eq (.eq (.eq (.eq (.eq (.eq (.eq (.eq (.eq (.eq (.eq (.eq (.nil)))))))))))))))))))) ?_ ?_
    · skip
      refine .o1 (tk rfl rfl fun _ w hn k => ⟨_, v_field rfl (k.fx 1 h7) (fun w => rfl), rfl⟩) ?_
      refine .o1 (tk rfl rfl fun _ w hn k => ⟨_, v_load rfl (k.eq1 0 3 rfl) (l_one Tryd.isAgg3 ((hb10.new_ hn).cell 0)), rfl⟩) ?_
      refine .o1 (tk rfl rfl fun _ w hn k => ⟨_, v_bin rfl (k.eq1 1 4 rfl) rfl (fun _ => rfl) (r_eql ht14), rfl⟩) ?_
      refine .o1 (tk rfl rfl fun _ w hn k => ⟨_, v_move rfl (k.eq1 2 5 rfl), rfl⟩) ?_
      refine .o1 (tg rfl rfl rfl (fun _ _ k => k.eq1 3 6 rfl) fun _ w hn k => ⟨_, v_field rfl (k.fx 1 h7) (fun w => rfl), rfl⟩) ?_
      refine .o1 (tg rfl rfl rfl (fun _ _ k => k.eq1 3 6 rfl) fun _ w hn k => ⟨_, v_load rfl (k.eq1 4 7 rfl) (l_one Tryd.isAgg3 ((hb10.new_ hn).cell 0)), rfl⟩) ?_
      refine .o1 (tg rfl rfl rfl (fun _ _ k => k.eq1 3 6 rfl) fun _ w hn k => ⟨_, v_bin rfl (k.eq1 5 8 rfl) rfl (fun _ => rfl) (r_eql ht23), rfl⟩) ?_
      refine .o1 (tk rfl rfl fun _ w hn k => ⟨_, v_pickF rfl (k.eq1 3 6 rfl) (k.eq1 6 9 rfl), rfl⟩) ?_
      refine .o1 (tk rfl rfl fun _ w hn k => ⟨_, v_move rfl (k.eq1 7 10 rfl), rfl⟩) ?_
      refine .o1 (tg rfl rfl rfl (fun _ _ k => k.eq1 8 11 rfl) fun _ w hn k => ⟨_, v_field rfl (k.fx 1 h7) (fun w => rfl), rfl⟩) ?_
      refine .o1 (tg rfl rfl rfl (fun _ _ k => k.eq1 8 11 rfl) fun _ w hn k => ⟨_, v_load rfl (k.eq1 9 12 rfl) (l_one Tryd.isAgg3 ((hb10.new_ hn).cell 0)), rfl⟩) ?_
      refine .o1 (tg rfl rfl rfl (fun _ _ k => k.eq1 8 11 rfl) fun _ w hn k => ⟨_, v_bin rfl (k.eq1 10 13 rfl) rfl (fun _ => rfl) (r_eql ht32), rfl⟩) ?_
      refine .o1 (tg rfl rfl rfl (fun _ _ k => k.eq1 8 11 rfl) fun _ w hn k => ⟨_, v_move rfl (k.eq1 11 14 rfl), rfl⟩) ?_
      refine .o1 (tg rfl rfl rfl (fun _ _ k => k.eq1 12 15 rfl) fun _ w hn k => ⟨_, v_field rfl (k.fx 1 h7) (fun w => rfl), rfl⟩) ?_
      refine .o1 (tg rfl rfl rfl (fun _ _ k => k.eq1 12 15 rfl) fun _ w hn k => ⟨_, v_load rfl (k.eq1 13 16 rfl) (l_one Tryd.isAgg3 ((hb10.new_ hn).cell 1)), rfl⟩) ?_
      refine .o1 (tg rfl rfl rfl (fun _ _ k => k.eq1 12 15 rfl) fun _ w hn k => ⟨_, v_bin rfl (k.eq1 14 17 rfl) rfl (fun _ => rfl) (r_lssK rfl), rfl⟩) ?_
      refine .o1 (tg rfl rfl rfl (fun _ _ k => k.eq1 8 11 rfl) fun _ w hn k => ⟨_, v_pickT rfl (k.eq1 12 15 rfl) (k.eq1 15 18 rfl), rfl⟩) ?_
      refine .o1 (tk rfl rfl fun _ w hn k => ⟨_, v_pickF rfl (k.eq1 8 11 rfl) (k.eq1 16 19 rfl), rfl⟩) ?_
      refine .o1 (tk rfl rfl fun _ w hn k => ⟨_, v_assign rfl (k.eq1 17 20 rfl), rfl⟩) ?_
      exact .nil
    intro a33 w34 hn35 ha36
    have hs37 := ha36.size.trans hs5
    have hd38 := ha36.defers.trans hd6
    have h39 := ha36.ge 18 2 rfl
    have hN40 := hN13.transNew hn35
    clear hs5 hd6 h7 h11 hb10 hq12 hN13 ha36 hn35
    refine st_nil ?_
    refine hK _ _ ?_
    clear hK K
    refine wp_ret (ret_k hd38 (v := .bool (decide (a.n < 0))) (res_t rfl h39 _) ?_)
    refine ⟨?_, hN40⟩
    show Ending.returned (.bool (decide (a.n < 0))) = Ending.returned (.bool (belowB a))
    first | rfl | (simp [belowB, ht14, ht23, ht32])
  have ht32d := of_decide_eq_false ht32
  refine wp_g0 [true, true, true, true, true, true, true, true, true, true, true, true, true, true, true, true, true, true, true] [] 21
    [ve (pv q8),
     ve (iv a.k),
     ve (.bool false),
     ve (.bool false),
     ve (pv q8),
     ve (iv a.k),
     ve (.bool false),
     ve (.bool false),
     ve (.bool false),
     ve (pv q8),
     ve (iv a.k),
     ve (.bool false),
     ve (.bool false),
     ve undef,
     ve undef,
     ve undef,
     ve (.bool false),
     ve (.bool false),
     ve (.bool false)] hs5 (.eq (.eq (.eq (.eq (.eq (.eq (.eq (.eq (.eq (.eq (.eq (.eq (.eq (.eq (.eq (.eq (.eq (.eq (.eq (.nil)))))))))))))))))))) ?_ ?_
  · skip
    refine .o1 (tk rfl rfl fun _ w hn k => ⟨_, v_field rfl (k.fx 1 h7) (fun w => rfl), rfl⟩) ?_
    refine .o1 (tk rfl rfl fun _ w hn k => ⟨_, v_load rfl (k.eq1 0 3 rfl) (l_one Tryd.isAgg3 ((hb10.new_ hn).cell 0)), rfl⟩) ?_
    refine .o1 (tk rfl rfl fun _ w hn k => ⟨_, v_bin rfl (k.eq1 1 4 rfl) rfl (fun _ => rfl) (r_eql ht14), rfl⟩) ?_
    refine .o1 (tk rfl rfl fun _ w hn k => ⟨_, v_move rfl (k.eq1 2 5 rfl), rfl⟩) ?_
    refine .o1 (tg rfl rfl rfl (fun _ _ k => k.eq1 3 6 rfl) fun _ w hn k => ⟨_, v_field rfl (k.fx 1 h7) (fun w => rfl), rfl⟩) ?_
    refine .o1 (tg rfl rfl rfl (fun _ _ k => k.eq1 3 6 rfl) fun _ w hn k => ⟨_, v_load rfl (k.eq1 4 7 rfl) (l_one Tryd.isAgg3 ((hb10.new_ hn).cell 0)), rfl⟩) ?_
    refine .o1 (tg rfl rfl rfl (fun _ _ k => k.eq1 3 6 rfl) fun _ w hn k => ⟨_, v_bin rfl (k.eq1 5 8 rfl) rfl (fun _ => rfl) (r_eql ht23), rfl⟩) ?_
    refine .o1 (tk rfl rfl fun _ w hn k => ⟨_, v_pickF rfl (k.eq1 3 6 rfl) (k.eq1 6 9 rfl), rfl⟩) ?_
    refine .o1 (tk rfl rfl fun _ w hn k => ⟨_, v_move rfl (k.eq1 7 10 rfl), rfl⟩) ?_
    refine .o1 (tg rfl rfl rfl (fun _ _ k => k.eq1 8 11 rfl) fun _ w hn k => ⟨_, v_field rfl (k.fx 1 h7) (fun w => rfl), rfl⟩) ?_
    refine .o1 (tg rfl rfl rfl (fun _ _ k => k.eq1 8 11 rfl) fun _ w hn k => ⟨_, v_load rfl (k.eq1 9 12 rfl) (l_one Tryd.isAgg3 ((hb10.new_ hn).cell 0)), rfl⟩) ?_
    refine .o1 (tg rfl rfl rfl (fun _ _ k => k.eq1 8 11 rfl) fun _ w hn k => ⟨_, v_bin rfl (k.eq1 10 13 rfl) rfl (fun _ => rfl) (r_eql ht32), rfl⟩) ?_
    refine .o1 (tg rfl rfl rfl (fun _ _ k => k.eq1 8 11 rfl) fun _ w hn k => ⟨_, v_move rfl (k.eq1 11 14 rfl), rfl⟩) ?_
    refine .o1 (sk rfl rfl rfl (fun _ _ _ k => k.eq1 12 15 rfl) (fun _ => rfl)) ?_
    refine .o1 (sk rfl rfl rfl (fun _ _ _ k => k.eq1 12 15 rfl) (fun _ => rfl)) ?_
    refine .o1 (sk rfl rfl rfl (fun _ _ _ k => k.eq1 12 15 rfl) (fun _ => rfl)) ?_
    refine .o1 (tg rfl rfl rfl (fun _ _ k => k.eq1 8 11 rfl) fun _ w hn k => ⟨_, v_pickF rfl (k.eq1 12 15 rfl) rfl, rfl⟩) ?_
    refine .o1 (tk rfl rfl fun _ w hn k => ⟨_, v_pickF rfl (k.eq1 8 11 rfl) (k.eq1 16 19 rfl), rfl⟩) ?_
    refine .o1 (tk rfl rfl fun _ w hn k => ⟨_, v_assign rfl (k.eq1 17 20 rfl), rfl⟩) ?_
    exact .nil
  intro a41 w42 hn43 ha44
  have hs45 := ha44.size.trans hs5
  have hd46 := ha44.defers.trans hd6
  have h47 := ha44.ge 18 2 rfl
  have hN48 := hN13.transNew hn43
  clear hs5 hd6 h7 h11 hb10 hq12 hN13 ha44 hn43
  refine st_nil ?_
  refine hK _ _ ?_
  clear hK K
  refine wp_ret (ret_k hd46 (v := .bool false) (res_t rfl h47 _) ?_)
  refine ⟨?_, hN48⟩
  show Ending.returned (.bool false) = Ending.returned (.bool (belowB a))
  first | rfl | (simp [belowB, ht14, ht23, ht32])
set_option maxHeartbeats 4000000 in
set_option maxRecDepth 100000 in
theorem rof_c (n : Int) (w : World) : Calls Tryd.prog 19 #[iv n] w (IsRet (.tuple #[nv ((ofM n).1), .bool ((ofM n).2)]) w) := by
  refine enter_abs Tryd.func19 rfl fun a0 hs0 hd0 hp => ?_
  have hs0 : a0.tmps.size = 13 := hs0
  have hN0 : New w w := Upd.refl _ _
  have hp0 : a0.eval (.tmp 0) = iv n := hp 0 _ rfl
  clear hp
  refine wp_seq_k fun K hK => ?_
  refine wp_g [true, true] [] [] 13
    [IsNew w 23 [iv 0, iv 0],
     ve (.bool false)]
    [0] (newsCons (fun v w h => IsNew.old h) newsNil) hs0 (.nw (.eq (.nil))) ?_ (fun i h => by cases h) ?_
  · skip
    refine .o2 (step_allocN (cs := [iv 0, iv 0]) (t := 23) rfl (noG rfl) (fun _ w hn k => rfl) (fun q _ hq hb => ⟨q, rfl, hq, hb⟩)) ?_
    refine .o1 (tk rfl rfl fun _ w hn k => ⟨_, v_assign rfl rfl, rfl⟩) ?_
    exact .nil
  intro a1 w2 hn3 ha4
  have hs5 := ha4.size.trans hs0
  have hd6 := ha4.defers.trans hd0
  have h7 := ha4.fx 0 hp0
  obtain ⟨q9, h8, hq10, hb11⟩ : IsNew _ _ _ _ _ := ha4.got 0 2 rfl (by kernel_rfl)
  have h12 := ha4.ge 1 3 rfl
  have hq13 := Nat.le_trans hN0.size hq10
  have hN14 := hN0.transNew hn3
  clear hs0 hd0 hp0 hq10 hN0 ha4 hn3
  refine st_nil ?_
  refine hK _ _ ?_
  clear hK K
  refine wp_seq_k fun K hK => ?_
  refine wp_seq_k fun K hK => ?_
  rcases Bool.eq_false_or_eq_true (decide (n < -9007199254740991)) with ht15 | ht15
  · skip
    have ht15d := of_decide_eq_true ht15
    refine wp_g0 [true, true, true, true, true, true] [] 13
      [ve (iv n),
       ve (.bool true),
       ve (.bool true),
       ve undef,
       ve undef,
       ve (.bool true)] hs5 (.eq (.eq (.eq (.eq (.eq (.eq (.nil))))))) ?_ ?_
    · skip
      refine .o1 (tk rfl rfl fun _ w hn k => ⟨_, v_move rfl (k.fx 0 h7), rfl⟩) ?_
      refine .o1 (tk rfl rfl fun _ w hn k => ⟨_, v_bin rfl (k.eq1 0 4 rfl) rfl (fun _ => rfl) (r_lssK ht15), rfl⟩) ?_
      refine .o1 (tk rfl rfl fun _ w hn k => ⟨_, v_move rfl (k.eq1 1 5 rfl), rfl⟩) ?_
      refine .o1 (sk rfl rfl rfl (fun _ _ _ k => k.eq1 2 6 rfl) (fun _ => rfl)) ?_
      refine .o1 (sk rfl rfl rfl (fun _ _ _ k => k.eq1 2 6 rfl) (fun _ => rfl)) ?_
      refine .o1 (tk rfl rfl fun _ w hn k => ⟨_, v_pickT rfl (k.eq1 2 6 rfl) rfl, rfl⟩) ?_
      exact .nil
    intro a16 w17 hn18 ha19
    have hs20 := ha19.size.trans hs5
    have hd21 := ha19.defers.trans hd6
    have h22 := ha19.fx 0 h7
    have h23 := ha19.fx 2 h8
    have h24 := ha19.fx 3 h12
    have h25 := ha19.ge 5 9 rfl
    have hb26 := hb11.new_ hn18
    have hN27 := hN14.transNew hn18
    clear hs5 hd6 h7 h8 h12 hb11 hN14 ha19 hn18
    refine st_nil ?_
    refine hK _ _ ?_
    clear hK K
    refine wp_cond_true h25 ?_
    refine wp_seq_k fun K hK => ?_
    refine wp_g0 [true, false, false] [(1, false), (2, true)] 13
      [ve (nv (Nm.mk 2 0)),
       vt,
       vt] hs20 (.eq (.tt (.tt (.nil)))) ?_ ?_
    · skip
      refine .o1 (ck rfl rfl rfl (fun _ w hn k => ⟨#[], rfl, fun _ => by kernel_rfl, rNaN_c  _⟩) fun _ => rfl) ?_
      refine .off ?_
      refine .off ?_
      exact .nil
    intro a28 w29 hn30 ha31
    have hs32 := ha31.size.trans hs20
    have hd33 := ha31.defers.trans hd21
    have h34 := ha31.fx 0 h22
    have h35 := ha31.fx 2 h23
    have h36 := ha31.fx 3 h24
    have h37 := ha31.ge 0 10 rfl
    have hb38 := hb26.new_ hn30
    have hN39 := hN27.transNew hn30
    clear hs20 hd21 h22 h23 h24 h25 hb26 hN27 ha31 hn30
    obtain ⟨w40, -, hst41, hb42, hu43, hf44⟩ := s_two (v0 := iv 2) (v1 := iv 0) Tryd.sizeOf23 rfl rfl rfl hb38
    refine st_act rfl rfl fun K45 hL46 => a_store' rfl h35 h37 hst41 (hL46 _ _ trivial ?_)
    have hN47 := hN39.trans hu43 (fun k hk hkb => by subst hkb; omega)
    clear hb38 hst41 K45 hL46 hN39 hu43 hf44
    refine st_take rfl rfl (y_assign (v := .bool false) rfl rfl) rfl ?_
    obtain ⟨a48, ha49⟩ : ∃ a', a' = a28.put (some 3) (.bool false) := ⟨_, rfl⟩
    have hs50 : a48.tmps.size = 13 := by rw [ha49, put_size]; exact hs32
    have hd51 : a48.defers = [] := by rw [ha49, put_defers]; exact hd33
    have h52 : a48.eval (.tmp 0) = iv n := by rw [ha49, put_ne _ _ _ _ (by decide)]; exact h34
    have h53 : a48.eval (.tmp 2) = pv q9 := by rw [ha49, put_ne _ _ _ _ (by decide)]; exact h35
    have h54 : a48.eval (.tmp 10) = nv (Nm.mk 2 0) := by rw [ha49, put_ne _ _ _ _ (by decide)]; exact h37
    have h55 : a48.eval (.tmp 3) = .bool false := by rw [ha49]; exact put_same _ _ _ (by rw [hs32]; decide)
    show stepsTo _ _ _ _ _ (a28.put (some 3) (.bool false)) _
    rw [← ha49]
    clear ha49 hs32 hd33 h34 h35 h36 h37
    refine st_nil ?_
    clear h54
    refine hK _ _ ?_
    clear hK K
    refine wp_ret (ret_k hd51 (v := .tuple #[nv (Nm.mk 2 0), .bool false]) (res_ct rfl h53 h55 (l_two Tryd.isAgg23 Tryd.sizeOf23 hb42)) ?_)
    refine ⟨?_, hN47⟩
    show Ending.returned (.tuple #[nv (Nm.mk 2 0), .bool false]) = Ending.returned (.tuple #[nv ((ofM n).1), .bool ((ofM n).2)])
    first | rfl | (simp [ofM, ht15])
  have ht15d := of_decide_eq_false ht15
  rcases Bool.eq_false_or_eq_true (decide (n ≤ 9007199254740991)) with ht56 | ht56
  · skip
    have ht56d := of_decide_eq_true ht56
    refine wp_g0 [true, true, true, true, true, true] [] 13
      [ve (iv n),
       ve (.bool false),
       ve (.bool false),
       ve (iv n),
       ve (.bool false),
       ve (.bool false)] hs5 (.eq (.eq (.eq (.eq (.eq (.eq (.nil))))))) ?_ ?_
    · skip
      refine .o1 (tk rfl rfl fun _ w hn k => ⟨_, v_move rfl (k.fx 0 h7), rfl⟩) ?_
      refine .o1 (tk rfl rfl fun _ w hn k => ⟨_, v_bin rfl (k.eq1 0 4 rfl) rfl (fun _ => rfl) (r_lssK ht15), rfl⟩) ?_
      refine .o1 (tk rfl rfl fun _ w hn k => ⟨_, v_move rfl (k.eq1 1 5 rfl), rfl⟩) ?_
      refine .o1 (tg rfl rfl rfl (fun _ _ k => k.eq1 2 6 rfl) fun _ w hn k => ⟨_, v_move rfl (k.fx 0 h7), rfl⟩) ?_
      refine .o1 (tg rfl rfl rfl (fun _ _ k => k.eq1 2 6 rfl) fun _ w hn k => ⟨_, v_bin rfl (k.eq1 3 7 rfl) rfl (fun _ => rfl) (r_gtrK ht56), rfl⟩) ?_
      refine .o1 (tk rfl rfl fun _ w hn k => ⟨_, v_pickF rfl (k.eq1 2 6 rfl) (k.eq1 4 8 rfl), rfl⟩) ?_
      exact .nil
    intro a57 w58 hn59 ha60
    have hs61 := ha60.size.trans hs5
    have hd62 := ha60.defers.trans hd6
    have h63 := ha60.fx 0 h7
    have h64 := ha60.fx 2 h8
    have h65 := ha60.fx 3 h12
    have h66 := ha60.ge 5 9 rfl
    have hb67 := hb11.new_ hn59
    have hN68 := hN14.transNew hn59
    clear hs5 hd6 h7 h8 h12 hb11 hN14 ha60 hn59
    refine st_nil ?_
    refine hK _ _ ?_
    clear hK K
    refine wp_cond_false h66 ?_
    refine wp_skip ?_
    refine hK _ _ ?_
    clear hK K
    refine wp_seq_k fun K hK => ?_
    refine wp_g0 [true, true, false, false] [(2, false), (3, true)] 13
      [ve (iv n),
       ve (nv (Nm.mk 0 n)),
       vt,
       vt] hs61 (.eq (.eq (.tt (.tt (.nil))))) ?_ ?_
    · skip
      refine .o1 (tk rfl rfl fun _ w hn k => ⟨_, v_move rfl (k.fx 0 h63), rfl⟩) ?_
      refine .o1 (tk rfl rfl fun _ w hn k => ⟨_, v_build (ps := [(1, iv n)]) rfl (parts1 (k.eq1 0 11 rfl)) (by kernel_rfl), rfl⟩) ?_
      refine .off ?_
      refine .off ?_
      exact .nil
    intro a69 w70 hn71 ha72
    have hs73 := ha72.size.trans hs61
    have hd74 := ha72.defers.trans hd62
    have h75 := ha72.fx 2 h64
    have h76 := ha72.fx 3 h65
    have h77 := ha72.ge 1 12 rfl
    have hb78 := hb67.new_ hn71
    have hN79 := hN68.transNew hn71
    clear hs61 hd62 h63 h64 h65 h66 hb67 hN68 ha72 hn71
    obtain ⟨w80, -, hst81, hb82, hu83, hf84⟩ := s_two (v0 := iv 0) (v1 := iv n) Tryd.sizeOf23 rfl rfl rfl hb78
    refine st_act rfl rfl fun K85 hL86 => a_store' rfl h75 h77 hst81 (hL86 _ _ trivial ?_)
    have hN87 := hN79.trans hu83 (fun k hk hkb => by subst hkb; omega)
    clear hb78 hst81 K85 hL86 hN79 hu83 hf84
    refine st_take rfl rfl (y_assign (v := .bool true) rfl rfl) rfl ?_
    obtain ⟨a88, ha89⟩ : ∃ a', a' = a69.put (some 3) (.bool true) := ⟨_, rfl⟩
    have hs90 : a88.tmps.size = 13 := by rw [ha89, put_size]; exact hs73
    have hd91 : a88.defers = [] := by rw [ha89, put_defers]; exact hd74
    have h92 : a88.eval (.tmp 2) = pv q9 := by rw [ha89, put_ne _ _ _ _ (by decide)]; exact h75
    have h93 : a88.eval (.tmp 12) = nv (Nm.mk 0 n) := by rw [ha89, put_ne _ _ _ _ (by decide)]; exact h77
    have h94 : a88.eval (.tmp 3) = .bool true := by rw [ha89]; exact put_same _ _ _ (by rw [hs73]; decide)
    show stepsTo _ _ _ _ _ (a69.put (some 3) (.bool true)) _
    rw [← ha89]
    clear ha89 hs73 hd74 h75 h76 h77
    refine st_nil ?_
    clear h93
    refine hK _ _ ?_
    clear hK K
    refine wp_ret (ret_k hd91 (v := .tuple #[nv (Nm.mk 0 n), .bool true]) (res_ct rfl h92 h94 (l_two Tryd.isAgg23 Tryd.sizeOf23 hb82)) ?_)
    refine ⟨?_, hN87⟩
    show Ending.returned (.tuple #[nv (Nm.mk 0 n), .bool true]) = Ending.returned (.tuple #[nv ((ofM n).1), .bool ((ofM n).2)])
    first | rfl | (simp [ofM, ht15, ht56])
  have ht56d := of_decide_eq_false ht56
  refine wp_g0 [true, true, true, true, true, true] [] 13
    [ve (iv n),
     ve (.bool false),
     ve (.bool false),
     ve (iv n),
     ve (.bool true),
     ve (.bool true)] hs5 (.eq (.eq (.eq (.eq (.eq (.eq (.nil))))))) ?_ ?_
  · skip
    refine .o1 (tk rfl rfl fun _ w hn k => ⟨_, v_move rfl (k.fx 0 h7), rfl⟩) ?_
    refine .o1 (tk rfl rfl fun _ w hn k => ⟨_, v_bin rfl (k.eq1 0 4 rfl) rfl (fun _ => rfl) (r_lssK ht15), rfl⟩) ?_
    refine .o1 (tk rfl rfl fun _ w hn k => ⟨_, v_move rfl (k.eq1 1 5 rfl), rfl⟩) ?_
    refine .o1 (tg rfl rfl rfl (fun _ _ k => k.eq1 2 6 rfl) fun _ w hn k => ⟨_, v_move rfl (k.fx 0 h7), rfl⟩) ?_
    refine .o1 (tg rfl rfl rfl (fun _ _ k => k.eq1 2 6 rfl) fun _ w hn k => ⟨_, v_bin rfl (k.eq1 3 7 rfl) rfl (fun _ => rfl) (r_gtrK ht56), rfl⟩) ?_
    refine .o1 (tk rfl rfl fun _ w hn k => ⟨_, v_pickF rfl (k.eq1 2 6 rfl) (k.eq1 4 8 rfl), rfl⟩) ?_
    exact .nil
  intro a95 w96 hn97 ha98
  have hs99 := ha98.size.trans hs5
  have hd100 := ha98.defers.trans hd6
  have h101 := ha98.fx 0 h7
  have h102 := ha98.fx 2 h8
  have h103 := ha98.fx 3 h12
  have h104 := ha98.ge 5 9 rfl
  have hb105 := hb11.new_ hn97
  have hN106 := hN14.transNew hn97
  clear hs5 hd6 h7 h8 h12 hb11 hN14 ha98 hn97
  refine st_nil ?_
  refine hK _ _ ?_
  clear hK K
  refine wp_cond_true h104 ?_
  refine wp_seq_k fun K hK => ?_
  refine wp_g0 [true, false, false] [(1, false), (2, true)] 13
    [ve (nv (Nm.mk 2 0)),
     vt,
     vt] hs99 (.eq (.tt (.tt (.nil)))) ?_ ?_
  · skip
    refine .o1 (ck rfl rfl rfl (fun _ w hn k => ⟨#[], rfl, fun _ => by kernel_rfl, rNaN_c  _⟩) fun _ => rfl) ?_
    refine .off ?_
    refine .off ?_
    exact .nil
  intro a107 w108 hn109 ha110
  have hs111 := ha110.size.trans hs99
  have hd112 := ha110.defers.trans hd100
  have h113 := ha110.fx 0 h101
  have h114 := ha110.fx 2 h102
  have h115 := ha110.fx 3 h103
  have h116 := ha110.ge 0 10 rfl
  have hb117 := hb105.new_ hn109
  have hN118 := hN106.transNew hn109
  clear hs99 hd100 h101 h102 h103 h104 hb105 hN106 ha110 hn109
  obtain ⟨w119, -, hst120, hb121, hu122, hf123⟩ := s_two (v0 := iv 2) (v1 := iv 0) Tryd.sizeOf23 rfl rfl rfl hb117
  refine st_act rfl rfl fun K124 hL125 => a_store' rfl h114 h116 hst120 (hL125 _ _ trivial ?_)
  have hN126 := hN118.trans hu122 (fun k hk hkb => by subst hkb; omega)
  clear hb117 hst120 K124 hL125 hN118 hu122 hf123
  refine st_take rfl rfl (y_assign (v := .bool false) rfl rfl) rfl ?_
  obtain ⟨a127, ha128⟩ : ∃ a', a' = a107.put (some 3) (.bool false) := ⟨_, rfl⟩
  have hs129 : a127.tmps.size = 13 := by rw [ha128, put_size]; exact hs111
  have hd130 : a127.defers = [] := by rw [ha128, put_defers]; exact hd112
  have h131 : a127.eval (.tmp 0) = iv n := by rw [ha128, put_ne _ _ _ _ (by decide)]; exact h113
  have h132 : a127.eval (.tmp 2) = pv q9 := by rw [ha128, put_ne _ _ _ _ (by decide)]; exact h114
  have h133 : a127.eval (.tmp 10) = nv (Nm.mk 2 0) := by rw [ha128, put_ne _ _ _ _ (by decide)]; exact h116
  have h134 : a127.eval (.tmp 3) = .bool false := by rw [ha128]; exact put_same _ _ _ (by rw [hs111]; decide)
  show stepsTo _ _ _ _ _ (a107.put (some 3) (.bool false)) _
  rw [← ha128]
  clear ha128 hs111 hd112 h113 h114 h115 h116
  refine st_nil ?_
  clear h133
  refine hK _ _ ?_
  clear hK K
  refine wp_ret (ret_k hd130 (v := .tuple #[nv (Nm.mk 2 0), .bool false]) (res_ct rfl h132 h134 (l_two Tryd.isAgg23 Tryd.sizeOf23 hb121)) ?_)
  refine ⟨?_, hN126⟩
  show Ending.returned (.tuple #[nv (Nm.mk 2 0), .bool false]) = Ending.returned (.tuple #[nv ((ofM n).1), .bool ((ofM n).2)])
  first | rfl | (simp [ofM, ht15, ht56])
set_option maxHeartbeats 4000000 in
set_option maxRecDepth 100000 in
theorem rsigned_c (x : Bool) (d : Bool) (w : World) : Calls Tryd.prog 77 #[.bool x, .bool d] w (IsRet (nv (signedR x d)) w) := by
  refine enter_abs Tryd.func77 rfl fun a0 hs0 hd0 hp => ?_
  have hs0 : a0.tmps.size = 18 := hs0
  have hN0 : New w w := Upd.refl _ _
  have hp0 : a0.eval (.tmp 0) = .bool x := hp 0 _ rfl
  have hp1 : a0.eval (.tmp 1) = .bool d := hp 1 _ rfl
  clear hp
  refine wp_seq_k fun K hK => ?_
  refine wp_g [true] [] [] 18
    [IsNew w 23 [iv 0, iv 0]]
    [0] (newsCons (fun v w h => IsNew.old h) newsNil) hs0 (.nw (.nil)) ?_ (fun i h => by cases h) ?_
  · skip
    refine .o2 (step_allocN (cs := [iv 0, iv 0]) (t := 23) rfl (noG rfl) (fun _ w hn k => rfl) (fun q _ hq hb => ⟨q, rfl, hq, hb⟩)) ?_
    exact .nil
  intro a1 w2 hn3 ha4
  have hs5 := ha4.size.trans hs0
  have hd6 := ha4.defers.trans hd0
  have h7 := ha4.fx 0 hp0
  have h8 := ha4.fx 1 hp1
  obtain ⟨q10, h9, hq11, hb12⟩ : IsNew _ _ _ _ _ := ha4.got 0 4 rfl (by kernel_rfl)
  have hq13 := Nat.le_trans hN0.size hq11
  have hN14 := hN0.transNew hn3
  clear hs0 hd0 hp0 hp1 hq11 hN0 ha4 hn3
  refine st_nil ?_
  refine hK _ _ ?_
  clear hK K
  refine wp_seq_k fun K hK => ?_
  refine wp_block ?_
  refine wp_seq_k fun K hK => ?_
  rcases Bool.eq_false_or_eq_true (x) with ht15 | ht15
  · skip
    have hv16 : a1.eval (.tmp 0) = .bool true := h7.trans (congrArg Value.bool ht15)
    clear h7
    refine wp_g0 [true, true, true, true, true] [] 18
      [ve (.bool true),
       ve (.bool true),
       ve (.bool d),
       ve (.bool d),
       ve (.bool d)] hs5 (.eq (.eq (.eq (.eq (.eq (.nil)))))) ?_ ?_
    · skip
      refine .o1 (tk rfl rfl fun _ w hn k => ⟨_, v_move rfl (k.fx 0 hv16), rfl⟩) ?_
      refine .o1 (tk rfl rfl fun _ w hn k => ⟨_, v_move rfl (k.eq1 0 6 rfl), rfl⟩) ?_
      refine .o1 (tg rfl rfl rfl (fun _ _ k => k.eq1 1 7 rfl) fun _ w hn k => ⟨_, v_move rfl (k.fx 1 h8), rfl⟩) ?_
      refine .o1 (tk rfl rfl fun _ w hn k => ⟨_, v_pickT rfl (k.eq1 1 7 rfl) (k.eq1 2 8 rfl), rfl⟩) ?_
      refine .o1 (tk rfl rfl fun _ w hn k => ⟨_, v_assign rfl (k.eq1 3 9 rfl), rfl⟩) ?_
      exact .nil
    intro a17 w18 hn19 ha20
    have hs21 := ha20.size.trans hs5
    have hd22 := ha20.defers.trans hd6
    have h23 := ha20.fx 0 hv16
    have h24 := ha20.fx 1 h8
    have h25 := ha20.fx 4 h9
    have h26 := ha20.ge 4 5 rfl
    have hb27 := hb12.new_ hn19
    have hN28 := hN14.transNew hn19
    clear hs5 hd6 hv16 h8 h9 hb12 hN14 ha20 hn19
    refine st_nil ?_
    refine hK _ _ ?_
    clear hK K
    rcases Bool.eq_false_or_eq_true (d) with ht29 | ht29
    · skip
      have hv30 : a17.eval (.tmp 1) = .bool true := h24.trans (congrArg Value.bool ht29)
      clear h24
      have hv31 : a17.eval (.tmp 5) = .bool true := h26.trans (congrArg Value.bool ht29)
      clear h26
      refine wp_cond_true hv31 ?_
      refine wp_seq_k fun K hK => ?_
      refine wp_g0 [true, false] [(1, false)] 18
        [ve (nv (Nm.mk 4 0)),
         vt] hs21 (.eq (.tt (.nil))) ?_ ?_
      · skip
        refine .o1 (ck rfl rfl rfl (fun _ w hn k => ⟨#[iv 4], args1 rfl, fun _ => by kernel_rfl, rkind_c 4 _⟩) fun _ => rfl) ?_
        refine .off ?_
        exact .nil
      intro a32 w33 hn34 ha35
      have hs36 := ha35.size.trans hs21
      have hd37 := ha35.defers.trans hd22
      have h38 := ha35.fx 4 h25
      have h39 := ha35.ge 0 10 rfl
      have hb40 := hb27.new_ hn34
      have hN41 := hN28.transNew hn34
      clear hs21 hd22 h23 hv30 h25 hv31 hb27 hN28 ha35 hn34
      obtain ⟨w42, -, hst43, hb44, hu45, hf46⟩ := s_two (v0 := iv 4) (v1 := iv 0) Tryd.sizeOf23 rfl rfl rfl hb40
      refine st_act rfl rfl fun K47 hL48 => a_store' rfl h38 h39 hst43 (hL48 _ _ trivial ?_)
      have hN49 := hN41.trans hu45 (fun k hk hkb => by subst hkb; omega)
      clear hb40 hst43 K47 hL48 hN41 hu45 hf46
      refine st_nil ?_
      clear h39
      refine hK _ _ ?_
      clear hK K
      refine wp_ret (ret_k hd37 (v := nv (Nm.mk 4 0)) (res_c rfl h38 (l_two Tryd.isAgg23 Tryd.sizeOf23 hb44)) ?_)
      refine ⟨?_, hN49⟩
      show Ending.returned (nv (Nm.mk 4 0)) = Ending.returned (nv (signedR x d))
      first | rfl | (simp [signedR, ht15, ht29])
    have hv50 : a17.eval (.tmp 1) = .bool false := h24.trans (congrArg Value.bool ht29)
    clear h24
    have hv51 : a17.eval (.tmp 5) = .bool false := h26.trans (congrArg Value.bool ht29)
    clear h26
    refine wp_cond_false hv51 ?_
    refine wp_seq_k fun K hK => ?_
    refine wp_g0 [true, true] [] 18
      [ve (.bool true),
       ve (.bool true)] hs21 (.eq (.eq (.nil))) ?_ ?_
    · skip
      refine .o1 (tk rfl rfl fun _ w hn k => ⟨_, v_move rfl (k.fx 0 h23), rfl⟩) ?_
      refine .o1 (tk rfl rfl fun _ w hn k => ⟨_, v_assign rfl (k.eq1 0 12 rfl), rfl⟩) ?_
      exact .nil
    intro a52 w53 hn54 ha55
    have hs56 := ha55.size.trans hs21
    have hd57 := ha55.defers.trans hd22
    have h58 := ha55.fx 1 hv50
    have h59 := ha55.fx 4 h25
    have h60 := ha55.ge 1 11 rfl
    have hb61 := hb27.new_ hn54
    have hN62 := hN28.transNew hn54
    clear hs21 hd22 h23 hv50 h25 hv51 hb27 hN28 ha55 hn54
    refine st_nil ?_
    refine hK _ _ ?_
    clear hK K
    refine wp_cond_true h60 ?_
    refine wp_seq_k fun K hK => ?_
    refine wp_g0 [true, false] [(1, false)] 18
      [ve (nv (Nm.mk 3 0)),
       vt] hs56 (.eq (.tt (.nil))) ?_ ?_
    · skip
      refine .o1 (ck rfl rfl rfl (fun _ w hn k => ⟨#[iv 3], args1 rfl, fun _ => by kernel_rfl, rkind_c 3 _⟩) fun _ => rfl) ?_
      refine .off ?_
      exact .nil
    intro a63 w64 hn65 ha66
    have hs67 := ha66.size.trans hs56
    have hd68 := ha66.defers.trans hd57
    have h69 := ha66.fx 4 h59
    have h70 := ha66.ge 0 13 rfl
    have hb71 := hb61.new_ hn65
    have hN72 := hN62.transNew hn65
    clear hs56 hd57 h58 h59 h60 hb61 hN62 ha66 hn65
    obtain ⟨w73, -, hst74, hb75, hu76, hf77⟩ := s_two (v0 := iv 3) (v1 := iv 0) Tryd.sizeOf23 rfl rfl rfl hb71
    refine st_act rfl rfl fun K78 hL79 => a_store' rfl h69 h70 hst74 (hL79 _ _ trivial ?_)
    have hN80 := hN72.trans hu76 (fun k hk hkb => by subst hkb; omega)
    clear hb71 hst74 K78 hL79 hN72 hu76 hf77
    refine st_nil ?_
    clear h70
    refine hK _ _ ?_
    clear hK K
    refine wp_ret (ret_k hd68 (v := nv (Nm.mk 3 0)) (res_c rfl h69 (l_two Tryd.isAgg23 Tryd.sizeOf23 hb75)) ?_)
    refine ⟨?_, hN80⟩
    show Ending.returned (nv (Nm.mk 3 0)) = Ending.returned (nv (signedR x d))
    first | rfl | (simp [signedR, ht15, ht29])
  have hv81 : a1.eval (.tmp 0) = .bool false := h7.trans (congrArg Value.bool ht15)
  clear h7
  refine wp_g0 [true, true, true, true, true] [] 18
    [ve (.bool false),
     ve (.bool false),
     ve undef,
     ve (.bool false),
     ve (.bool false)] hs5 (.eq (.eq (.eq (.eq (.eq (.nil)))))) ?_ ?_
  · skip
    refine .o1 (tk rfl rfl fun _ w hn k => ⟨_, v_move rfl (k.fx 0 hv81), rfl⟩) ?_
    refine .o1 (tk rfl rfl fun _ w hn k => ⟨_, v_move rfl (k.eq1 0 6 rfl), rfl⟩) ?_
    refine .o1 (sk rfl rfl rfl (fun _ _ _ k => k.eq1 1 7 rfl) (fun _ => rfl)) ?_
    refine .o1 (tk rfl rfl fun _ w hn k => ⟨_, v_pickF rfl (k.eq1 1 7 rfl) rfl, rfl⟩) ?_
    refine .o1 (tk rfl rfl fun _ w hn k => ⟨_, v_assign rfl (k.eq1 3 9 rfl), rfl⟩) ?_
    exact .nil
  intro a82 w83 hn84 ha85
  have hs86 := ha85.size.trans hs5
  have hd87 := ha85.defers.trans hd6
  have h88 := ha85.fx 0 hv81
  have h89 := ha85.fx 1 h8
  have h90 := ha85.fx 4 h9
  have h91 := ha85.ge 4 5 rfl
  have hb92 := hb12.new_ hn84
  have hN93 := hN14.transNew hn84
  clear hs5 hd6 hv81 h8 h9 hb12 hN14 ha85 hn84
  refine st_nil ?_
  refine hK _ _ ?_
  clear hK K
  refine wp_cond_false h91 ?_
  refine wp_seq_k fun K hK => ?_
  refine wp_g0 [true, true] [] 18
    [ve (.bool false),
     ve (.bool false)] hs86 (.eq (.eq (.nil))) ?_ ?_
  · skip
    refine .o1 (tk rfl rfl fun _ w hn k => ⟨_, v_move rfl (k.fx 0 h88), rfl⟩) ?_
    refine .o1 (tk rfl rfl fun _ w hn k => ⟨_, v_assign rfl (k.eq1 0 12 rfl), rfl⟩) ?_
    exact .nil
  intro a94 w95 hn96 ha97
  have hs98 := ha97.size.trans hs86
  have hd99 := ha97.defers.trans hd87
  have h100 := ha97.fx 1 h89
  have h101 := ha97.fx 4 h90
  have h102 := ha97.ge 1 11 rfl
  have hb103 := hb92.new_ hn96
  have hN104 := hN93.transNew hn96
  clear hs86 hd87 h88 h89 h90 h91 hb92 hN93 ha97 hn96
  refine st_nil ?_
  refine hK _ _ ?_
  clear hK K
  refine wp_cond_false h102 ?_
  refine wp_seq_k fun K hK => ?_
  refine wp_g0 [true, true] [] 18
    [ve (.bool d),
     ve (.bool d)] hs98 (.eq (.eq (.nil))) ?_ ?_
  · skip
    refine .o1 (tk rfl rfl fun _ w hn k => ⟨_, v_move rfl (k.fx 1 h100), rfl⟩) ?_
    refine .o1 (tk rfl rfl fun _ w hn k => ⟨_, v_assign rfl (k.eq1 0 15 rfl), rfl⟩) ?_
    exact .nil
  intro a105 w106 hn107 ha108
  have hs109 := ha108.size.trans hs98
  have hd110 := ha108.defers.trans hd99
  have h111 := ha108.fx 4 h101
  have h112 := ha108.ge 1 14 rfl
  have hb113 := hb103.new_ hn107
  have hN114 := hN104.transNew hn107
  clear hs98 hd99 h100 h101 h102 hb103 hN104 ha108 hn107
  refine st_nil ?_
  refine hK _ _ ?_
  clear hK K
  rcases Bool.eq_false_or_eq_true (d) with ht115 | ht115
  · skip
    have hv116 : a105.eval (.tmp 14) = .bool true := h112.trans (congrArg Value.bool ht115)
    clear h112
    refine wp_cond_true hv116 ?_
    refine wp_seq_k fun K hK => ?_
    refine wp_g0 [true, false] [(1, false)] 18
      [ve (nv (Nm.mk 1 0)),
       vt] hs109 (.eq (.tt (.nil))) ?_ ?_
    · skip
      refine .o1 (ck rfl rfl rfl (fun _ w hn k => ⟨#[iv 1], args1 rfl, fun _ => by kernel_rfl, rkind_c 1 _⟩) fun _ => rfl) ?_
      refine .off ?_
      exact .nil
    intro a117 w118 hn119 ha120
    have hs121 := ha120.size.trans hs109
    have hd122 := ha120.defers.trans hd110
    have h123 := ha120.fx 4 h111
    have h124 := ha120.ge 0 16 rfl
    have hb125 := hb113.new_ hn119
    have hN126 := hN114.transNew hn119
    clear hs109 hd110 h111 hv116 hb113 hN114 ha120 hn119
    obtain ⟨w127, -, hst128, hb129, hu130, hf131⟩ := s_two (v0 := iv 1) (v1 := iv 0) Tryd.sizeOf23 rfl rfl rfl hb125
    refine st_act rfl rfl fun K132 hL133 => a_store' rfl h123 h124 hst128 (hL133 _ _ trivial ?_)
    have hN134 := hN126.trans hu130 (fun k hk hkb => by subst hkb; omega)
    clear hb125 hst128 K132 hL133 hN126 hu130 hf131
    refine st_nil ?_
    clear h124
    refine hK _ _ ?_
    clear hK K
    refine wp_ret (ret_k hd122 (v := nv (Nm.mk 1 0)) (res_c rfl h123 (l_two Tryd.isAgg23 Tryd.sizeOf23 hb129)) ?_)
    refine ⟨?_, hN134⟩
    show Ending.returned (nv (Nm.mk 1 0)) = Ending.returned (nv (signedR x d))
    first | rfl | (simp [signedR, ht15, ht115])
  have hv135 : a105.eval (.tmp 14) = .bool false := h112.trans (congrArg Value.bool ht115)
  clear h112
  refine wp_cond_false hv135 ?_
  refine wp_skip ?_
  refine hK _ _ ?_
  clear hK K
  refine wp_seq_k fun K hK => ?_
  refine wp_g0 [true, false] [(1, false)] 18
    [ve (nv (Nm.mk 0 0)),
     vt] hs109 (.eq (.tt (.nil))) ?_ ?_
  · skip
    refine .o1 (tk rfl rfl fun _ w hn k => ⟨_, v_build (ps := []) rfl parts0 (by kernel_rfl), rfl⟩) ?_
    refine .off ?_
    exact .nil
  intro a136 w137 hn138 ha139
  have hs140 := ha139.size.trans hs109
  have hd141 := ha139.defers.trans hd110
  have h142 := ha139.fx 4 h111
  have h143 := ha139.ge 0 17 rfl
  have hb144 := hb113.new_ hn138
  have hN145 := hN114.transNew hn138
  clear hs109 hd110 h111 hv135 hb113 hN114 ha139 hn138
  obtain ⟨w146, -, hst147, hb148, hu149, hf150⟩ := s_two (v0 := iv 0) (v1 := iv 0) Tryd.sizeOf23 rfl rfl rfl hb144
  refine st_act rfl rfl fun K151 hL152 => a_store' rfl h142 h143 hst147 (hL152 _ _ trivial ?_)
  have hN153 := hN145.trans hu149 (fun k hk hkb => by subst hkb; omega)
  clear hb144 hst147 K151 hL152 hN145 hu149 hf150
  refine st_nil ?_
  clear h143
  refine hK _ _ ?_
  clear hK K
  refine wp_ret (ret_k hd141 (v := nv (Nm.mk 0 0)) (res_c rfl h142 (l_two Tryd.isAgg23 Tryd.sizeOf23 hb148)) ?_)
  refine ⟨?_, hN153⟩
  show Ending.returned (nv (Nm.mk 0 0)) = Ending.returned (nv (signedR x d))
  first | rfl | (simp [signedR, ht15, ht115])
set_option maxHeartbeats 4000000 in
set_option maxRecDepth 100000 in
theorem radd_c (a : Nm) (b : Nm) (w : World) : Calls Tryd.prog 38 #[nv a, nv b] w (IsRet (.tuple #[nv ((addM a b).1), .bool ((addM a b).2)]) w) := by
  refine enter_abs Tryd.func38 rfl fun a0 hs0 hd0 hp => ?_
  have hs0 : a0.tmps.size = 61 := hs0
  have hN0 : New w w := Upd.refl _ _
  have hp0 : a0.eval (.tmp 0) = nv a := hp 0 _ rfl
  have hp1 : a0.eval (.tmp 1) = nv b := hp 1 _ rfl
  clear hp
  refine wp_seq_k fun K hK => ?_
  refine wp_g [true, true, true, true] [] [] 61
    [IsNew w 23 [iv a.k, iv a.n],
     IsNew w 23 [iv b.k, iv b.n],
     IsNew w 23 [iv 0, iv 0],
     ve (.bool false)]
    [0, 1, 2] (newsCons (fun v w h => IsNew.old h) (newsCons (fun v w h => IsNew.old h) (newsCons (fun v w h => IsNew.old h) newsNil))) hs0 (.nw (.nw (.nw (.eq (.nil))))) ?_ (fun i h => by cases h) ?_
  · skip
    refine .o2 (step_allocN (cs := [iv a.k, iv a.n]) (t := 23) rfl (noG rfl) (fun _ w hn k => v_box rfl (k.fx 0 hp0) (fun w => rfl)) (fun q _ hq hb => ⟨q, rfl, hq, hb⟩)) ?_
    refine .o2 (step_allocN (cs := [iv b.k, iv b.n]) (t := 23) rfl (noG rfl) (fun _ w hn k => v_box rfl (k.fx 1 hp1) (fun w => rfl)) (fun q _ hq hb => ⟨q, rfl, hq, hb⟩)) ?_
    refine .o2 (step_allocN (cs := [iv 0, iv 0]) (t := 23) rfl (noG rfl) (fun _ w hn k => rfl) (fun q _ hq hb => ⟨q, rfl, hq, hb⟩)) ?_
    refine .o1 (tk rfl rfl fun _ w hn k => ⟨_, v_assign rfl rfl, rfl⟩) ?_
    exact .nil
  intro a1 w2 hn3 ha4
  have hs5 := ha4.size.trans hs0
  have hd6 := ha4.defers.trans hd0
  obtain ⟨q8, h7, hq9, hb10⟩ : IsNew _ _ _ _ _ := ha4.got 0 2 rfl (by kernel_rfl)
  obtain ⟨q12, h11, hq13, hb14⟩ : IsNew _ _ _ _ _ := ha4.got 1 3 rfl (by kernel_rfl)
  obtain ⟨q16, h15, hq17, hb18⟩ : IsNew _ _ _ _ _ := ha4.got 2 4 rfl (by kernel_rfl)
  have h19 := ha4.ge 3 5 rfl
  have hne20 : q8 ≠ q16 := ha4.ne 0 2 2 4 h7 h15
  have hne21 : q12 ≠ q16 := ha4.ne 1 2 3 4 h11 h15
  have hq22 := Nat.le_trans hN0.size hq9
  have hq23 := Nat.le_trans hN0.size hq13
  have hq24 := Nat.le_trans hN0.size hq17
  have hN25 := hN0.transNew hn3
  clear hs0 hd0 hp0 hp1 hq9 hq13 hq17 hN0 ha4 hn3
  refine st_nil ?_
  refine hK _ _ ?_
  clear hK K
  refine wp_seq_k fun K hK => ?_
  refine wp_g [true, true, true, true, true, true, false, false] [] [(6, false), (7, false)] 61
    [ve (nv a),
     ve (nv (asM a)),
     ve (nv b),
     ve (nv (asM b)),
     IsNew w2 23 [iv 0, iv 0],
     IsNew w2 23 [iv 0, iv 0],
     vt,
     vt]
    [4, 5] (newsCons (fun v w h => IsNew.old h) (newsCons (fun v w h => IsNew.old h) newsNil)) hs5 (.eq (.eq (.eq (.eq (.nw (.nw (.tt (.tt (.nil))))))))) ?_ (fun i h => by cases h) ?_
  · skip
    refine .o1 (tk rfl rfl fun _ w hn k => ⟨_, v_load rfl (k.fx 2 h7) (l_two Tryd.isAgg23 Tryd.sizeOf23 (hb10.new_ hn)), rfl⟩) ?_
    refine .o1 (ck rfl rfl rfl (fun _ w hn k => ⟨#[nv a], args1 (k.eq1 0 8 rfl), fun _ => by kernel_rfl, good_c a _⟩) fun _ => rfl) ?_
    refine .o1 (tk rfl rfl fun _ w hn k => ⟨_, v_load rfl (k.fx 3 h11) (l_two Tryd.isAgg23 Tryd.sizeOf23 (hb14.new_ hn)), rfl⟩) ?_
    refine .o1 (ck rfl rfl rfl (fun _ w hn k => ⟨#[nv b], args1 (k.eq1 2 10 rfl), fun _ => by kernel_rfl, good_c b _⟩) fun _ => rfl) ?_
    refine .o2 (step_allocN (cs := [iv 0, iv 0]) (t := 23) rfl (noG rfl) (fun _ w hn k => rfl) (fun q _ hq hb => ⟨q, rfl, hq, hb⟩)) ?_
    refine .o2 (step_allocN (cs := [iv 0, iv 0]) (t := 23) rfl (noG rfl) (fun _ w hn k => rfl) (fun q _ hq hb => ⟨q, rfl, hq, hb⟩)) ?_
    refine .off ?_
    refine .off ?_
    exact .nil
  intro a26 w27 hn28 ha29
  have hs30 := ha29.size.trans hs5
  have hd31 := ha29.defers.trans hd6
  have h32 := ha29.fx 4 h15
  have h33 := ha29.fx 5 h19
  have h34 := ha29.ge 1 9 rfl
  have h35 := ha29.ge 3 11 rfl
  obtain ⟨q37, h36, hq38, hb39⟩ : IsNew _ _ _ _ _ := ha29.got 4 6 rfl (by kernel_rfl)
  obtain ⟨q41, h40, hq42, hb43⟩ : IsNew _ _ _ _ _ := ha29.got 5 7 rfl (by kernel_rfl)
  have hb44 := hb18.new_ hn28
  have hne45 : q37 ≠ q41 := ha29.ne 4 5 6 7 h36 h40
  have hne46 : q16 ≠ q37 := by have h1 := hb18.lt; have h2 := hq38; omega
  have hne47 : q16 ≠ q41 := by have h1 := hb18.lt; have h2 := hq42; omega
  have hq48 := Nat.le_trans hN25.size hq38
  have hq49 := Nat.le_trans hN25.size hq42
  have hN50 := hN25.transNew hn28
  clear hs5 hd6 h7 h11 h15 h19 hb10 hq22 hb14 hq23 hb18 hq38 hq42 hN25 ha29 hn28
  have hbd_a := as_bd a
  have hbd_b := as_bd b
  obtain ⟨w51, -, hst52, hb53, hu54, hf55⟩ := s_two (v0 := iv ((asM a).k)) (v1 := iv ((asM a).n)) Tryd.sizeOf23 rfl rfl rfl hb39
  refine st_act rfl rfl fun K56 hL57 => a_store' rfl h36 h34 hst52 (hL57 _ _ trivial ?_)
  have hb58 := hf55 _ _ _ (hne46) hb44
  have hb59 := hf55 _ _ _ (fun h => hne45 h.symm) hb43
  have hN60 := hN50.trans hu54 (fun k hk hkb => by subst hkb; omega)
  clear hb39 hst52 K56 hL57 hN50 hb44 hb43 hu54 hf55
  obtain ⟨w61, -, hst62, hb63, hu64, hf65⟩ := s_two (v0 := iv ((asM b).k)) (v1 := iv ((asM b).n)) Tryd.sizeOf23 rfl rfl rfl hb59
  refine st_act rfl rfl fun K66 hL67 => a_store' rfl h40 h35 hst62 (hL67 _ _ trivial ?_)
  have hb68 := hf65 _ _ _ (hne47) hb58
  have hb69 := hf65 _ _ _ (hne45) hb53
  have hN70 := hN60.trans hu64 (fun k hk hkb => by subst hkb; omega)
  clear hb59 hst62 K66 hL67 hN60 hb58 hb53 hu64 hf65
  clear hne45
  refine st_nil ?_
  clear h34 h35
  refine hK _ _ ?_
  clear hK K
  refine wp_seq_k fun K hK => ?_
  refine wp_block ?_
  refine wp_seq_k fun K hK => ?_
  rcases Bool.eq_false_or_eq_true (decide (((asM a).k) = 2)) with ht71 | ht71
  · skip
    have ht71d := of_decide_eq_true ht71
    refine wp_g0 [true, true, true, true, true, true, true, true, true, true, true, true, true, true, true, true, true, true, true, true, true, true] [] 61
      [ve (nv (asM a)),
       ve (.bool true),
       ve (.bool true),
       ve undef,
       ve undef,
       ve (.bool true),
       ve (.bool true),
       ve undef,
       ve undef,
       ve undef,
       ve undef,
       ve undef,
       ve undef,
       ve undef,
       ve undef,
       ve undef,
       ve undef,
       ve undef,
       ve undef,
       ve undef,
       ve (.bool true),
       ve (.bool true)] hs30 (.eq (.eq (.eq (.eq (.eq (.eq (.eq (.eq (.eq (.eq (.eq (.eq (.eq (.eq (.eq (.eq (.eq (.eq (.eq (.eq (.eq (.eq (.nil))))))))))))))))))))))) ?_ ?_
    · skip
      refine .o1 (tk rfl rfl fun _ w hn k => ⟨_, v_load rfl (k.fx 6 h36) (l_two Tryd.isAgg23 Tryd.sizeOf23 (hb69.new_ hn)), rfl⟩) ?_
      refine .o1 (ck rfl rfl rfl (fun _ w hn k => ⟨#[nv (asM a)], args1 (k.eq1 0 13 rfl), fun _ => by kernel_rfl, rnan_c (asM a) _⟩) fun _ => congrArg Value.bool ht71) ?_
      refine .o1 (tk rfl rfl fun _ w hn k => ⟨_, v_move rfl (k.eq1 1 14 rfl), rfl⟩) ?_
      refine .o1 (sk rfl rfl rfl (fun _ _ _ k => k.eq1 2 15 rfl) (fun _ => rfl)) ?_
      refine .o1 (sk rfl rfl rfl (fun _ _ _ k => k.eq1 2 15 rfl) (fun _ => rfl)) ?_
      refine .o1 (tk rfl rfl fun _ w hn k => ⟨_, v_pickT rfl (k.eq1 2 15 rfl) rfl, rfl⟩) ?_
      refine .o1 (tk rfl rfl fun _ w hn k => ⟨_, v_move rfl (k.eq1 5 18 rfl), rfl⟩) ?_
      refine .o1 (sk rfl rfl rfl (fun _ _ _ k => k.eq1 6 19 rfl) (fun _ => rfl)) ?_
      refine .o1 (sk rfl rfl rfl (fun _ _ _ k => k.eq1 6 19 rfl) (fun _ => rfl)) ?_
      refine .o1 (sk rfl rfl rfl (fun _ _ _ k => k.eq1 6 19 rfl) (fun _ => rfl)) ?_
      refine .o1 (su rfl rfl rfl (fun _ _ _ k => k.eq1 9 22 rfl) (fun _ => rfl)) ?_
      refine .o1 (su rfl rfl rfl (fun _ _ _ k => k.eq1 9 22 rfl) (fun _ => rfl)) ?_
      refine .o1 (sk rfl rfl rfl (fun _ _ _ k => k.eq1 6 19 rfl) (fun _ => rfl)) ?_
      refine .o1 (sk rfl rfl rfl (fun _ _ _ k => k.eq1 6 19 rfl) (fun _ => rfl)) ?_
      refine .o1 (su rfl rfl rfl (fun _ _ _ k => k.eq1 13 26 rfl) (fun _ => rfl)) ?_
      refine .o1 (su rfl rfl rfl (fun _ _ _ k => k.eq1 13 26 rfl) (fun _ => rfl)) ?_
      refine .o1 (su rfl rfl rfl (fun _ _ _ k => k.eq1 13 26 rfl) (fun _ => rfl)) ?_
      refine .o1 (su rfl rfl rfl (fun _ _ _ k => k.eq1 13 26 rfl) (fun _ => rfl)) ?_
      refine .o1 (su rfl rfl rfl (fun _ _ _ k => k.eq1 13 26 rfl) (fun _ => rfl)) ?_
      refine .o1 (sk rfl rfl rfl (fun _ _ _ k => k.eq1 6 19 rfl) (fun _ => rfl)) ?_
      refine .o1 (tk rfl rfl fun _ w hn k => ⟨_, v_pickT rfl (k.eq1 6 19 rfl) rfl, rfl⟩) ?_
      refine .o1 (tk rfl rfl fun _ w hn k => ⟨_, v_assign rfl (k.eq1 20 33 rfl), rfl⟩) ?_
      exact .nil
    intro a72 w73 hn74 ha75
    have hs76 := ha75.size.trans hs30
    have hd77 := ha75.defers.trans hd31
    have h78 := ha75.fx 4 h32
    have h79 := ha75.fx 5 h33
    have h80 := ha75.fx 6 h36
    have h81 := ha75.fx 7 h40
    have h82 := ha75.ge 21 12 rfl
    have hb83 := hb68.new_ hn74
    have hb84 := hb69.new_ hn74
    have hb85 := hb63.new_ hn74
    have hN86 := hN70.transNew hn74
    clear hs30 hd31 h32 h33 h36 h40 hb68 hb69 hb63 hN70 ha75 hn74
    refine st_nil ?_
    refine hK _ _ ?_
    clear hK K
    refine wp_cond_true h82 ?_
    refine wp_seq_k fun K hK => ?_
    refine wp_g0 [true, false, false] [(1, false), (2, true)] 61
      [ve (nv (Nm.mk 2 0)),
       vt,
       vt] hs76 (.eq (.tt (.tt (.nil)))) ?_ ?_
    · skip
      refine .o1 (ck rfl rfl rfl (fun _ w hn k => ⟨#[], rfl, fun _ => by kernel_rfl, rNaN_c  _⟩) fun _ => rfl) ?_
      refine .off ?_
      refine .off ?_
      exact .nil
    intro a87 w88 hn89 ha90
    have hs91 := ha90.size.trans hs76
    have hd92 := ha90.defers.trans hd77
    have h93 := ha90.fx 4 h78
    have h94 := ha90.fx 5 h79
    have h95 := ha90.fx 6 h80
    have h96 := ha90.fx 7 h81
    have h97 := ha90.ge 0 34 rfl
    have hb98 := hb83.new_ hn89
    have hb99 := hb84.new_ hn89
    have hb100 := hb85.new_ hn89
    have hN101 := hN86.transNew hn89
    clear hs76 hd77 h78 h79 h80 h81 h82 hb83 hb84 hb85 hN86 ha90 hn89
    obtain ⟨w102, -, hst103, hb104, hu105, hf106⟩ := s_two (v0 := iv 2) (v1 := iv 0) Tryd.sizeOf23 rfl rfl rfl hb98
    refine st_act rfl rfl fun K107 hL108 => a_store' rfl h93 h97 hst103 (hL108 _ _ trivial ?_)
    have hb109 := hf106 _ _ _ (fun h => hne46 h.symm) hb99
    have hb110 := hf106 _ _ _ (fun h => hne47 h.symm) hb100
    have hN111 := hN101.trans hu105 (fun k hk hkb => by subst hkb; omega)
    clear hb98 hst103 K107 hL108 hN101 hb99 hb100 hu105 hf106
    refine st_take rfl rfl (y_assign (v := .bool true) rfl rfl) rfl ?_
    obtain ⟨a112, ha113⟩ : ∃ a', a' = a87.put (some 5) (.bool true) := ⟨_, rfl⟩
    have hs114 : a112.tmps.size = 61 := by rw [ha113, put_size]; exact hs91
    have hd115 : a112.defers = [] := by rw [ha113, put_defers]; exact hd92
    have h116 : a112.eval (.tmp 4) = pv q16 := by rw [ha113, put_ne _ _ _ _ (by decide)]; exact h93
    have h117 : a112.eval (.tmp 6) = pv q37 := by rw [ha113, put_ne _ _ _ _ (by decide)]; exact h95
    have h118 : a112.eval (.tmp 7) = pv q41 := by rw [ha113, put_ne _ _ _ _ (by decide)]; exact h96
    have h119 : a112.eval (.tmp 34) = nv (Nm.mk 2 0) := by rw [ha113, put_ne _ _ _ _ (by decide)]; exact h97
    have h120 : a112.eval (.tmp 5) = .bool true := by rw [ha113]; exact put_same _ _ _ (by rw [hs91]; decide)
    show stepsTo _ _ _ _ _ (a87.put (some 5) (.bool true)) _
    rw [← ha113]
    clear ha113 hs91 hd92 h93 h94 h95 h96 h97
    refine st_nil ?_
    clear h119
    refine hK _ _ ?_
    clear hK K
    refine wp_ret (ret_k hd115 (v := .tuple #[nv (Nm.mk 2 0), .bool true]) (res_ct rfl h116 h120 (l_two Tryd.isAgg23 Tryd.sizeOf23 hb104)) ?_)
    refine ⟨?_, hN111⟩
    show Ending.returned (.tuple #[nv (Nm.mk 2 0), .bool true]) = Ending.returned (.tuple #[nv ((addM a b).1), .bool ((addM a b).2)])
    first | rfl | (simp [addM, addA, ht71])
  have ht71d := of_decide_eq_false ht71
  rcases Bool.eq_false_or_eq_true (decide (((asM b).k) = 2)) with ht121 | ht121
  · skip
    have ht121d := of_decide_eq_true ht121
    refine wp_g0 [true, true, true, true, true, true, true, true, true, true, true, true, true, true, true, true, true, true, true, true, true, true] [] 61
      [ve (nv (asM a)),
       ve (.bool false),
       ve (.bool false),
       ve (nv (asM b)),
       ve (.bool true),
       ve (.bool true),
       ve (.bool true),
       ve undef,
       ve undef,
       ve undef,
       ve undef,
       ve undef,
       ve undef,
       ve undef,
       ve undef,
       ve undef,
       ve undef,
       ve undef,
       ve undef,
       ve undef,
       ve (.bool true),
       ve (.bool true)] hs30 (.eq (.eq (.eq (.eq (.eq (.eq (.eq (.eq (.eq (.eq (.eq (.eq (.eq (.eq (.eq (.eq (.eq (.eq (.eq (.eq (.eq (.eq (.nil))))))))))))))))))))))) ?_ ?_
    · skip
      refine .o1 (tk rfl rfl fun _ w hn k => ⟨_, v_load rfl (k.fx 6 h36) (l_two Tryd.isAgg23 Tryd.sizeOf23 (hb69.new_ hn)), rfl⟩) ?_
      refine .o1 (ck rfl rfl rfl (fun _ w hn k => ⟨#[nv (asM a)], args1 (k.eq1 0 13 rfl), fun _ => by kernel_rfl, rnan_c (asM a) _⟩) fun _ => congrArg Value.bool ht71) ?_
      refine .o1 (tk rfl rfl fun _ w hn k => ⟨_, v_move rfl (k.eq1 1 14 rfl), rfl⟩) ?_
      refine .o1 (tg rfl rfl rfl (fun _ _ k => k.eq1 2 15 rfl) fun _ w hn k => ⟨_, v_load rfl (k.fx 7 h40) (l_two Tryd.isAgg23 Tryd.sizeOf23 (hb63.new_ hn)), rfl⟩) ?_
      refine .o1 (cg rfl rfl rfl (fun _ _ k => k.eq1 2 15 rfl) rfl (fun _ w hn k => ⟨#[nv (asM b)], args1 (k.eq1 3 16 rfl), fun _ => by kernel_rfl, rnan_c (asM b) _⟩) fun _ => congrArg Value.bool ht121) ?_
      refine .o1 (tk rfl rfl fun _ w hn k => ⟨_, v_pickF rfl (k.eq1 2 15 rfl) (k.eq1 4 17 rfl), rfl⟩) ?_
      refine .o1 (tk rfl rfl fun _ w hn k => ⟨_, v_move rfl (k.eq1 5 18 rfl), rfl⟩) ?_
      refine .o1 (sk rfl rfl rfl (fun _ _ _ k => k.eq1 6 19 rfl) (fun _ => rfl)) ?_
      refine .o1 (sk rfl rfl rfl (fun _ _ _ k => k.eq1 6 19 rfl) (fun _ => rfl)) ?_
      refine .o1 (sk rfl rfl rfl (fun _ _ _ k => k.eq1 6 19 rfl) (fun _ => rfl)) ?_
      refine .o1 (su rfl rfl rfl (fun _ _ _ k => k.eq1 9 22 rfl) (fun _ => rfl)) ?_
      refine .o1 (su rfl rfl rfl (fun _ _ _ k => k.eq1 9 22 rfl) (fun _ => rfl)) ?_
      refine .o1 (sk rfl rfl rfl (fun _ _ _ k => k.eq1 6 19 rfl) (fun _ => rfl)) ?_
      refine .o1 (sk rfl rfl rfl (fun _ _ _ k => k.eq1 6 19 rfl) (fun _ => rfl)) ?_
      refine .o1 (su rfl rfl rfl (fun _ _ _ k => k.eq1 13 26 rfl) (fun _ => rfl)) ?_
      refine .o1 (su rfl rfl rfl (fun _ _ _ k => k.eq1 13 26 rfl) (fun _ => rfl)) ?_
      refine .o1 (su rfl rfl rfl (fun _ _ _ k => k.eq1 13 26 rfl) (fun _ => rfl)) ?_
      refine .o1 (su rfl rfl rfl (fun _ _ _ k => k.eq1 13 26 rfl) (fun _ => rfl)) ?_
      refine .o1 (su rfl rfl rfl (fun _ _ _ k => k.eq1 13 26 rfl) (fun _ => rfl)) ?_
      refine .o1 (sk rfl rfl rfl (fun _ _ _ k => k.eq1 6 19 rfl) (fun _ => rfl)) ?_
      refine .o1 (tk rfl rfl fun _ w hn k => ⟨_, v_pickT rfl (k.eq1 6 19 rfl) rfl, rfl⟩) ?_
      refine .o1 (tk rfl rfl fun _ w hn k => ⟨_, v_assign rfl (k.eq1 20 33 rfl), rfl⟩) ?_
      exact .nil
    intro a122 w123 hn124 ha125
    have hs126 := ha125.size.trans hs30
    have hd127 := ha125.defers.trans hd31
    have h128 := ha125.fx 4 h32
    have h129 := ha125.fx 5 h33
    have h130 := ha125.fx 6 h36
    have h131 := ha125.fx 7 h40
    have h132 := ha125.ge 21 12 rfl
    have hb133 := hb68.new_ hn124
    have hb134 := hb69.new_ hn124
    have hb135 := hb63.new_ hn124
    have hN136 := hN70.transNew hn124
    clear hs30 hd31 h32 h33 h36 h40 hb68 hb69 hb63 hN70 ha125 hn124
    refine st_nil ?_
    refine hK _ _ ?_
    clear hK K
    refine wp_cond_true h132 ?_
    refine wp_seq_k fun K hK => ?_
    refine wp_g0 [true, false, false] [(1, false), (2, true)] 61
      [ve (nv (Nm.mk 2 0)),
       vt,
       vt] hs126 (.eq (.tt (.tt (.nil)))) ?_ ?_
    · skip
      refine .o1 (ck rfl rfl rfl (fun _ w hn k => ⟨#[], rfl, fun _ => by kernel_rfl, rNaN_c  _⟩) fun _ => rfl) ?_
      refine .off ?_
      refine .off ?_
      exact .nil
    intro a137 w138 hn139 ha140
    have hs141 := ha140.size.trans hs126
    have hd142 := ha140.defers.trans hd127
    have h143 := ha140.fx 4 h128
    have h144 := ha140.fx 5 h129
    have h145 := ha140.fx 6 h130
    have h146 := ha140.fx 7 h131
    have h147 := ha140.ge 0 34 rfl
    have hb148 := hb133.new_ hn139
    have hb149 := hb134.new_ hn139
    have hb150 := hb135.new_ hn139
    have hN151 := hN136.transNew hn139
    clear hs126 hd127 h128 h129 h130 h131 h132 hb133 hb134 hb135 hN136 ha140 hn139
    obtain ⟨w152, -, hst153, hb154, hu155, hf156⟩ := s_two (v0 := iv 2) (v1 := iv 0) Tryd.sizeOf23 rfl rfl rfl hb148
    refine st_act rfl rfl fun K157 hL158 => a_store' rfl h143 h147 hst153 (hL158 _ _ trivial ?_)
    have hb159 := hf156 _ _ _ (fun h => hne46 h.symm) hb149
    have hb160 := hf156 _ _ _ (fun h => hne47 h.symm) hb150
    have hN161 := hN151.trans hu155 (fun k hk hkb => by subst hkb; omega)
    clear hb148 hst153 K157 hL158 hN151 hb149 hb150 hu155 hf156
    refine st_take rfl rfl (y_assign (v := .bool true) rfl rfl) rfl ?_
    obtain ⟨a162, ha163⟩ : ∃ a', a' = a137.put (some 5) (.bool true) := ⟨_, rfl⟩
    have hs164 : a162.tmps.size = 61 := by rw [ha163, put_size]; exact hs141
    have hd165 : a162.defers = [] := by rw [ha163, put_defers]; exact hd142
    have h166 : a162.eval (.tmp 4) = pv q16 := by rw [ha163, put_ne _ _ _ _ (by decide)]; exact h143
    have h167 : a162.eval (.tmp 6) = pv q37 := by rw [ha163, put_ne _ _ _ _ (by decide)]; exact h145
    have h168 : a162.eval (.tmp 7) = pv q41 := by rw [ha163, put_ne _ _ _ _ (by decide)]; exact h146
    have h169 : a162.eval (.tmp 34) = nv (Nm.mk 2 0) := by rw [ha163, put_ne _ _ _ _ (by decide)]; exact h147
    have h170 : a162.eval (.tmp 5) = .bool true := by rw [ha163]; exact put_same _ _ _ (by rw [hs141]; decide)
    show stepsTo _ _ _ _ _ (a137.put (some 5) (.bool true)) _
    rw [← ha163]
    clear ha163 hs141 hd142 h143 h144 h145 h146 h147
    refine st_nil ?_
    clear h169
    refine hK _ _ ?_
    clear hK K
    refine wp_ret (ret_k hd165 (v := .tuple #[nv (Nm.mk 2 0), .bool true]) (res_ct rfl h166 h170 (l_two Tryd.isAgg23 Tryd.sizeOf23 hb154)) ?_)
    refine ⟨?_, hN161⟩
    show Ending.returned (.tuple #[nv (Nm.mk 2 0), .bool true]) = Ending.returned (.tuple #[nv ((addM a b).1), .bool ((addM a b).2)])
    first | rfl | (simp [addM, addA, ht71, ht121])
  have ht121d := of_decide_eq_false ht121
  rcases Bool.eq_false_or_eq_true (infB ((asM a).k)) with ht171 | ht171
  · skip
    rcases Bool.eq_false_or_eq_true (infB ((asM b).k)) with ht172 | ht172
    · skip
      rcases Bool.eq_false_or_eq_true (decide (((asM a).k) = ((asM b).k))) with ht173 | ht173
      · skip
        have ht173d := of_decide_eq_true ht173
        refine wp_g0 [true, true, true, true, true, true, true, true, true, true, true, true, true, true, true, true, true, true, true, true, true, true] [] 61
          [ve (nv (asM a)),
           ve (.bool false),
           ve (.bool false),
           ve (nv (asM b)),
           ve (.bool false),
           ve (.bool false),
           ve (.bool false),
           ve (nv (asM a)),
           ve (.bool true),
           ve (.bool true),
           ve (nv (asM b)),
           ve (.bool true),
           ve (.bool true),
           ve (.bool true),
           ve (pv q37),
           ve (iv ((asM a).k)),
           ve (pv q41),
           ve (iv ((asM b).k)),
           ve (.bool false),
           ve (.bool false),
           ve (.bool false),
           ve (.bool false)] hs30 (.eq (.eq (.eq (.eq (.eq (.eq (.eq (.eq (.eq (.eq (.eq (.eq (.eq (.eq (.eq (.eq (.eq (.eq (.eq (.eq (.eq (.eq (.nil))))))))))))))))))))))) ?_ ?_
        · skip
          refine .o1 (tk rfl rfl fun _ w hn k => ⟨_, v_load rfl (k.fx 6 h36) (l_two Tryd.isAgg23 Tryd.sizeOf23 (hb69.new_ hn)), rfl⟩) ?_
          refine .o1 (ck rfl rfl rfl (fun _ w hn k => ⟨#[nv (asM a)], args1 (k.eq1 0 13 rfl), fun _ => by kernel_rfl, rnan_c (asM a) _⟩) fun _ => congrArg Value.bool ht71) ?_
          refine .o1 (tk rfl rfl fun _ w hn k => ⟨_, v_move rfl (k.eq1 1 14 rfl), rfl⟩) ?_
          refine .o1 (tg rfl rfl rfl (fun _ _ k => k.eq1 2 15 rfl) fun _ w hn k => ⟨_, v_load rfl (k.fx 7 h40) (l_two Tryd.isAgg23 Tryd.sizeOf23 (hb63.new_ hn)), rfl⟩) ?_
          refine .o1 (cg rfl rfl rfl (fun _ _ k => k.eq1 2 15 rfl) rfl (fun _ w hn k => ⟨#[nv (asM b)], args1 (k.eq1 3 16 rfl), fun _ => by kernel_rfl, rnan_c (asM b) _⟩) fun _ => congrArg Value.bool ht121) ?_
          refine .o1 (tk rfl rfl fun _ w hn k => ⟨_, v_pickF rfl (k.eq1 2 15 rfl) (k.eq1 4 17 rfl), rfl⟩) ?_
          refine .o1 (tk rfl rfl fun _ w hn k => ⟨_, v_move rfl (k.eq1 5 18 rfl), rfl⟩) ?_
          refine .o1 (tg rfl rfl rfl (fun _ _ k => k.eq1 6 19 rfl) fun _ w hn k => ⟨_, v_load rfl (k.fx 6 h36) (l_two Tryd.isAgg23 Tryd.sizeOf23 (hb69.new_ hn)), rfl⟩) ?_
          refine .o1 (cg rfl rfl rfl (fun _ _ k => k.eq1 6 19 rfl) rfl (fun _ w hn k => ⟨#[nv (asM a)], args1 (k.eq1 7 20 rfl), fun _ => by kernel_rfl, rinf_c (asM a) _⟩) fun _ => congrArg Value.bool ht171) ?_
          refine .o1 (tg rfl rfl rfl (fun _ _ k => k.eq1 6 19 rfl) fun _ w hn k => ⟨_, v_move rfl (k.eq1 8 21 rfl), rfl⟩) ?_
          refine .o1 (tg rfl rfl rfl (fun _ _ k => k.eq1 9 22 rfl) fun _ w hn k => ⟨_, v_load rfl (k.fx 7 h40) (l_two Tryd.isAgg23 Tryd.sizeOf23 (hb63.new_ hn)), rfl⟩) ?_
          refine .o1 (cg rfl rfl rfl (fun _ _ k => k.eq1 9 22 rfl) rfl (fun _ w hn k => ⟨#[nv (asM b)], args1 (k.eq1 10 23 rfl), fun _ => by kernel_rfl, rinf_c (asM b) _⟩) fun _ => congrArg Value.bool ht172) ?_
          refine .o1 (tg rfl rfl rfl (fun _ _ k => k.eq1 6 19 rfl) fun _ w hn k => ⟨_, v_pickT rfl (k.eq1 9 22 rfl) (k.eq1 11 24 rfl), rfl⟩) ?_
          refine .o1 (tg rfl rfl rfl (fun _ _ k => k.eq1 6 19 rfl) fun _ w hn k => ⟨_, v_move rfl (k.eq1 12 25 rfl), rfl⟩) ?_
          refine .o1 (tg rfl rfl rfl (fun _ _ k => k.eq1 13 26 rfl) fun _ w hn k => ⟨_, v_field rfl (k.fx 6 h36) (fun w => rfl), rfl⟩) ?_
          refine .o1 (tg rfl rfl rfl (fun _ _ k => k.eq1 13 26 rfl) fun _ w hn k => ⟨_, v_load rfl (k.eq1 14 27 rfl) (l_one Tryd.isAgg3 ((hb69.new_ hn).cell 0)), rfl⟩) ?_
          refine .o1 (tg rfl rfl rfl (fun _ _ k => k.eq1 13 26 rfl) fun _ w hn k => ⟨_, v_field rfl (k.fx 7 h40) (fun w => rfl), rfl⟩) ?_
          refine .o1 (tg rfl rfl rfl (fun _ _ k => k.eq1 13 26 rfl) fun _ w hn k => ⟨_, v_load rfl (k.eq1 16 29 rfl) (l_one Tryd.isAgg3 ((hb63.new_ hn).cell 0)), rfl⟩) ?_
          refine .o1 (tg rfl rfl rfl (fun _ _ k => k.eq1 13 26 rfl) fun _ w hn k => ⟨_, v_bin rfl (k.eq1 15 28 rfl) (k.eq1 17 30 rfl) (fun _ => rfl) (r_neq ht173), rfl⟩) ?_
          refine .o1 (tg rfl rfl rfl (fun _ _ k => k.eq1 6 19 rfl) fun _ w hn k => ⟨_, v_pickT rfl (k.eq1 13 26 rfl) (k.eq1 18 31 rfl), rfl⟩) ?_
          refine .o1 (tk rfl rfl fun _ w hn k => ⟨_, v_pickF rfl (k.eq1 6 19 rfl) (k.eq1 19 32 rfl), rfl⟩) ?_
          refine .o1 (tk rfl rfl fun _ w hn k => ⟨_, v_assign rfl (k.eq1 20 33 rfl), rfl⟩) ?_
          exact .nil
        intro a174 w175 hn176 ha177
        have hs178 := ha177.size.trans hs30
        have hd179 := ha177.defers.trans hd31
        have h180 := ha177.fx 4 h32
        have h181 := ha177.fx 5 h33
        have h182 := ha177.fx 6 h36
        have h183 := ha177.fx 7 h40
        have h184 := ha177.ge 21 12 rfl
        have hb185 := hb68.new_ hn176
        have hb186 := hb69.new_ hn176
        have hb187 := hb63.new_ hn176
        have hN188 := hN70.transNew hn176
        clear hs30 hd31 h32 h33 h36 h40 hb68 hb69 hb63 hN70 ha177 hn176
        refine st_nil ?_
        refine hK _ _ ?_
        clear hK K
        refine wp_cond_false h184 ?_
        refine wp_seq_k fun K hK => ?_
        refine wp_g0 [true, true, true] [] 61
          [ve (nv (asM a)),
           ve (.bool true),
           ve (.bool true)] hs178 (.eq (.eq (.eq (.nil)))) ?_ ?_
        · skip
          refine .o1 (tk rfl rfl fun _ w hn k => ⟨_, v_load rfl (k.fx 6 h182) (l_two Tryd.isAgg23 Tryd.sizeOf23 (hb186.new_ hn)), rfl⟩) ?_
          refine .o1 (ck rfl rfl rfl (fun _ w hn k => ⟨#[nv (asM a)], args1 (k.eq1 0 36 rfl), fun _ => by kernel_rfl, rinf_c (asM a) _⟩) fun _ => congrArg Value.bool ht171) ?_
          refine .o1 (tk rfl rfl fun _ w hn k => ⟨_, v_assign rfl (k.eq1 1 37 rfl), rfl⟩) ?_
          exact .nil
        intro a189 w190 hn191 ha192
        have hs193 := ha192.size.trans hs178
        have hd194 := ha192.defers.trans hd179
        have h195 := ha192.fx 4 h180
        have h196 := ha192.fx 5 h181
        have h197 := ha192.fx 6 h182
        have h198 := ha192.fx 7 h183
        have h199 := ha192.ge 2 35 rfl
        have hb200 := hb185.new_ hn191
        have hb201 := hb186.new_ hn191
        have hb202 := hb187.new_ hn191
        have hN203 := hN188.transNew hn191
        clear hs178 hd179 h180 h181 h182 h183 h184 hb185 hb186 hb187 hN188 ha192 hn191
        refine st_nil ?_
        refine hK _ _ ?_
        clear hK K
        refine wp_cond_true h199 ?_
        refine wp_seq_k fun K hK => ?_
        refine wp_g0 [true, false, false] [(1, false), (2, true)] 61
          [ve (nv (asM a)),
           vt,
           vt] hs193 (.eq (.tt (.tt (.nil)))) ?_ ?_
        · skip
          refine .o1 (tk rfl rfl fun _ w hn k => ⟨_, v_load rfl (k.fx 6 h197) (l_two Tryd.isAgg23 Tryd.sizeOf23 (hb201.new_ hn)), rfl⟩) ?_
          refine .off ?_
          refine .off ?_
          exact .nil
        intro a204 w205 hn206 ha207
        have hs208 := ha207.size.trans hs193
        have hd209 := ha207.defers.trans hd194
        have h210 := ha207.fx 4 h195
        have h211 := ha207.fx 5 h196
        have h212 := ha207.fx 6 h197
        have h213 := ha207.fx 7 h198
        have h214 := ha207.ge 0 38 rfl
        have hb215 := hb200.new_ hn206
        have hb216 := hb201.new_ hn206
        have hb217 := hb202.new_ hn206
        have hN218 := hN203.transNew hn206
        clear hs193 hd194 h195 h196 h197 h198 h199 hb200 hb201 hb202 hN203 ha207 hn206
        obtain ⟨w219, -, hst220, hb221, hu222, hf223⟩ := s_two (v0 := iv ((asM a).k)) (v1 := iv ((asM a).n)) Tryd.sizeOf23 rfl rfl rfl hb215
        refine st_act rfl rfl fun K224 hL225 => a_store' rfl h210 h214 hst220 (hL225 _ _ trivial ?_)
        have hb226 := hf223 _ _ _ (fun h => hne46 h.symm) hb216
        have hb227 := hf223 _ _ _ (fun h => hne47 h.symm) hb217
        have hN228 := hN218.trans hu222 (fun k hk hkb => by subst hkb; omega)
        clear hb215 hst220 K224 hL225 hN218 hb216 hb217 hu222 hf223
        refine st_take rfl rfl (y_assign (v := .bool true) rfl rfl) rfl ?_
        obtain ⟨a229, ha230⟩ : ∃ a', a' = a204.put (some 5) (.bool true) := ⟨_, rfl⟩
        have hs231 : a229.tmps.size = 61 := by rw [ha230, put_size]; exact hs208
        have hd232 : a229.defers = [] := by rw [ha230, put_defers]; exact hd209
        have h233 : a229.eval (.tmp 4) = pv q16 := by rw [ha230, put_ne _ _ _ _ (by decide)]; exact h210
        have h234 : a229.eval (.tmp 6) = pv q37 := by rw [ha230, put_ne _ _ _ _ (by decide)]; exact h212
        have h235 : a229.eval (.tmp 7) = pv q41 := by rw [ha230, put_ne _ _ _ _ (by decide)]; exact h213
        have h236 : a229.eval (.tmp 38) = nv (asM a) := by rw [ha230, put_ne _ _ _ _ (by decide)]; exact h214
        have h237 : a229.eval (.tmp 5) = .bool true := by rw [ha230]; exact put_same _ _ _ (by rw [hs208]; decide)
        show stepsTo _ _ _ _ _ (a204.put (some 5) (.bool true)) _
        rw [← ha230]
        clear ha230 hs208 hd209 h210 h211 h212 h213 h214
        refine st_nil ?_
        clear h236
        refine hK _ _ ?_
        clear hK K
        refine wp_ret (ret_k hd232 (v := .tuple #[nv (asM a), .bool true]) (res_ct rfl h233 h237 (l_two Tryd.isAgg23 Tryd.sizeOf23 hb221)) ?_)
        refine ⟨?_, hN228⟩
        show Ending.returned (.tuple #[nv (asM a), .bool true]) = Ending.returned (.tuple #[nv ((addM a b).1), .bool ((addM a b).2)])
        first | rfl | (simp [addM, addA, ht71, ht121, ht171, ht172, ht173])
      have ht173d := of_decide_eq_false ht173
      refine wp_g0 [true, true, true, true, true, true, true, true, true, true, true, true, true, true, true, true, true, true, true, true, true, true] [] 61
        [ve (nv (asM a)),
         ve (.bool false),
         ve (.bool false),
         ve (nv (asM b)),
         ve (.bool false),
         ve (.bool false),
         ve (.bool false),
         ve (nv (asM a)),
         ve (.bool true),
         ve (.bool true),
         ve (nv (asM b)),
         ve (.bool true),
         ve (.bool true),
         ve (.bool true),
         ve (pv q37),
         ve (iv ((asM a).k)),
         ve (pv q41),
         ve (iv ((asM b).k)),
         ve (.bool true),
         ve (.bool true),
         ve (.bool true),
         ve (.bool true)] hs30 (.eq (.eq (.eq (.eq (.eq (.eq (.eq (.eq (.eq (.eq (.eq (.eq (.eq (.eq (.eq (.eq (.eq (.eq (.eq (.eq (.eq (.eq (.nil))))))))))))))))))))))) ?_ ?_
      · skip
        refine .o1 (tk rfl rfl fun _ w hn k => ⟨_, v_load rfl (k.fx 6 h36) (l_two Tryd.isAgg23 Tryd.sizeOf23 (hb69.new_ hn)), rfl⟩) ?_
        refine .o1 (ck rfl rfl rfl (fun _ w hn k => ⟨#[nv (asM a)], args1 (k.eq1 0 13 rfl), fun _ => by kernel_rfl, rnan_c (asM a) _⟩) fun _ => congrArg Value.bool ht71) ?_
        refine .o1 (tk rfl rfl fun _ w hn k => ⟨_, v_move rfl (k.eq1 1 14 rfl), rfl⟩) ?_
        refine .o1 (tg rfl rfl rfl (fun _ _ k => k.eq1 2 15 rfl) fun _ w hn k => ⟨_, v_load rfl (k.fx 7 h40) (l_two Tryd.isAgg23 Tryd.sizeOf23 (hb63.new_ hn)), rfl⟩) ?_
        refine .o1 (cg rfl rfl rfl (fun _ _ k => k.eq1 2 15 rfl) rfl (fun _ w hn k => ⟨#[nv (asM b)], args1 (k.eq1 3 16 rfl), fun _ => by kernel_rfl, rnan_c (asM b) _⟩) fun _ => congrArg Value.bool ht121) ?_
        refine .o1 (tk rfl rfl fun _ w hn k => ⟨_, v_pickF rfl (k.eq1 2 15 rfl) (k.eq1 4 17 rfl), rfl⟩) ?_
        refine .o1 (tk rfl rfl fun _ w hn k => ⟨_, v_move rfl (k.eq1 5 18 rfl), rfl⟩) ?_
        refine .o1 (tg rfl rfl rfl (fun _ _ k => k.eq1 6 19 rfl) fun _ w hn k => ⟨_, v_load rfl (k.fx 6 h36) (l_two Tryd.isAgg23 Tryd.sizeOf23 (hb69.new_ hn)), rfl⟩) ?_
        refine .o1 (cg rfl rfl rfl (fun _ _ k => k.eq1 6 19 rfl) rfl (fun _ w hn k => ⟨#[nv (asM a)], args1 (k.eq1 7 20 rfl), fun _ => by kernel_rfl, rinf_c (asM a) _⟩) fun _ => congrArg Value.bool ht171) ?_
        refine .o1 (tg rfl rfl rfl (fun _ _ k => k.eq1 6 19 rfl) fun _ w hn k => ⟨_, v_move rfl (k.eq1 8 21 rfl), rfl⟩) ?_
        refine .o1 (tg rfl rfl rfl (fun _ _ k => k.eq1 9 22 rfl) fun _ w hn k => ⟨_, v_load rfl (k.fx 7 h40) (l_two Tryd.isAgg23 Tryd.sizeOf23 (hb63.new_ hn)), rfl⟩) ?_
        refine .o1 (cg rfl rfl rfl (fun _ _ k => k.eq1 9 22 rfl) rfl (fun _ w hn k => ⟨#[nv (asM b)], args1 (k.eq1 10 23 rfl), fun _ => by kernel_rfl, rinf_c (asM b) _⟩) fun _ => congrArg Value.bool ht172) ?_
        refine .o1 (tg rfl rfl rfl (fun _ _ k => k.eq1 6 19 rfl) fun _ w hn k => ⟨_, v_pickT rfl (k.eq1 9 22 rfl) (k.eq1 11 24 rfl), rfl⟩) ?_
        refine .o1 (tg rfl rfl rfl (fun _ _ k => k.eq1 6 19 rfl) fun _ w hn k => ⟨_, v_move rfl (k.eq1 12 25 rfl), rfl⟩) ?_
        refine .o1 (tg rfl rfl rfl (fun _ _ k => k.eq1 13 26 rfl) fun _ w hn k => ⟨_, v_field rfl (k.fx 6 h36) (fun w => rfl), rfl⟩) ?_
        refine .o1 (tg rfl rfl rfl (fun _ _ k => k.eq1 13 26 rfl) fun _ w hn k => ⟨_, v_load rfl (k.eq1 14 27 rfl) (l_one Tryd.isAgg3 ((hb69.new_ hn).cell 0)), rfl⟩) ?_
        refine .o1 (tg rfl rfl rfl (fun _ _ k => k.eq1 13 26 rfl) fun _ w hn k => ⟨_, v_field rfl (k.fx 7 h40) (fun w => rfl), rfl⟩) ?_
        refine .o1 (tg rfl rfl rfl (fun _ _ k => k.eq1 13 26 rfl) fun _ w hn k => ⟨_, v_load rfl (k.eq1 16 29 rfl) (l_one Tryd.isAgg3 ((hb63.new_ hn).cell 0)), rfl⟩) ?_
        refine .o1 (tg rfl rfl rfl (fun _ _ k => k.eq1 13 26 rfl) fun _ w hn k => ⟨_, v_bin rfl (k.eq1 15 28 rfl) (k.eq1 17 30 rfl) (fun _ => rfl) (r_neq ht173), rfl⟩) ?_
        refine .o1 (tg rfl rfl rfl (fun _ _ k => k.eq1 6 19 rfl) fun _ w hn k => ⟨_, v_pickT rfl (k.eq1 13 26 rfl) (k.eq1 18 31 rfl), rfl⟩) ?_
        refine .o1 (tk rfl rfl fun _ w hn k => ⟨_, v_pickF rfl (k.eq1 6 19 rfl) (k.eq1 19 32 rfl), rfl⟩) ?_
        refine .o1 (tk rfl rfl fun _ w hn k => ⟨_, v_assign rfl (k.eq1 20 33 rfl), rfl⟩) ?_
        exact .nil
      intro a238 w239 hn240 ha241
      have hs242 := ha241.size.trans hs30
      have hd243 := ha241.defers.trans hd31
      have h244 := ha241.fx 4 h32
      have h245 := ha241.fx 5 h33
      have h246 := ha241.fx 6 h36
      have h247 := ha241.fx 7 h40
      have h248 := ha241.ge 21 12 rfl
      have hb249 := hb68.new_ hn240
      have hb250 := hb69.new_ hn240
      have hb251 := hb63.new_ hn240
      have hN252 := hN70.transNew hn240
      clear hs30 hd31 h32 h33 h36 h40 hb68 hb69 hb63 hN70 ha241 hn240
      refine st_nil ?_
      refine hK _ _ ?_
      clear hK K
      refine wp_cond_true h248 ?_
      refine wp_seq_k fun K hK => ?_
      refine wp_g0 [true, false, false] [(1, false), (2, true)] 61
        [ve (nv (Nm.mk 2 0)),
         vt,
         vt] hs242 (.eq (.tt (.tt (.nil)))) ?_ ?_
      · skip
        refine .o1 (ck rfl rfl rfl (fun _ w hn k => ⟨#[], rfl, fun _ => by kernel_rfl, rNaN_c  _⟩) fun _ => rfl) ?_
        refine .off ?_
        refine .off ?_
        exact .nil
      intro a253 w254 hn255 ha256
      have hs257 := ha256.size.trans hs242
      have hd258 := ha256.defers.trans hd243
      have h259 := ha256.fx 4 h244
      have h260 := ha256.fx 5 h245
      have h261 := ha256.fx 6 h246
      have h262 := ha256.fx 7 h247
      have h263 := ha256.ge 0 34 rfl
      have hb264 := hb249.new_ hn255
      have hb265 := hb250.new_ hn255
      have hb266 := hb251.new_ hn255
      have hN267 := hN252.transNew hn255
      clear hs242 hd243 h244 h245 h246 h247 h248 hb249 hb250 hb251 hN252 ha256 hn255
      obtain ⟨w268, -, hst269, hb270, hu271, hf272⟩ := s_two (v0 := iv 2) (v1 := iv 0) Tryd.sizeOf23 rfl rfl rfl hb264
      refine st_act rfl rfl fun K273 hL274 => a_store' rfl h259 h263 hst269 (hL274 _ _ trivial ?_)
      have hb275 := hf272 _ _ _ (fun h => hne46 h.symm) hb265
      have hb276 := hf272 _ _ _ (fun h => hne47 h.symm) hb266
      have hN277 := hN267.trans hu271 (fun k hk hkb => by subst hkb; omega)
      clear hb264 hst269 K273 hL274 hN267 hb265 hb266 hu271 hf272
      refine st_take rfl rfl (y_assign (v := .bool true) rfl rfl) rfl ?_
      obtain ⟨a278, ha279⟩ : ∃ a', a' = a253.put (some 5) (.bool true) := ⟨_, rfl⟩
      have hs280 : a278.tmps.size = 61 := by rw [ha279, put_size]; exact hs257
      have hd281 : a278.defers = [] := by rw [ha279, put_defers]; exact hd258
      have h282 : a278.eval (.tmp 4) = pv q16 := by rw [ha279, put_ne _ _ _ _ (by decide)]; exact h259
      have h283 : a278.eval (.tmp 6) = pv q37 := by rw [ha279, put_ne _ _ _ _ (by decide)]; exact h261
      have h284 : a278.eval (.tmp 7) = pv q41 := by rw [ha279, put_ne _ _ _ _ (by decide)]; exact h262
      have h285 : a278.eval (.tmp 34) = nv (Nm.mk 2 0) := by rw [ha279, put_ne _ _ _ _ (by decide)]; exact h263
      have h286 : a278.eval (.tmp 5) = .bool true := by rw [ha279]; exact put_same _ _ _ (by rw [hs257]; decide)
      show stepsTo _ _ _ _ _ (a253.put (some 5) (.bool true)) _
      rw [← ha279]
      clear ha279 hs257 hd258 h259 h260 h261 h262 h263
      refine st_nil ?_
      clear h285
      refine hK _ _ ?_
      clear hK K
      refine wp_ret (ret_k hd281 (v := .tuple #[nv (Nm.mk 2 0), .bool true]) (res_ct rfl h282 h286 (l_two Tryd.isAgg23 Tryd.sizeOf23 hb270)) ?_)
      refine ⟨?_, hN277⟩
      show Ending.returned (.tuple #[nv (Nm.mk 2 0), .bool true]) = Ending.returned (.tuple #[nv ((addM a b).1), .bool ((addM a b).2)])
      first | rfl | (simp [addM, addA, ht71, ht121, ht171, ht172, ht173])
    refine wp_g0 [true, true, true, true, true, true, true, true, true, true, true, true, true, true, true, true, true, true, true, true, true, true] [] 61
      [ve (nv (asM a)),
       ve (.bool false),
       ve (.bool false),
       ve (nv (asM b)),
       ve (.bool false),
       ve (.bool false),
       ve (.bool false),
       ve (nv (asM a)),
       ve (.bool true),
       ve (.bool true),
       ve (nv (asM b)),
       ve (.bool false),
       ve (.bool false),
       ve (.bool false),
       ve undef,
       ve undef,
       ve undef,
       ve undef,
       ve undef,
       ve (.bool false),
       ve (.bool false),
       ve (.bool false)] hs30 (.eq (.eq (.eq (.eq (.eq (.eq (.eq (.eq (.eq (.eq (.eq (.eq (.eq (.eq (.eq (.eq (.eq (.eq (.eq (.eq (.eq (.eq (.nil))))))))))))))))))))))) ?_ ?_
    · skip
      refine .o1 (tk rfl rfl fun _ w hn k => ⟨_, v_load rfl (k.fx 6 h36) (l_two Tryd.isAgg23 Tryd.sizeOf23 (hb69.new_ hn)), rfl⟩) ?_
      refine .o1 (ck rfl rfl rfl (fun _ w hn k => ⟨#[nv (asM a)], args1 (k.eq1 0 13 rfl), fun _ => by kernel_rfl, rnan_c (asM a) _⟩) fun _ => congrArg Value.bool ht71) ?_
      refine .o1 (tk rfl rfl fun _ w hn k => ⟨_, v_move rfl (k.eq1 1 14 rfl), rfl⟩) ?_
      refine .o1 (tg rfl rfl rfl (fun _ _ k => k.eq1 2 15 rfl) fun _ w hn k => ⟨_, v_load rfl (k.fx 7 h40) (l_two Tryd.isAgg23 Tryd.sizeOf23 (hb63.new_ hn)), rfl⟩) ?_
      refine .o1 (cg rfl rfl rfl (fun _ _ k => k.eq1 2 15 rfl) rfl (fun _ w hn k => ⟨#[nv (asM b)], args1 (k.eq1 3 16 rfl), fun _ => by kernel_rfl, rnan_c (asM b) _⟩) fun _ => congrArg Value.bool ht121) ?_
      refine .o1 (tk rfl rfl fun _ w hn k => ⟨_, v_pickF rfl (k.eq1 2 15 rfl) (k.eq1 4 17 rfl), rfl⟩) ?_
      refine .o1 (tk rfl rfl fun _ w hn k => ⟨_, v_move rfl (k.eq1 5 18 rfl), rfl⟩) ?_
      refine .o1 (tg rfl rfl rfl (fun _ _ k => k.eq1 6 19 rfl) fun _ w hn k => ⟨_, v_load rfl (k.fx 6 h36) (l_two Tryd.isAgg23 Tryd.sizeOf23 (hb69.new_ hn)), rfl⟩) ?_
      refine .o1 (cg rfl rfl rfl (fun _ _ k => k.eq1 6 19 rfl) rfl (fun _ w hn k => ⟨#[nv (asM a)], args1 (k.eq1 7 20 rfl), fun _ => by kernel_rfl, rinf_c (asM a) _⟩) fun _ => congrArg Value.bool ht171) ?_
      refine .o1 (tg rfl rfl rfl (fun _ _ k => k.eq1 6 19 rfl) fun _ w hn k => ⟨_, v_move rfl (k.eq1 8 21 rfl), rfl⟩) ?_
      refine .o1 (tg rfl rfl rfl (fun _ _ k => k.eq1 9 22 rfl) fun _ w hn k => ⟨_, v_load rfl (k.fx 7 h40) (l_two Tryd.isAgg23 Tryd.sizeOf23 (hb63.new_ hn)), rfl⟩) ?_
      refine .o1 (cg rfl rfl rfl (fun _ _ k => k.eq1 9 22 rfl) rfl (fun _ w hn k => ⟨#[nv (asM b)], args1 (k.eq1 10 23 rfl), fun _ => by kernel_rfl, rinf_c (asM b) _⟩) fun _ => congrArg Value.bool ht172) ?_
      refine .o1 (tg rfl rfl rfl (fun _ _ k => k.eq1 6 19 rfl) fun _ w hn k => ⟨_, v_pickT rfl (k.eq1 9 22 rfl) (k.eq1 11 24 rfl), rfl⟩) ?_
      refine .o1 (tg rfl rfl rfl (fun _ _ k => k.eq1 6 19 rfl) fun _ w hn k => ⟨_, v_move rfl (k.eq1 12 25 rfl), rfl⟩) ?_
      refine .o1 (sk rfl rfl rfl (fun _ _ _ k => k.eq1 13 26 rfl) (fun _ => rfl)) ?_
      refine .o1 (sk rfl rfl rfl (fun _ _ _ k => k.eq1 13 26 rfl) (fun _ => rfl)) ?_
      refine .o1 (sk rfl rfl rfl (fun _ _ _ k => k.eq1 13 26 rfl) (fun _ => rfl)) ?_
      refine .o1 (sk rfl rfl rfl (fun _ _ _ k => k.eq1 13 26 rfl) (fun _ => rfl)) ?_
      refine .o1 (sk rfl rfl rfl (fun _ _ _ k => k.eq1 13 26 rfl) (fun _ => rfl)) ?_
      refine .o1 (tg rfl rfl rfl (fun _ _ k => k.eq1 6 19 rfl) fun _ w hn k => ⟨_, v_pickF rfl (k.eq1 13 26 rfl) rfl, rfl⟩) ?_
      refine .o1 (tk rfl rfl fun _ w hn k => ⟨_, v_pickF rfl (k.eq1 6 19 rfl) (k.eq1 19 32 rfl), rfl⟩) ?_
      refine .o1 (tk rfl rfl fun _ w hn k => ⟨_, v_assign rfl (k.eq1 20 33 rfl), rfl⟩) ?_
      exact .nil
    intro a287 w288 hn289 ha290
    have hs291 := ha290.size.trans hs30
    have hd292 := ha290.defers.trans hd31
    have h293 := ha290.fx 4 h32
    have h294 := ha290.fx 5 h33
    have h295 := ha290.fx 6 h36
    have h296 := ha290.fx 7 h40
    have h297 := ha290.ge 21 12 rfl
    have hb298 := hb68.new_ hn289
    have hb299 := hb69.new_ hn289
    have hb300 := hb63.new_ hn289
    have hN301 := hN70.transNew hn289
    clear hs30 hd31 h32 h33 h36 h40 hb68 hb69 hb63 hN70 ha290 hn289
    refine st_nil ?_
    refine hK _ _ ?_
    clear hK K
    refine wp_cond_false h297 ?_
    refine wp_seq_k fun K hK => ?_
    refine wp_g0 [true, true, true] [] 61
      [ve (nv (asM a)),
       ve (.bool true),
       ve (.bool true)] hs291 (.eq (.eq (.eq (.nil)))) ?_ ?_
    · skip
      refine .o1 (tk rfl rfl fun _ w hn k => ⟨_, v_load rfl (k.fx 6 h295) (l_two Tryd.isAgg23 Tryd.sizeOf23 (hb299.new_ hn)), rfl⟩) ?_
      refine .o1 (ck rfl rfl rfl (fun _ w hn k => ⟨#[nv (asM a)], args1 (k.eq1 0 36 rfl), fun _ => by kernel_rfl, rinf_c (asM a) _⟩) fun _ => congrArg Value.bool ht171) ?_
      refine .o1 (tk rfl rfl fun _ w hn k => ⟨_, v_assign rfl (k.eq1 1 37 rfl), rfl⟩) ?_
      exact .nil
    intro a302 w303 hn304 ha305
    have hs306 := ha305.size.trans hs291
    have hd307 := ha305.defers.trans hd292
    have h308 := ha305.fx 4 h293
    have h309 := ha305.fx 5 h294
    have h310 := ha305.fx 6 h295
    have h311 := ha305.fx 7 h296
    have h312 := ha305.ge 2 35 rfl
    have hb313 := hb298.new_ hn304
    have hb314 := hb299.new_ hn304
    have hb315 := hb300.new_ hn304
    have hN316 := hN301.transNew hn304
    clear hs291 hd292 h293 h294 h295 h296 h297 hb298 hb299 hb300 hN301 ha305 hn304
    refine st_nil ?_
    refine hK _ _ ?_
    clear hK K
    refine wp_cond_true h312 ?_
    refine wp_seq_k fun K hK => ?_
    refine wp_g0 [true, false, false] [(1, false), (2, true)] 61
      [ve (nv (asM a)),
       vt,
       vt] hs306 (.eq (.tt (.tt (.nil)))) ?_ ?_
    · skip
      refine .o1 (tk rfl rfl fun _ w hn k => ⟨_, v_load rfl (k.fx 6 h310) (l_two Tryd.isAgg23 Tryd.sizeOf23 (hb314.new_ hn)), rfl⟩) ?_
      refine .off ?_
      refine .off ?_
      exact .nil
    intro a317 w318 hn319 ha320
    have hs321 := ha320.size.trans hs306
    have hd322 := ha320.defers.trans hd307
    have h323 := ha320.fx 4 h308
    have h324 := ha320.fx 5 h309
    have h325 := ha320.fx 6 h310
    have h326 := ha320.fx 7 h311
    have h327 := ha320.ge 0 38 rfl
    have hb328 := hb313.new_ hn319
    have hb329 := hb314.new_ hn319
    have hb330 := hb315.new_ hn319
    have hN331 := hN316.transNew hn319
    clear hs306 hd307 h308 h309 h310 h311 h312 hb313 hb314 hb315 hN316 ha320 hn319
    obtain ⟨w332, -, hst333, hb334, hu335, hf336⟩ := s_two (v0 := iv ((asM a).k)) (v1 := iv ((asM a).n)) Tryd.sizeOf23 rfl rfl rfl hb328
    refine st_act rfl rfl fun K337 hL338 => a_store' rfl h323 h327 hst333 (hL338 _ _ trivial ?_)
    have hb339 := hf336 _ _ _ (fun h => hne46 h.symm) hb329
    have hb340 := hf336 _ _ _ (fun h => hne47 h.symm) hb330
    have hN341 := hN331.trans hu335 (fun k hk hkb => by subst hkb; omega)
    clear hb328 hst333 K337 hL338 hN331 hb329 hb330 hu335 hf336
    refine st_take rfl rfl (y_assign (v := .bool true) rfl rfl) rfl ?_
    obtain ⟨a342, ha343⟩ : ∃ a', a' = a317.put (some 5) (.bool true) := ⟨_, rfl⟩
    have hs344 : a342.tmps.size = 61 := by rw [ha343, put_size]; exact hs321
    have hd345 : a342.defers = [] := by rw [ha343, put_defers]; exact hd322
    have h346 : a342.eval (.tmp 4) = pv q16 := by rw [ha343, put_ne _ _ _ _ (by decide)]; exact h323
    have h347 : a342.eval (.tmp 6) = pv q37 := by rw [ha343, put_ne _ _ _ _ (by decide)]; exact h325
    have h348 : a342.eval (.tmp 7) = pv q41 := by rw [ha343, put_ne _ _ _ _ (by decide)]; exact h326
    have h349 : a342.eval (.tmp 38) = nv (asM a) := by rw [ha343, put_ne _ _ _ _ (by decide)]; exact h327
    have h350 : a342.eval (.tmp 5) = .bool true := by rw [ha343]; exact put_same _ _ _ (by rw [hs321]; decide)
    show stepsTo _ _ _ _ _ (a317.put (some 5) (.bool true)) _
    rw [← ha343]
    clear ha343 hs321 hd322 h323 h324 h325 h326 h327
    refine st_nil ?_
    clear h349
    refine hK _ _ ?_
    clear hK K
    refine wp_ret (ret_k hd345 (v := .tuple #[nv (asM a), .bool true]) (res_ct rfl h346 h350 (l_two Tryd.isAgg23 Tryd.sizeOf23 hb334)) ?_)
    refine ⟨?_, hN341⟩
    show Ending.returned (.tuple #[nv (asM a), .bool true]) = Ending.returned (.tuple #[nv ((addM a b).1), .bool ((addM a b).2)])
    first | rfl | (simp [addM, addA, ht71, ht121, ht171, ht172])
  refine wp_g0 [true, true, true, true, true, true, true, true, true, true, true, true, true, true, true, true, true, true, true, true, true, true] [] 61
    [ve (nv (asM a)),
     ve (.bool false),
     ve (.bool false),
     ve (nv (asM b)),
     ve (.bool false),
     ve (.bool false),
     ve (.bool false),
     ve (nv (asM a)),
     ve (.bool false),
     ve (.bool false),
     ve undef,
     ve undef,
     ve (.bool false),
     ve (.bool false),
     ve undef,
     ve undef,
     ve undef,
     ve undef,
     ve undef,
     ve (.bool false),
     ve (.bool false),
     ve (.bool false)] hs30 (.eq (.eq (.eq (.eq (.eq (.eq (.eq (.eq (.eq (.eq (.eq (.eq (.eq (.eq (.eq (.eq (.eq (.eq (.eq (.eq (.eq (.eq (.nil))))))))))))))))))))))) ?_ ?_
  · skip
    refine .o1 (tk rfl rfl fun _ w hn k => ⟨_, v_load rfl (k.fx 6 h36) (l_two Tryd.isAgg23 Tryd.sizeOf23 (hb69.new_ hn)), rfl⟩) ?_
    refine .o1 (ck rfl rfl rfl (fun _ w hn k => ⟨#[nv (asM a)], args1 (k.eq1 0 13 rfl), fun _ => by kernel_rfl, rnan_c (asM a) _⟩) fun _ => congrArg Value.bool ht71) ?_
    refine .o1 (tk rfl rfl fun _ w hn k => ⟨_, v_move rfl (k.eq1 1 14 rfl), rfl⟩) ?_
    refine .o1 (tg rfl rfl rfl (fun _ _ k => k.eq1 2 15 rfl) fun _ w hn k => ⟨_, v_load rfl (k.fx 7 h40) (l_two Tryd.isAgg23 Tryd.sizeOf23 (hb63.new_ hn)), rfl⟩) ?_
    refine .o1 (cg rfl rfl rfl (fun _ _ k => k.eq1 2 15 rfl) rfl (fun _ w hn k => ⟨#[nv (asM b)], args1 (k.eq1 3 16 rfl), fun _ => by kernel_rfl, rnan_c (asM b) _⟩) fun _ => congrArg Value.bool ht121) ?_
    refine .o1 (tk rfl rfl fun _ w hn k => ⟨_, v_pickF rfl (k.eq1 2 15 rfl) (k.eq1 4 17 rfl), rfl⟩) ?_
    refine .o1 (tk rfl rfl fun _ w hn k => ⟨_, v_move rfl (k.eq1 5 18 rfl), rfl⟩) ?_
    refine .o1 (tg rfl rfl rfl (fun _ _ k => k.eq1 6 19 rfl) fun _ w hn k => ⟨_, v_load rfl (k.fx 6 h36) (l_two Tryd.isAgg23 Tryd.sizeOf23 (hb69.new_ hn)), rfl⟩) ?_
    refine .o1 (cg rfl rfl rfl (fun _ _ k => k.eq1 6 19 rfl) rfl (fun _ w hn k => ⟨#[nv (asM a)], args1 (k.eq1 7 20 rfl), fun _ => by kernel_rfl, rinf_c (asM a) _⟩) fun _ => congrArg Value.bool ht171) ?_
    refine .o1 (tg rfl rfl rfl (fun _ _ k => k.eq1 6 19 rfl) fun _ w hn k => ⟨_, v_move rfl (k.eq1 8 21 rfl), rfl⟩) ?_
    refine .o1 (sk rfl rfl rfl (fun _ _ _ k => k.eq1 9 22 rfl) (fun _ => rfl)) ?_
    refine .o1 (sk rfl rfl rfl (fun _ _ _ k => k.eq1 9 22 rfl) (fun _ => rfl)) ?_
    refine .o1 (tg rfl rfl rfl (fun _ _ k => k.eq1 6 19 rfl) fun _ w hn k => ⟨_, v_pickF rfl (k.eq1 9 22 rfl) rfl, rfl⟩) ?_
    refine .o1 (tg rfl rfl rfl (fun _ _ k => k.eq1 6 19 rfl) fun _ w hn k => ⟨_, v_move rfl (k.eq1 12 25 rfl), rfl⟩) ?_
    refine .o1 (sk rfl rfl rfl (fun _ _ _ k => k.eq1 13 26 rfl) (fun _ => rfl)) ?_
    refine .o1 (sk rfl rfl rfl (fun _ _ _ k => k.eq1 13 26 rfl) (fun _ => rfl)) ?_
    refine .o1 (sk rfl rfl rfl (fun _ _ _ k => k.eq1 13 26 rfl) (fun _ => rfl)) ?_
    refine .o1 (sk rfl rfl rfl (fun _ _ _ k => k.eq1 13 26 rfl) (fun _ => rfl)) ?_
    refine .o1 (sk rfl rfl rfl (fun _ _ _ k => k.eq1 13 26 rfl) (fun _ => rfl)) ?_
    refine .o1 (tg rfl rfl rfl (fun _ _ k => k.eq1 6 19 rfl) fun _ w hn k => ⟨_, v_pickF rfl (k.eq1 13 26 rfl) rfl, rfl⟩) ?_
    refine .o1 (tk rfl rfl fun _ w hn k => ⟨_, v_pickF rfl (k.eq1 6 19 rfl) (k.eq1 19 32 rfl), rfl⟩) ?_
    refine .o1 (tk rfl rfl fun _ w hn k => ⟨_, v_assign rfl (k.eq1 20 33 rfl), rfl⟩) ?_
    exact .nil
  intro a351 w352 hn353 ha354
  have hs355 := ha354.size.trans hs30
  have hd356 := ha354.defers.trans hd31
  have h357 := ha354.fx 4 h32
  have h358 := ha354.fx 5 h33
  have h359 := ha354.fx 6 h36
  have h360 := ha354.fx 7 h40
  have h361 := ha354.ge 21 12 rfl
  have hb362 := hb68.new_ hn353
  have hb363 := hb69.new_ hn353
  have hb364 := hb63.new_ hn353
  have hN365 := hN70.transNew hn353
  clear hs30 hd31 h32 h33 h36 h40 hb68 hb69 hb63 hN70 ha354 hn353
  refine st_nil ?_
  refine hK _ _ ?_
  clear hK K
  refine wp_cond_false h361 ?_
  refine wp_seq_k fun K hK => ?_
  refine wp_g0 [true, true, true] [] 61
    [ve (nv (asM a)),
     ve (.bool false),
     ve (.bool false)] hs355 (.eq (.eq (.eq (.nil)))) ?_ ?_
  · skip
    refine .o1 (tk rfl rfl fun _ w hn k => ⟨_, v_load rfl (k.fx 6 h359) (l_two Tryd.isAgg23 Tryd.sizeOf23 (hb363.new_ hn)), rfl⟩) ?_
    refine .o1 (ck rfl rfl rfl (fun _ w hn k => ⟨#[nv (asM a)], args1 (k.eq1 0 36 rfl), fun _ => by kernel_rfl, rinf_c (asM a) _⟩) fun _ => congrArg Value.bool ht171) ?_
    refine .o1 (tk rfl rfl fun _ w hn k => ⟨_, v_assign rfl (k.eq1 1 37 rfl), rfl⟩) ?_
    exact .nil
  intro a366 w367 hn368 ha369
  have hs370 := ha369.size.trans hs355
  have hd371 := ha369.defers.trans hd356
  have h372 := ha369.fx 4 h357
  have h373 := ha369.fx 5 h358
  have h374 := ha369.fx 6 h359
  have h375 := ha369.fx 7 h360
  have h376 := ha369.ge 2 35 rfl
  have hb377 := hb362.new_ hn368
  have hb378 := hb363.new_ hn368
  have hb379 := hb364.new_ hn368
  have hN380 := hN365.transNew hn368
  clear hs355 hd356 h357 h358 h359 h360 h361 hb362 hb363 hb364 hN365 ha369 hn368
  refine st_nil ?_
  refine hK _ _ ?_
  clear hK K
  refine wp_cond_false h376 ?_
  refine wp_seq_k fun K hK => ?_
  refine wp_g0 [true, true, true] [] 61
    [ve (nv (asM b)),
     ve (.bool (infB ((asM b).k))),
     ve (.bool (infB ((asM b).k)))] hs370 (.eq (.eq (.eq (.nil)))) ?_ ?_
  · skip
    refine .o1 (tk rfl rfl fun _ w hn k => ⟨_, v_load rfl (k.fx 7 h375) (l_two Tryd.isAgg23 Tryd.sizeOf23 (hb379.new_ hn)), rfl⟩) ?_
    refine .o1 (ck rfl rfl rfl (fun _ w hn k => ⟨#[nv (asM b)], args1 (k.eq1 0 40 rfl), fun _ => by kernel_rfl, rinf_c (asM b) _⟩) fun _ => rfl) ?_
    refine .o1 (tk rfl rfl fun _ w hn k => ⟨_, v_assign rfl (k.eq1 1 41 rfl), rfl⟩) ?_
    exact .nil
  intro a381 w382 hn383 ha384
  have hs385 := ha384.size.trans hs370
  have hd386 := ha384.defers.trans hd371
  have h387 := ha384.fx 4 h372
  have h388 := ha384.fx 5 h373
  have h389 := ha384.fx 6 h374
  have h390 := ha384.fx 7 h375
  have h391 := ha384.ge 2 39 rfl
  have hb392 := hb377.new_ hn383
  have hb393 := hb378.new_ hn383
  have hb394 := hb379.new_ hn383
  have hN395 := hN380.transNew hn383
  clear hs370 hd371 h372 h373 h374 h375 h376 hb377 hb378 hb379 hN380 ha384 hn383
  refine st_nil ?_
  refine hK _ _ ?_
  clear hK K
  rcases Bool.eq_false_or_eq_true (infB ((asM b).k)) with ht396 | ht396
  · skip
    have hv397 : a381.eval (.tmp 39) = .bool true := h391.trans (congrArg Value.bool ht396)
    clear h391
    refine wp_cond_true hv397 ?_
    refine wp_seq_k fun K hK => ?_
    refine wp_g0 [true, false, false] [(1, false), (2, true)] 61
      [ve (nv (asM b)),
       vt,
       vt] hs385 (.eq (.tt (.tt (.nil)))) ?_ ?_
    · skip
      refine .o1 (tk rfl rfl fun _ w hn k => ⟨_, v_load rfl (k.fx 7 h390) (l_two Tryd.isAgg23 Tryd.sizeOf23 (hb394.new_ hn)), rfl⟩) ?_
      refine .off ?_
      refine .off ?_
      exact .nil
    intro a398 w399 hn400 ha401
    have hs402 := ha401.size.trans hs385
    have hd403 := ha401.defers.trans hd386
    have h404 := ha401.fx 4 h387
    have h405 := ha401.fx 5 h388
    have h406 := ha401.fx 6 h389
    have h407 := ha401.fx 7 h390
    have h408 := ha401.ge 0 42 rfl
    have hb409 := hb392.new_ hn400
    have hb410 := hb393.new_ hn400
    have hb411 := hb394.new_ hn400
    have hN412 := hN395.transNew hn400
    clear hs385 hd386 h387 h388 h389 h390 hv397 hb392 hb393 hb394 hN395 ha401 hn400
    obtain ⟨w413, -, hst414, hb415, hu416, hf417⟩ := s_two (v0 := iv ((asM b).k)) (v1 := iv ((asM b).n)) Tryd.sizeOf23 rfl rfl rfl hb409
    refine st_act rfl rfl fun K418 hL419 => a_store' rfl h404 h408 hst414 (hL419 _ _ trivial ?_)
    have hb420 := hf417 _ _ _ (fun h => hne46 h.symm) hb410
    have hb421 := hf417 _ _ _ (fun h => hne47 h.symm) hb411
    have hN422 := hN412.trans hu416 (fun k hk hkb => by subst hkb; omega)
    clear hb409 hst414 K418 hL419 hN412 hb410 hb411 hu416 hf417
    refine st_take rfl rfl (y_assign (v := .bool true) rfl rfl) rfl ?_
    obtain ⟨a423, ha424⟩ : ∃ a', a' = a398.put (some 5) (.bool true) := ⟨_, rfl⟩
    have hs425 : a423.tmps.size = 61 := by rw [ha424, put_size]; exact hs402
    have hd426 : a423.defers = [] := by rw [ha424, put_defers]; exact hd403
    have h427 : a423.eval (.tmp 4) = pv q16 := by rw [ha424, put_ne _ _ _ _ (by decide)]; exact h404
    have h428 : a423.eval (.tmp 6) = pv q37 := by rw [ha424, put_ne _ _ _ _ (by decide)]; exact h406
    have h429 : a423.eval (.tmp 7) = pv q41 := by rw [ha424, put_ne _ _ _ _ (by decide)]; exact h407
    have h430 : a423.eval (.tmp 42) = nv (asM b) := by rw [ha424, put_ne _ _ _ _ (by decide)]; exact h408
    have h431 : a423.eval (.tmp 5) = .bool true := by rw [ha424]; exact put_same _ _ _ (by rw [hs402]; decide)
    show stepsTo _ _ _ _ _ (a398.put (some 5) (.bool true)) _
    rw [← ha424]
    clear ha424 hs402 hd403 h404 h405 h406 h407 h408
    refine st_nil ?_
    clear h430
    refine hK _ _ ?_
    clear hK K
    refine wp_ret (ret_k hd426 (v := .tuple #[nv (asM b), .bool true]) (res_ct rfl h427 h431 (l_two Tryd.isAgg23 Tryd.sizeOf23 hb415)) ?_)
    refine ⟨?_, hN422⟩
    show Ending.returned (.tuple #[nv (asM b), .bool true]) = Ending.returned (.tuple #[nv ((addM a b).1), .bool ((addM a b).2)])
    first | rfl | (simp [addM, addA, ht71, ht121, ht171, ht396])
  have hv432 : a381.eval (.tmp 39) = .bool false := h391.trans (congrArg Value.bool ht396)
  clear h391
  refine wp_cond_false hv432 ?_
  refine wp_seq_k fun K hK => ?_
  rcases Bool.eq_false_or_eq_true (decide (((asM a).k) = 1)) with ht433 | ht433
  · skip
    have ht433d := of_decide_eq_true ht433
    refine wp_g0 [true, true, true, true, true, true, true, true, true] [] 61
      [ve (pv q37),
       ve (iv ((asM a).k)),
       ve (.bool true),
       ve (.bool true),
       ve (pv q41),
       ve (iv ((asM b).k)),
       ve (.bool (decide (((asM b).k) = 1))),
       ve (.bool (decide (((asM b).k) = 1))),
       ve (.bool (decide (((asM b).k) = 1)))] hs385 (.eq (.eq (.eq (.eq (.eq (.eq (.eq (.eq (.eq (.nil)))))))))) ?_ ?_
    · skip
      refine .o1 (tk rfl rfl fun _ w hn k => ⟨_, v_field rfl (k.fx 6 h389) (fun w => rfl), rfl⟩) ?_
      refine .o1 (tk rfl rfl fun _ w hn k => ⟨_, v_load rfl (k.eq1 0 44 rfl) (l_one Tryd.isAgg3 ((hb393.new_ hn).cell 0)), rfl⟩) ?_
      refine .o1 (tk rfl rfl fun _ w hn k => ⟨_, v_bin rfl (k.eq1 1 45 rfl) rfl (fun _ => rfl) (r_eql ht433), rfl⟩) ?_
      refine .o1 (tk rfl rfl fun _ w hn k => ⟨_, v_move rfl (k.eq1 2 46 rfl), rfl⟩) ?_
      refine .o1 (tg rfl rfl rfl (fun _ _ k => k.eq1 3 47 rfl) fun _ w hn k => ⟨_, v_field rfl (k.fx 7 h390) (fun w => rfl), rfl⟩) ?_
      refine .o1 (tg rfl rfl rfl (fun _ _ k => k.eq1 3 47 rfl) fun _ w hn k => ⟨_, v_load rfl (k.eq1 4 48 rfl) (l_one Tryd.isAgg3 ((hb394.new_ hn).cell 0)), rfl⟩) ?_
      refine .o1 (tg rfl rfl rfl (fun _ _ k => k.eq1 3 47 rfl) fun _ w hn k => ⟨_, v_bin rfl (k.eq1 5 49 rfl) rfl (fun _ => rfl) (r_eql rfl), rfl⟩) ?_
      refine .o1 (tk rfl rfl fun _ w hn k => ⟨_, v_pickT rfl (k.eq1 3 47 rfl) (k.eq1 6 50 rfl), rfl⟩) ?_
      refine .o1 (tk rfl rfl fun _ w hn k => ⟨_, v_assign rfl (k.eq1 7 51 rfl), rfl⟩) ?_
      exact .nil
    intro a434 w435 hn436 ha437
    have hs438 := ha437.size.trans hs385
    have hd439 := ha437.defers.trans hd386
    have h440 := ha437.fx 4 h387
    have h441 := ha437.fx 5 h388
    have h442 := ha437.fx 6 h389
    have h443 := ha437.fx 7 h390
    have h444 := ha437.ge 8 43 rfl
    have hb445 := hb392.new_ hn436
    have hb446 := hb393.new_ hn436
    have hb447 := hb394.new_ hn436
    have hN448 := hN395.transNew hn436
    clear hs385 hd386 h387 h388 h389 h390 hv432 hb392 hb393 hb394 hN395 ha437 hn436
    refine st_nil ?_
    refine hK _ _ ?_
    clear hK K
    rcases Bool.eq_false_or_eq_true (decide (((asM b).k) = 1)) with ht449 | ht449
    · skip
      have ht449d := of_decide_eq_true ht449
      have hv450 : a434.eval (.tmp 43) = .bool true := h444.trans (congrArg Value.bool ht449)
      clear h444
      refine wp_cond_true hv450 ?_
      refine wp_seq_k fun K hK => ?_
      refine wp_g0 [true, false, false] [(1, false), (2, true)] 61
        [ve (nv (asM a)),
         vt,
         vt] hs438 (.eq (.tt (.tt (.nil)))) ?_ ?_
      · skip
        refine .o1 (tk rfl rfl fun _ w hn k => ⟨_, v_load rfl (k.fx 6 h442) (l_two Tryd.isAgg23 Tryd.sizeOf23 (hb446.new_ hn)), rfl⟩) ?_
        refine .off ?_
        refine .off ?_
        exact .nil
      intro a451 w452 hn453 ha454
      have hs455 := ha454.size.trans hs438
      have hd456 := ha454.defers.trans hd439
      have h457 := ha454.fx 4 h440
      have h458 := ha454.fx 5 h441
      have h459 := ha454.fx 6 h442
      have h460 := ha454.fx 7 h443
      have h461 := ha454.ge 0 52 rfl
      have hb462 := hb445.new_ hn453
      have hb463 := hb446.new_ hn453
      have hb464 := hb447.new_ hn453
      have hN465 := hN448.transNew hn453
      clear hs438 hd439 h440 h441 h442 h443 hv450 hb445 hb446 hb447 hN448 ha454 hn453
      obtain ⟨w466, -, hst467, hb468, hu469, hf470⟩ := s_two (v0 := iv ((asM a).k)) (v1 := iv ((asM a).n)) Tryd.sizeOf23 rfl rfl rfl hb462
      refine st_act rfl rfl fun K471 hL472 => a_store' rfl h457 h461 hst467 (hL472 _ _ trivial ?_)
      have hb473 := hf470 _ _ _ (fun h => hne46 h.symm) hb463
      have hb474 := hf470 _ _ _ (fun h => hne47 h.symm) hb464
      have hN475 := hN465.trans hu469 (fun k hk hkb => by subst hkb; omega)
      clear hb462 hst467 K471 hL472 hN465 hb463 hb464 hu469 hf470
      refine st_take rfl rfl (y_assign (v := .bool true) rfl rfl) rfl ?_
      obtain ⟨a476, ha477⟩ : ∃ a', a' = a451.put (some 5) (.bool true) := ⟨_, rfl⟩
      have hs478 : a476.tmps.size = 61 := by rw [ha477, put_size]; exact hs455
      have hd479 : a476.defers = [] := by rw [ha477, put_defers]; exact hd456
      have h480 : a476.eval (.tmp 4) = pv q16 := by rw [ha477, put_ne _ _ _ _ (by decide)]; exact h457
      have h481 : a476.eval (.tmp 6) = pv q37 := by rw [ha477, put_ne _ _ _ _ (by decide)]; exact h459
      have h482 : a476.eval (.tmp 7) = pv q41 := by rw [ha477, put_ne _ _ _ _ (by decide)]; exact h460
      have h483 : a476.eval (.tmp 52) = nv (asM a) := by rw [ha477, put_ne _ _ _ _ (by decide)]; exact h461
      have h484 : a476.eval (.tmp 5) = .bool true := by rw [ha477]; exact put_same _ _ _ (by rw [hs455]; decide)
      show stepsTo _ _ _ _ _ (a451.put (some 5) (.bool true)) _
      rw [← ha477]
      clear ha477 hs455 hd456 h457 h458 h459 h460 h461
      refine st_nil ?_
      clear h483
      refine hK _ _ ?_
      clear hK K
      refine wp_ret (ret_k hd479 (v := .tuple #[nv (asM a), .bool true]) (res_ct rfl h480 h484 (l_two Tryd.isAgg23 Tryd.sizeOf23 hb468)) ?_)
      refine ⟨?_, hN475⟩
      show Ending.returned (.tuple #[nv (asM a), .bool true]) = Ending.returned (.tuple #[nv ((addM a b).1), .bool ((addM a b).2)])
      first | rfl | (simp [addM, addA, ht71, ht121, ht171, ht396, ht433, ht449])
    have ht449d := of_decide_eq_false ht449
    have hv485 : a434.eval (.tmp 43) = .bool false := h444.trans (congrArg Value.bool ht449)
    clear h444
    refine wp_cond_false hv485 ?_
    refine wp_skip ?_
    refine hK _ _ ?_
    clear hK K
    refine wp_seq_k fun K hK => ?_
    refine wp_g0 [true, true, true, true, true, true, true, true, false, false] [(8, false), (9, true)] 61
      [ve (.pointer (some ⟨q37, 1, none⟩)),
       ve (iv ((asM a).n)),
       ve (.pointer (some ⟨q41, 1, none⟩)),
       ve (iv ((asM b).n)),
       ve (iv (((asM a).n) + ((asM b).n))),
       ve (.tuple #[nv ((ofM (((asM a).n) + ((asM b).n))).1), .bool ((ofM (((asM a).n) + ((asM b).n))).2)]),
       ve (nv ((ofM (((asM a).n) + ((asM b).n))).1)),
       ve (.bool ((ofM (((asM a).n) + ((asM b).n))).2)),
       vt,
       vt] hs438 (.eq (.eq (.eq (.eq (.eq (.eq (.eq (.eq (.tt (.tt (.nil))))))))))) ?_ ?_
    · skip
      refine .o1 (tk rfl rfl fun _ w hn k => ⟨_, v_field rfl (k.fx 6 h442) (fun w => rfl), rfl⟩) ?_
      refine .o1 (tk rfl rfl fun _ w hn k => ⟨_, v_load rfl (k.eq1 0 53 rfl) (l_one Tryd.isAgg3 ((hb446.new_ hn).cell 1)), rfl⟩) ?_
      refine .o1 (tk rfl rfl fun _ w hn k => ⟨_, v_field rfl (k.fx 7 h443) (fun w => rfl), rfl⟩) ?_
      refine .o1 (tk rfl rfl fun _ w hn k => ⟨_, v_load rfl (k.eq1 2 55 rfl) (l_one Tryd.isAgg3 ((hb447.new_ hn).cell 1)), rfl⟩) ?_
      refine .o1 (tk rfl rfl fun _ w hn k => ⟨_, v_bin rfl (k.eq1 1 54 rfl) (k.eq1 3 56 rfl) (fun _ => rfl) (r_add rfl (by omega)), rfl⟩) ?_
      refine .o1 (ck rfl rfl rfl (fun _ w hn k => ⟨#[iv (((asM a).n) + ((asM b).n))], args1 (k.eq1 4 57 rfl), fun _ => by kernel_rfl, rof_c (((asM a).n) + ((asM b).n)) _⟩) fun _ => rfl) ?_
      refine .o1 (tk rfl rfl fun _ w hn k => ⟨_, v_extract rfl (k.eq1 5 58 rfl) rfl, rfl⟩) ?_
      refine .o1 (tk rfl rfl fun _ w hn k => ⟨_, v_extract rfl (k.eq1 5 58 rfl) rfl, rfl⟩) ?_
      refine .off ?_
      refine .off ?_
      exact .nil
    intro a486 w487 hn488 ha489
    have hs490 := ha489.size.trans hs438
    have hd491 := ha489.defers.trans hd439
    have h492 := ha489.fx 4 h440
    have h493 := ha489.fx 5 h441
    have h494 := ha489.ge 6 59 rfl
    have h495 := ha489.ge 7 60 rfl
    have hb496 := hb445.new_ hn488
    have hN497 := hN448.transNew hn488
    clear hs438 hd439 h440 h441 h442 h443 hv485 hb445 hb446 hq48 hb447 hq49 hN448 ha489 hn488
    obtain ⟨w498, -, hst499, hb500, hu501, hf502⟩ := s_two (v0 := iv ((ofM (((asM a).n) + ((asM b).n))).1.k)) (v1 := iv ((ofM (((asM a).n) + ((asM b).n))).1.n)) Tryd.sizeOf23 rfl rfl rfl hb496
    refine st_act rfl rfl fun K503 hL504 => a_store' rfl h492 h494 hst499 (hL504 _ _ trivial ?_)
    have hN505 := hN497.trans hu501 (fun k hk hkb => by subst hkb; omega)
    clear hb496 hst499 K503 hL504 hN497 hu501 hf502
    refine st_take rfl rfl (y_assign (v := .bool ((ofM (((asM a).n) + ((asM b).n))).2)) rfl h495) rfl ?_
    obtain ⟨a506, ha507⟩ : ∃ a', a' = a486.put (some 5) (.bool ((ofM (((asM a).n) + ((asM b).n))).2)) := ⟨_, rfl⟩
    have hs508 : a506.tmps.size = 61 := by rw [ha507, put_size]; exact hs490
    have hd509 : a506.defers = [] := by rw [ha507, put_defers]; exact hd491
    have h510 : a506.eval (.tmp 4) = pv q16 := by rw [ha507, put_ne _ _ _ _ (by decide)]; exact h492
    have h511 : a506.eval (.tmp 59) = nv ((ofM (((asM a).n) + ((asM b).n))).1) := by rw [ha507, put_ne _ _ _ _ (by decide)]; exact h494
    have h512 : a506.eval (.tmp 60) = .bool ((ofM (((asM a).n) + ((asM b).n))).2) := by rw [ha507, put_ne _ _ _ _ (by decide)]; exact h495
    have h513 : a506.eval (.tmp 5) = .bool ((ofM (((asM a).n) + ((asM b).n))).2) := by rw [ha507]; exact put_same _ _ _ (by rw [hs490]; decide)
    show stepsTo _ _ _ _ _ (a486.put (some 5) (.bool ((ofM (((asM a).n) + ((asM b).n))).2))) _
    rw [← ha507]
    clear ha507 hs490 hd491 h492 h493 h494 h495
    refine st_nil ?_
    clear h511 h512
    refine hK _ _ ?_
    clear hK K
    refine wp_ret (ret_k hd509 (v := .tuple #[nv ((ofM (((asM a).n) + ((asM b).n))).1), .bool ((ofM (((asM a).n) + ((asM b).n))).2)]) (res_ct rfl h510 h513 (l_two Tryd.isAgg23 Tryd.sizeOf23 hb500)) ?_)
    refine ⟨?_, hN505⟩
    show Ending.returned (.tuple #[nv ((ofM (((asM a).n) + ((asM b).n))).1), .bool ((ofM (((asM a).n) + ((asM b).n))).2)]) = Ending.returned (.tuple #[nv ((addM a b).1), .bool ((addM a b).2)])
    first | rfl | (simp [addM, addA, ht71, ht121, ht171, ht396, ht433, ht449])
  have ht433d := of_decide_eq_false ht433
  refine wp_g0 [true, true, true, true, true, true, true, true, true] [] 61
    [ve (pv q37),
     ve (iv ((asM a).k)),
     ve (.bool false),
     ve (.bool false),
     ve undef,
     ve undef,
     ve undef,
     ve (.bool false),
     ve (.bool false)] hs385 (.eq (.eq (.eq (.eq (.eq (.eq (.eq (.eq (.eq (.nil)))))))))) ?_ ?_
  · skip
    refine .o1 (tk rfl rfl fun _ w hn k => ⟨_, v_field rfl (k.fx 6 h389) (fun w => rfl), rfl⟩) ?_
    refine .o1 (tk rfl rfl fun _ w hn k => ⟨_, v_load rfl (k.eq1 0 44 rfl) (l_one Tryd.isAgg3 ((hb393.new_ hn).cell 0)), rfl⟩) ?_
    refine .o1 (tk rfl rfl fun _ w hn k => ⟨_, v_bin rfl (k.eq1 1 45 rfl) rfl (fun _ => rfl) (r_eql ht433), rfl⟩) ?_
    refine .o1 (tk rfl rfl fun _ w hn k => ⟨_, v_move rfl (k.eq1 2 46 rfl), rfl⟩) ?_
    refine .o1 (sk rfl rfl rfl (fun _ _ _ k => k.eq1 3 47 rfl) (fun _ => rfl)) ?_
    refine .o1 (sk rfl rfl rfl (fun _ _ _ k => k.eq1 3 47 rfl) (fun _ => rfl)) ?_
    refine .o1 (sk rfl rfl rfl (fun _ _ _ k => k.eq1 3 47 rfl) (fun _ => rfl)) ?_
    refine .o1 (tk rfl rfl fun _ w hn k => ⟨_, v_pickF rfl (k.eq1 3 47 rfl) rfl, rfl⟩) ?_
    refine .o1 (tk rfl rfl fun _ w hn k => ⟨_, v_assign rfl (k.eq1 7 51 rfl), rfl⟩) ?_
    exact .nil
  intro a514 w515 hn516 ha517
  have hs518 := ha517.size.trans hs385
  have hd519 := ha517.defers.trans hd386
  have h520 := ha517.fx 4 h387
  have h521 := ha517.fx 5 h388
  have h522 := ha517.fx 6 h389
  have h523 := ha517.fx 7 h390
  have h524 := ha517.ge 8 43 rfl
  have hb525 := hb392.new_ hn516
  have hb526 := hb393.new_ hn516
  have hb527 := hb394.new_ hn516
  have hN528 := hN395.transNew hn516
  clear hs385 hd386 h387 h388 h389 h390 hv432 hb392 hb393 hb394 hN395 ha517 hn516
  refine st_nil ?_
  refine hK _ _ ?_
  clear hK K
  refine wp_cond_false h524 ?_
  refine wp_skip ?_
  refine hK _ _ ?_
  clear hK K
  refine wp_seq_k fun K hK => ?_
  refine wp_g0 [true, true, true, true, true, true, true, true, false, false] [(8, false), (9, true)] 61
    [ve (.pointer (some ⟨q37, 1, none⟩)),
     ve (iv ((asM a).n)),
     ve (.pointer (some ⟨q41, 1, none⟩)),
     ve (iv ((asM b).n)),
     ve (iv (((asM a).n) + ((asM b).n))),
     ve (.tuple #[nv ((ofM (((asM a).n) + ((asM b).n))).1), .bool ((ofM (((asM a).n) + ((asM b).n))).2)]),
     ve (nv ((ofM (((asM a).n) + ((asM b).n))).1)),
     ve (.bool ((ofM (((asM a).n) + ((asM b).n))).2)),
     vt,
     vt] hs518 (.eq (.eq (.eq (.eq (.eq (.eq (.eq (.eq (.tt (.tt (.nil))))))))))) ?_ ?_
  · skip
    refine .o1 (tk rfl rfl fun _ w hn k => ⟨_, v_field rfl (k.fx 6 h522) (fun w => rfl), rfl⟩) ?_
    refine .o1 (tk rfl rfl fun _ w hn k => ⟨_, v_load rfl (k.eq1 0 53 rfl) (l_one Tryd.isAgg3 ((hb526.new_ hn).cell 1)), rfl⟩) ?_
    refine .o1 (tk rfl rfl fun _ w hn k => ⟨_, v_field rfl (k.fx 7 h523) (fun w => rfl), rfl⟩) ?_
    refine .o1 (tk rfl rfl fun _ w hn k => ⟨_, v_load rfl (k.eq1 2 55 rfl) (l_one Tryd.isAgg3 ((hb527.new_ hn).cell 1)), rfl⟩) ?_
    refine .o1 (tk rfl rfl fun _ w hn k => ⟨_, v_bin rfl (k.eq1 1 54 rfl) (k.eq1 3 56 rfl) (fun _ => rfl) (r_add rfl (by omega)), rfl⟩) ?_
    refine .o1 (ck rfl rfl rfl (fun _ w hn k => ⟨#[iv (((asM a).n) + ((asM b).n))], args1 (k.eq1 4 57 rfl), fun _ => by kernel_rfl, rof_c (((asM a).n) + ((asM b).n)) _⟩) fun _ => rfl) ?_
    refine .o1 (tk rfl rfl fun _ w hn k => ⟨_, v_extract rfl (k.eq1 5 58 rfl) rfl, rfl⟩) ?_
    refine .o1 (tk rfl rfl fun _ w hn k => ⟨_, v_extract rfl (k.eq1 5 58 rfl) rfl, rfl⟩) ?_
    refine .off ?_
    refine .off ?_
    exact .nil
  intro a529 w530 hn531 ha532
  have hs533 := ha532.size.trans hs518
  have hd534 := ha532.defers.trans hd519
  have h535 := ha532.fx 4 h520
  have h536 := ha532.fx 5 h521
  have h537 := ha532.ge 6 59 rfl
  have h538 := ha532.ge 7 60 rfl
  have hb539 := hb525.new_ hn531
  have hN540 := hN528.transNew hn531
  clear hs518 hd519 h520 h521 h522 h523 h524 hb525 hb526 hq48 hb527 hq49 hN528 ha532 hn531
  obtain ⟨w541, -, hst542, hb543, hu544, hf545⟩ := s_two (v0 := iv ((ofM (((asM a).n) + ((asM b).n))).1.k)) (v1 := iv ((ofM (((asM a).n) + ((asM b).n))).1.n)) Tryd.sizeOf23 rfl rfl rfl hb539
  refine st_act rfl rfl fun K546 hL547 => a_store' rfl h535 h537 hst542 (hL547 _ _ trivial ?_)
  have hN548 := hN540.trans hu544 (fun k hk hkb => by subst hkb; omega)
  clear hb539 hst542 K546 hL547 hN540 hu544 hf545
  refine st_take rfl rfl (y_assign (v := .bool ((ofM (((asM a).n) + ((asM b).n))).2)) rfl h538) rfl ?_
  obtain ⟨a549, ha550⟩ : ∃ a', a' = a529.put (some 5) (.bool ((ofM (((asM a).n) + ((asM b).n))).2)) := ⟨_, rfl⟩
  have hs551 : a549.tmps.size = 61 := by rw [ha550, put_size]; exact hs533
  have hd552 : a549.defers = [] := by rw [ha550, put_defers]; exact hd534
  have h553 : a549.eval (.tmp 4) = pv q16 := by rw [ha550, put_ne _ _ _ _ (by decide)]; exact h535
  have h554 : a549.eval (.tmp 59) = nv ((ofM (((asM a).n) + ((asM b).n))).1) := by rw [ha550, put_ne _ _ _ _ (by decide)]; exact h537
  have h555 : a549.eval (.tmp 60) = .bool ((ofM (((asM a).n) + ((asM b).n))).2) := by rw [ha550, put_ne _ _ _ _ (by decide)]; exact h538
  have h556 : a549.eval (.tmp 5) = .bool ((ofM (((asM a).n) + ((asM b).n))).2) := by rw [ha550]; exact put_same _ _ _ (by rw [hs533]; decide)
  show stepsTo _ _ _ _ _ (a529.put (some 5) (.bool ((ofM (((asM a).n) + ((asM b).n))).2))) _
  rw [← ha550]
  clear ha550 hs533 hd534 h535 h536 h537 h538
  refine st_nil ?_
  clear h554 h555
  refine hK _ _ ?_
  clear hK K
  refine wp_ret (ret_k hd552 (v := .tuple #[nv ((ofM (((asM a).n) + ((asM b).n))).1), .bool ((ofM (((asM a).n) + ((asM b).n))).2)]) (res_ct rfl h553 h556 (l_two Tryd.isAgg23 Tryd.sizeOf23 hb543)) ?_)
  refine ⟨?_, hN548⟩
  show Ending.returned (.tuple #[nv ((ofM (((asM a).n) + ((asM b).n))).1), .bool ((ofM (((asM a).n) + ((asM b).n))).2)]) = Ending.returned (.tuple #[nv ((addM a b).1), .bool ((addM a b).2)])
  first | rfl | (simp [addM, addA, ht71, ht121, ht171, ht396, ht433])
set_option maxHeartbeats 4000000 in
set_option maxRecDepth 100000 in
theorem rneg0_c (a : Nm) (w : World) : Calls Tryd.prog 49 #[nv a] w (IsRet (nv (rNegM a)) w) := by
  refine enter_abs Tryd.func49 rfl fun a0 hs0 hd0 hp => ?_
  have hs0 : a0.tmps.size = 27 := hs0
  have hN0 : New w w := Upd.refl _ _
  have hp0 : a0.eval (.tmp 0) = nv a := hp 0 _ rfl
  clear hp
  refine wp_seq_k fun K hK => ?_
  refine wp_g [true, true] [] [] 27
    [IsNew w 23 [iv a.k, iv a.n],
     IsNew w 23 [iv 0, iv 0]]
    [0, 1] (newsCons (fun v w h => IsNew.old h) (newsCons (fun v w h => IsNew.old h) newsNil)) hs0 (.nw (.nw (.nil))) ?_ (fun i h => by cases h) ?_
  · skip
    refine .o2 (step_allocN (cs := [iv a.k, iv a.n]) (t := 23) rfl (noG rfl) (fun _ w hn k => v_box rfl (k.fx 0 hp0) (fun w => rfl)) (fun q _ hq hb => ⟨q, rfl, hq, hb⟩)) ?_
    refine .o2 (step_allocN (cs := [iv 0, iv 0]) (t := 23) rfl (noG rfl) (fun _ w hn k => rfl) (fun q _ hq hb => ⟨q, rfl, hq, hb⟩)) ?_
    exact .nil
  intro a1 w2 hn3 ha4
  have hs5 := ha4.size.trans hs0
  have hd6 := ha4.defers.trans hd0
  obtain ⟨q8, h7, hq9, hb10⟩ : IsNew _ _ _ _ _ := ha4.got 0 1 rfl (by kernel_rfl)
  obtain ⟨q12, h11, hq13, hb14⟩ : IsNew _ _ _ _ _ := ha4.got 1 2 rfl (by kernel_rfl)
  have hne15 : q8 ≠ q12 := ha4.ne 0 1 1 2 h7 h11
  have hq16 := Nat.le_trans hN0.size hq9
  have hq17 := Nat.le_trans hN0.size hq13
  have hN18 := hN0.transNew hn3
  clear hs0 hd0 hp0 hq9 hq13 hN0 ha4 hn3
  refine st_nil ?_
  refine hK _ _ ?_
  clear hK K
  refine wp_seq_k fun K hK => ?_
  refine wp_g [true, true, true, false] [] [(3, false)] 27
    [ve (nv a),
     ve (nv (asM a)),
     IsNew w2 23 [iv 0, iv 0],
     vt]
    [2] (newsCons (fun v w h => IsNew.old h) newsNil) hs5 (.eq (.eq (.nw (.tt (.nil))))) ?_ (fun i h => by cases h) ?_
  · skip
    refine .o1 (tk rfl rfl fun _ w hn k => ⟨_, v_load rfl (k.fx 1 h7) (l_two Tryd.isAgg23 Tryd.sizeOf23 (hb10.new_ hn)), rfl⟩) ?_
    refine .o1 (ck rfl rfl rfl (fun _ w hn k => ⟨#[nv a], args1 (k.eq1 0 4 rfl), fun _ => by kernel_rfl, good_c a _⟩) fun _ => rfl) ?_
    refine .o2 (step_allocN (cs := [iv 0, iv 0]) (t := 23) rfl (noG rfl) (fun _ w hn k => rfl) (fun q _ hq hb => ⟨q, rfl, hq, hb⟩)) ?_
    refine .off ?_
    exact .nil
  intro a19 w20 hn21 ha22
  have hs23 := ha22.size.trans hs5
  have hd24 := ha22.defers.trans hd6
  have h25 := ha22.fx 2 h11
  have h26 := ha22.ge 1 5 rfl
  obtain ⟨q28, h27, hq29, hb30⟩ : IsNew _ _ _ _ _ := ha22.got 2 3 rfl (by kernel_rfl)
  have hb31 := hb14.new_ hn21
  have hne32 : q12 ≠ q28 := by have h1 := hb14.lt; have h2 := hq29; omega
  have hq33 := Nat.le_trans hN18.size hq29
  have hN34 := hN18.transNew hn21
  clear hs5 hd6 h7 h11 hb10 hq16 hb14 hq29 hN18 ha22 hn21
  have hbd_a := as_bd a
  obtain ⟨w35, -, hst36, hb37, hu38, hf39⟩ := s_two (v0 := iv ((asM a).k)) (v1 := iv ((asM a).n)) Tryd.sizeOf23 rfl rfl rfl hb30
  refine st_act rfl rfl fun K40 hL41 => a_store' rfl h27 h26 hst36 (hL41 _ _ trivial ?_)
  have hb42 := hf39 _ _ _ (hne32) hb31
  have hN43 := hN34.trans hu38 (fun k hk hkb => by subst hkb; omega)
  clear hb30 hst36 K40 hL41 hN34 hb31 hu38 hf39
  refine st_nil ?_
  clear h26
  refine hK _ _ ?_
  clear hK K
  refine wp_seq_k fun K hK => ?_
  refine wp_block ?_
  refine wp_seq_k fun K hK => ?_
  refine wp_g0 [true, true, true] [] 27
    [ve (nv (asM a)),
     ve (.bool (decide (((asM a).k) = 2))),
     ve (.bool (decide (((asM a).k) = 2)))] hs23 (.eq (.eq (.eq (.nil)))) ?_ ?_
  · skip
    refine .o1 (tk rfl rfl fun _ w hn k => ⟨_, v_load rfl (k.fx 3 h27) (l_two Tryd.isAgg23 Tryd.sizeOf23 (hb37.new_ hn)), rfl⟩) ?_
    refine .o1 (ck rfl rfl rfl (fun _ w hn k => ⟨#[nv (asM a)], args1 (k.eq1 0 7 rfl), fun _ => by kernel_rfl, rnan_c (asM a) _⟩) fun _ => rfl) ?_
    refine .o1 (tk rfl rfl fun _ w hn k => ⟨_, v_assign rfl (k.eq1 1 8 rfl), rfl⟩) ?_
    exact .nil
  intro a44 w45 hn46 ha47
  have hs48 := ha47.size.trans hs23
  have hd49 := ha47.defers.trans hd24
  have h50 := ha47.fx 2 h25
  have h51 := ha47.fx 3 h27
  have h52 := ha47.ge 2 6 rfl
  have hb53 := hb42.new_ hn46
  have hb54 := hb37.new_ hn46
  have hN55 := hN43.transNew hn46
  clear hs23 hd24 h25 h27 hb42 hb37 hN43 ha47 hn46
  refine st_nil ?_
  refine hK _ _ ?_
  clear hK K
  rcases Bool.eq_false_or_eq_true (decide (((asM a).k) = 2)) with ht56 | ht56
  · skip
    have ht56d := of_decide_eq_true ht56
    have hv57 : a44.eval (.tmp 6) = .bool true := h52.trans (congrArg Value.bool ht56)
    clear h52
    refine wp_cond_true hv57 ?_
    refine wp_seq_k fun K hK => ?_
    refine wp_g0 [true, false] [(1, false)] 27
      [ve (nv (asM a)),
       vt] hs48 (.eq (.tt (.nil))) ?_ ?_
    · skip
      refine .o1 (tk rfl rfl fun _ w hn k => ⟨_, v_load rfl (k.fx 3 h51) (l_two Tryd.isAgg23 Tryd.sizeOf23 (hb54.new_ hn)), rfl⟩) ?_
      refine .off ?_
      exact .nil
    intro a58 w59 hn60 ha61
    have hs62 := ha61.size.trans hs48
    have hd63 := ha61.defers.trans hd49
    have h64 := ha61.fx 2 h50
    have h65 := ha61.fx 3 h51
    have h66 := ha61.ge 0 9 rfl
    have hb67 := hb53.new_ hn60
    have hb68 := hb54.new_ hn60
    have hN69 := hN55.transNew hn60
    clear hs48 hd49 h50 h51 hv57 hb53 hb54 hN55 ha61 hn60
    obtain ⟨w70, -, hst71, hb72, hu73, hf74⟩ := s_two (v0 := iv ((asM a).k)) (v1 := iv ((asM a).n)) Tryd.sizeOf23 rfl rfl rfl hb67
    refine st_act rfl rfl fun K75 hL76 => a_store' rfl h64 h66 hst71 (hL76 _ _ trivial ?_)
    have hb77 := hf74 _ _ _ (fun h => hne32 h.symm) hb68
    have hN78 := hN69.trans hu73 (fun k hk hkb => by subst hkb; omega)
    clear hb67 hst71 K75 hL76 hN69 hb68 hu73 hf74
    refine st_nil ?_
    clear h66
    refine hK _ _ ?_
    clear hK K
    refine wp_ret (ret_k hd63 (v := nv (asM a)) (res_c rfl h64 (l_two Tryd.isAgg23 Tryd.sizeOf23 hb72)) ?_)
    refine ⟨?_, hN78⟩
    show Ending.returned (nv (asM a)) = Ending.returned (nv (rNegM a))
    first | rfl | (simp [rNegM, ht56])
  have ht56d := of_decide_eq_false ht56
  have hv79 : a44.eval (.tmp 6) = .bool false := h52.trans (congrArg Value.bool ht56)
  clear h52
  refine wp_cond_false hv79 ?_
  refine wp_seq_k fun K hK => ?_
  rcases Bool.eq_false_or_eq_true (infB ((asM a).k)) with ht80 | ht80
  · skip
    refine wp_g0 [true, true, true, true, true, true, true] [] 27
      [ve (nv (asM a)),
       ve (.bool true),
       ve (.bool true),
       ve undef,
       ve undef,
       ve (.bool true),
       ve (.bool true)] hs48 (.eq (.eq (.eq (.eq (.eq (.eq (.eq (.nil)))))))) ?_ ?_
    · skip
      refine .o1 (tk rfl rfl fun _ w hn k => ⟨_, v_load rfl (k.fx 3 h51) (l_two Tryd.isAgg23 Tryd.sizeOf23 (hb54.new_ hn)), rfl⟩) ?_
      refine .o1 (ck rfl rfl rfl (fun _ w hn k => ⟨#[nv (asM a)], args1 (k.eq1 0 11 rfl), fun _ => by kernel_rfl, rinf_c (asM a) _⟩) fun _ => congrArg Value.bool ht80) ?_
      refine .o1 (tk rfl rfl fun _ w hn k => ⟨_, v_move rfl (k.eq1 1 12 rfl), rfl⟩) ?_
      refine .o1 (sk rfl rfl rfl (fun _ _ _ k => k.eq1 2 13 rfl) (fun _ => rfl)) ?_
      refine .o1 (sk rfl rfl rfl (fun _ _ _ k => k.eq1 2 13 rfl) (fun _ => rfl)) ?_
      refine .o1 (tk rfl rfl fun _ w hn k => ⟨_, v_pickT rfl (k.eq1 2 13 rfl) rfl, rfl⟩) ?_
      refine .o1 (tk rfl rfl fun _ w hn k => ⟨_, v_assign rfl (k.eq1 5 16 rfl), rfl⟩) ?_
      exact .nil
    intro a81 w82 hn83 ha84
    have hs85 := ha84.size.trans hs48
    have hd86 := ha84.defers.trans hd49
    have h87 := ha84.fx 2 h50
    have h88 := ha84.fx 3 h51
    have h89 := ha84.ge 6 10 rfl
    have hb90 := hb53.new_ hn83
    have hb91 := hb54.new_ hn83
    have hN92 := hN55.transNew hn83
    clear hs48 hd49 h50 h51 hv79 hb53 hb54 hN55 ha84 hn83
    refine st_nil ?_
    refine hK _ _ ?_
    clear hK K
    refine wp_cond_true h89 ?_
    refine wp_seq_k fun K hK => ?_
    rcases Bool.eq_false_or_eq_true (belowB (asM a)) with ht93 | ht93
    · skip
      refine wp_g0 [true, true, true, true, true, true, false] [(6, false)] 27
        [ve (nv (asM a)),
         ve (.bool true),
         ve (nv (asM a)),
         ve (.bool true),
         ve (.bool false),
         ve (nv (signedR true false)),
         vt] hs85 (.eq (.eq (.eq (.eq (.eq (.eq (.tt (.nil)))))))) ?_ ?_
      · skip
        refine .o1 (tk rfl rfl fun _ w hn k => ⟨_, v_load rfl (k.fx 3 h88) (l_two Tryd.isAgg23 Tryd.sizeOf23 (hb91.new_ hn)), rfl⟩) ?_
        refine .o1 (ck rfl rfl rfl (fun _ w hn k => ⟨#[nv (asM a)], args1 (k.eq1 0 17 rfl), fun _ => by kernel_rfl, rinf_c (asM a) _⟩) fun _ => congrArg Value.bool ht80) ?_
        refine .o1 (tk rfl rfl fun _ w hn k => ⟨_, v_load rfl (k.fx 3 h88) (l_two Tryd.isAgg23 Tryd.sizeOf23 (hb91.new_ hn)), rfl⟩) ?_
        refine .o1 (ck rfl rfl rfl (fun _ w hn k => ⟨#[nv (asM a)], args1 (k.eq1 2 19 rfl), fun _ => by kernel_rfl, rbelow_c (asM a) _⟩) fun _ => congrArg Value.bool ht93) ?_
        refine .o1 (tk rfl rfl fun _ w hn k => ⟨_, v_not rfl (k.eq1 3 20 rfl), rfl⟩) ?_
        refine .o1 (ck rfl rfl rfl (fun _ w hn k => ⟨#[.bool true, .bool false], args2 (k.eq1 1 18 rfl) (k.eq1 4 21 rfl), fun _ => by kernel_rfl, rsigned_c true false _⟩) fun _ => rfl) ?_
        refine .off ?_
        exact .nil
      intro a94 w95 hn96 ha97
      have hs98 := ha97.size.trans hs85
      have hd99 := ha97.defers.trans hd86
      have h100 := ha97.fx 2 h87
      have h101 := ha97.fx 3 h88
      have h102 := ha97.ge 5 22 rfl
      have hb103 := hb90.new_ hn96
      have hb104 := hb91.new_ hn96
      have hN105 := hN92.transNew hn96
      clear hs85 hd86 h87 h88 h89 hb90 hb91 hN92 ha97 hn96
      obtain ⟨w106, -, hst107, hb108, hu109, hf110⟩ := s_two (v0 := iv ((signedR true false).k)) (v1 := iv ((signedR true false).n)) Tryd.sizeOf23 rfl rfl rfl hb103
      refine st_act rfl rfl fun K111 hL112 => a_store' rfl h100 h102 hst107 (hL112 _ _ trivial ?_)
      have hb113 := hf110 _ _ _ (fun h => hne32 h.symm) hb104
      have hN114 := hN105.trans hu109 (fun k hk hkb => by subst hkb; omega)
      clear hb103 hst107 K111 hL112 hN105 hb104 hu109 hf110
      refine st_nil ?_
      clear h102
      refine hK _ _ ?_
      clear hK K
      refine wp_ret (ret_k hd99 (v := nv (signedR true false)) (res_c rfl h100 (l_two Tryd.isAgg23 Tryd.sizeOf23 hb108)) ?_)
      refine ⟨?_, hN114⟩
      show Ending.returned (nv (signedR true false)) = Ending.returned (nv (rNegM a))
      first | rfl | (simp [rNegM, ht56, ht80, ht93])
    refine wp_g0 [true, true, true, true, true, true, false] [(6, false)] 27
      [ve (nv (asM a)),
       ve (.bool true),
       ve (nv (asM a)),
       ve (.bool false),
       ve (.bool true),
       ve (nv (signedR true true)),
       vt] hs85 (.eq (.eq (.eq (.eq (.eq (.eq (.tt (.nil)))))))) ?_ ?_
    · skip
      refine .o1 (tk rfl rfl fun _ w hn k => ⟨_, v_load rfl (k.fx 3 h88) (l_two Tryd.isAgg23 Tryd.sizeOf23 (hb91.new_ hn)), rfl⟩) ?_
      refine .o1 (ck rfl rfl rfl (fun _ w hn k => ⟨#[nv (asM a)], args1 (k.eq1 0 17 rfl), fun _ => by kernel_rfl, rinf_c (asM a) _⟩) fun _ => congrArg Value.bool ht80) ?_
      refine .o1 (tk rfl rfl fun _ w hn k => ⟨_, v_load rfl (k.fx 3 h88) (l_two Tryd.isAgg23 Tryd.sizeOf23 (hb91.new_ hn)), rfl⟩) ?_
      refine .o1 (ck rfl rfl rfl (fun _ w hn k => ⟨#[nv (asM a)], args1 (k.eq1 2 19 rfl), fun _ => by kernel_rfl, rbelow_c (asM a) _⟩) fun _ => congrArg Value.bool ht93) ?_
      refine .o1 (tk rfl rfl fun _ w hn k => ⟨_, v_not rfl (k.eq1 3 20 rfl), rfl⟩) ?_
      refine .o1 (ck rfl rfl rfl (fun _ w hn k => ⟨#[.bool true, .bool true], args2 (k.eq1 1 18 rfl) (k.eq1 4 21 rfl), fun _ => by kernel_rfl, rsigned_c true true _⟩) fun _ => rfl) ?_
      refine .off ?_
      exact .nil
    intro a115 w116 hn117 ha118
    have hs119 := ha118.size.trans hs85
    have hd120 := ha118.defers.trans hd86
    have h121 := ha118.fx 2 h87
    have h122 := ha118.fx 3 h88
    have h123 := ha118.ge 5 22 rfl
    have hb124 := hb90.new_ hn117
    have hb125 := hb91.new_ hn117
    have hN126 := hN92.transNew hn117
    clear hs85 hd86 h87 h88 h89 hb90 hb91 hN92 ha118 hn117
    obtain ⟨w127, -, hst128, hb129, hu130, hf131⟩ := s_two (v0 := iv ((signedR true true).k)) (v1 := iv ((signedR true true).n)) Tryd.sizeOf23 rfl rfl rfl hb124
    refine st_act rfl rfl fun K132 hL133 => a_store' rfl h121 h123 hst128 (hL133 _ _ trivial ?_)
    have hb134 := hf131 _ _ _ (fun h => hne32 h.symm) hb125
    have hN135 := hN126.trans hu130 (fun k hk hkb => by subst hkb; omega)
    clear hb124 hst128 K132 hL133 hN126 hb125 hu130 hf131
    refine st_nil ?_
    clear h123
    refine hK _ _ ?_
    clear hK K
    refine wp_ret (ret_k hd120 (v := nv (signedR true true)) (res_c rfl h121 (l_two Tryd.isAgg23 Tryd.sizeOf23 hb129)) ?_)
    refine ⟨?_, hN135⟩
    show Ending.returned (nv (signedR true true)) = Ending.returned (nv (rNegM a))
    first | rfl | (simp [rNegM, ht56, ht80, ht93])
  refine wp_g0 [true, true, true, true, true, true, true] [] 27
    [ve (nv (asM a)),
     ve (.bool false),
     ve (.bool false),
     ve (nv (asM a)),
     ve (.bool (noughtB (asM a))),
     ve (.bool (noughtB (asM a))),
     ve (.bool (noughtB (asM a)))] hs48 (.eq (.eq (.eq (.eq (.eq (.eq (.eq (.nil)))))))) ?_ ?_
  · skip
    refine .o1 (tk rfl rfl fun _ w hn k => ⟨_, v_load rfl (k.fx 3 h51) (l_two Tryd.isAgg23 Tryd.sizeOf23 (hb54.new_ hn)), rfl⟩) ?_
    refine .o1 (ck rfl rfl rfl (fun _ w hn k => ⟨#[nv (asM a)], args1 (k.eq1 0 11 rfl), fun _ => by kernel_rfl, rinf_c (asM a) _⟩) fun _ => congrArg Value.bool ht80) ?_
    refine .o1 (tk rfl rfl fun _ w hn k => ⟨_, v_move rfl (k.eq1 1 12 rfl), rfl⟩) ?_
    refine .o1 (tg rfl rfl rfl (fun _ _ k => k.eq1 2 13 rfl) fun _ w hn k => ⟨_, v_load rfl (k.fx 3 h51) (l_two Tryd.isAgg23 Tryd.sizeOf23 (hb54.new_ hn)), rfl⟩) ?_
    refine .o1 (cg rfl rfl rfl (fun _ _ k => k.eq1 2 13 rfl) rfl (fun _ w hn k => ⟨#[nv (asM a)], args1 (k.eq1 3 14 rfl), fun _ => by kernel_rfl, rnought_c (asM a) _⟩) fun _ => rfl) ?_
    refine .o1 (tk rfl rfl fun _ w hn k => ⟨_, v_pickF rfl (k.eq1 2 13 rfl) (k.eq1 4 15 rfl), rfl⟩) ?_
    refine .o1 (tk rfl rfl fun _ w hn k => ⟨_, v_assign rfl (k.eq1 5 16 rfl), rfl⟩) ?_
    exact .nil
  intro a136 w137 hn138 ha139
  have hs140 := ha139.size.trans hs48
  have hd141 := ha139.defers.trans hd49
  have h142 := ha139.fx 2 h50
  have h143 := ha139.fx 3 h51
  have h144 := ha139.ge 6 10 rfl
  have hb145 := hb53.new_ hn138
  have hb146 := hb54.new_ hn138
  have hN147 := hN55.transNew hn138
  clear hs48 hd49 h50 h51 hv79 hb53 hb54 hN55 ha139 hn138
  refine st_nil ?_
  refine hK _ _ ?_
  clear hK K
  rcases Bool.eq_false_or_eq_true (noughtB (asM a)) with ht148 | ht148
  · skip
    have hv149 : a136.eval (.tmp 10) = .bool true := h144.trans (congrArg Value.bool ht148)
    clear h144
    refine wp_cond_true hv149 ?_
    refine wp_seq_k fun K hK => ?_
    rcases Bool.eq_false_or_eq_true (belowB (asM a)) with ht150 | ht150
    · skip
      refine wp_g0 [true, true, true, true, true, true, false] [(6, false)] 27
        [ve (nv (asM a)),
         ve (.bool false),
         ve (nv (asM a)),
         ve (.bool true),
         ve (.bool false),
         ve (nv (signedR false false)),
         vt] hs140 (.eq (.eq (.eq (.eq (.eq (.eq (.tt (.nil)))))))) ?_ ?_
      · skip
        refine .o1 (tk rfl rfl fun _ w hn k => ⟨_, v_load rfl (k.fx 3 h143) (l_two Tryd.isAgg23 Tryd.sizeOf23 (hb146.new_ hn)), rfl⟩) ?_
        refine .o1 (ck rfl rfl rfl (fun _ w hn k => ⟨#[nv (asM a)], args1 (k.eq1 0 17 rfl), fun _ => by kernel_rfl, rinf_c (asM a) _⟩) fun _ => congrArg Value.bool ht80) ?_
        refine .o1 (tk rfl rfl fun _ w hn k => ⟨_, v_load rfl (k.fx 3 h143) (l_two Tryd.isAgg23 Tryd.sizeOf23 (hb146.new_ hn)), rfl⟩) ?_
        refine .o1 (ck rfl rfl rfl (fun _ w hn k => ⟨#[nv (asM a)], args1 (k.eq1 2 19 rfl), fun _ => by kernel_rfl, rbelow_c (asM a) _⟩) fun _ => congrArg Value.bool ht150) ?_
        refine .o1 (tk rfl rfl fun _ w hn k => ⟨_, v_not rfl (k.eq1 3 20 rfl), rfl⟩) ?_
        refine .o1 (ck rfl rfl rfl (fun _ w hn k => ⟨#[.bool false, .bool false], args2 (k.eq1 1 18 rfl) (k.eq1 4 21 rfl), fun _ => by kernel_rfl, rsigned_c false false _⟩) fun _ => rfl) ?_
        refine .off ?_
        exact .nil
      intro a151 w152 hn153 ha154
      have hs155 := ha154.size.trans hs140
      have hd156 := ha154.defers.trans hd141
      have h157 := ha154.fx 2 h142
      have h158 := ha154.fx 3 h143
      have h159 := ha154.ge 5 22 rfl
      have hb160 := hb145.new_ hn153
      have hb161 := hb146.new_ hn153
      have hN162 := hN147.transNew hn153
      clear hs140 hd141 h142 h143 hv149 hb145 hb146 hN147 ha154 hn153
      obtain ⟨w163, -, hst164, hb165, hu166, hf167⟩ := s_two (v0 := iv ((signedR false false).k)) (v1 := iv ((signedR false false).n)) Tryd.sizeOf23 rfl rfl rfl hb160
      refine st_act rfl rfl fun K168 hL169 => a_store' rfl h157 h159 hst164 (hL169 _ _ trivial ?_)
      have hb170 := hf167 _ _ _ (fun h => hne32 h.symm) hb161
      have hN171 := hN162.trans hu166 (fun k hk hkb => by subst hkb; omega)
      clear hb160 hst164 K168 hL169 hN162 hb161 hu166 hf167
      refine st_nil ?_
      clear h159
      refine hK _ _ ?_
      clear hK K
      refine wp_ret (ret_k hd156 (v := nv (signedR false false)) (res_c rfl h157 (l_two Tryd.isAgg23 Tryd.sizeOf23 hb165)) ?_)
      refine ⟨?_, hN171⟩
      show Ending.returned (nv (signedR false false)) = Ending.returned (nv (rNegM a))
      first | rfl | (simp [rNegM, ht56, ht80, ht148, ht150])
    refine wp_g0 [true, true, true, true, true, true, false] [(6, false)] 27
      [ve (nv (asM a)),
       ve (.bool false),
       ve (nv (asM a)),
       ve (.bool false),
       ve (.bool true),
       ve (nv (signedR false true)),
       vt] hs140 (.eq (.eq (.eq (.eq (.eq (.eq (.tt (.nil)))))))) ?_ ?_
    · skip
      refine .o1 (tk rfl rfl fun _ w hn k => ⟨_, v_load rfl (k.fx 3 h143) (l_two Tryd.isAgg23 Tryd.sizeOf23 (hb146.new_ hn)), rfl⟩) ?_
      refine .o1 (ck rfl rfl rfl (fun _ w hn k => ⟨#[nv (asM a)], args1 (k.eq1 0 17 rfl), fun _ => by kernel_rfl, rinf_c (asM a) _⟩) fun _ => congrArg Value.bool ht80) ?_
      refine .o1 (tk rfl rfl fun _ w hn k => ⟨_, v_load rfl (k.fx 3 h143) (l_two Tryd.isAgg23 Tryd.sizeOf23 (hb146.new_ hn)), rfl⟩) ?_
      refine .o1 (ck rfl rfl rfl (fun _ w hn k => ⟨#[nv (asM a)], args1 (k.eq1 2 19 rfl), fun _ => by kernel_rfl, rbelow_c (asM a) _⟩) fun _ => congrArg Value.bool ht150) ?_
      refine .o1 (tk rfl rfl fun _ w hn k => ⟨_, v_not rfl (k.eq1 3 20 rfl), rfl⟩) ?_
      refine .o1 (ck rfl rfl rfl (fun _ w hn k => ⟨#[.bool false, .bool true], args2 (k.eq1 1 18 rfl) (k.eq1 4 21 rfl), fun _ => by kernel_rfl, rsigned_c false true _⟩) fun _ => rfl) ?_
      refine .off ?_
      exact .nil
    intro a172 w173 hn174 ha175
    have hs176 := ha175.size.trans hs140
    have hd177 := ha175.defers.trans hd141
    have h178 := ha175.fx 2 h142
    have h179 := ha175.fx 3 h143
    have h180 := ha175.ge 5 22 rfl
    have hb181 := hb145.new_ hn174
    have hb182 := hb146.new_ hn174
    have hN183 := hN147.transNew hn174
    clear hs140 hd141 h142 h143 hv149 hb145 hb146 hN147 ha175 hn174
    obtain ⟨w184, -, hst185, hb186, hu187, hf188⟩ := s_two (v0 := iv ((signedR false true).k)) (v1 := iv ((signedR false true).n)) Tryd.sizeOf23 rfl rfl rfl hb181
    refine st_act rfl rfl fun K189 hL190 => a_store' rfl h178 h180 hst185 (hL190 _ _ trivial ?_)
    have hb191 := hf188 _ _ _ (fun h => hne32 h.symm) hb182
    have hN192 := hN183.trans hu187 (fun k hk hkb => by subst hkb; omega)
    clear hb181 hst185 K189 hL190 hN183 hb182 hu187 hf188
    refine st_nil ?_
    clear h180
    refine hK _ _ ?_
    clear hK K
    refine wp_ret (ret_k hd177 (v := nv (signedR false true)) (res_c rfl h178 (l_two Tryd.isAgg23 Tryd.sizeOf23 hb186)) ?_)
    refine ⟨?_, hN192⟩
    show Ending.returned (nv (signedR false true)) = Ending.returned (nv (rNegM a))
    first | rfl | (simp [rNegM, ht56, ht80, ht148, ht150])
  have hv193 : a136.eval (.tmp 10) = .bool false := h144.trans (congrArg Value.bool ht148)
  clear h144
  refine wp_cond_false hv193 ?_
  refine wp_skip ?_
  refine hK _ _ ?_
  clear hK K
  refine wp_seq_k fun K hK => ?_
  refine wp_g0 [true, true, true, true, false] [(4, false)] 27
    [ve (.pointer (some ⟨q28, 1, none⟩)),
     ve (iv ((asM a).n)),
     ve (iv (-((asM a).n))),
     ve (nv (Nm.mk 0 (-((asM a).n)))),
     vt] hs140 (.eq (.eq (.eq (.eq (.tt (.nil)))))) ?_ ?_
  · skip
    refine .o1 (tk rfl rfl fun _ w hn k => ⟨_, v_field rfl (k.fx 3 h143) (fun w => rfl), rfl⟩) ?_
    refine .o1 (tk rfl rfl fun _ w hn k => ⟨_, v_load rfl (k.eq1 0 23 rfl) (l_one Tryd.isAgg3 ((hb146.new_ hn).cell 1)), rfl⟩) ?_
    refine .o1 (tk rfl rfl fun _ w hn k => ⟨_, v_neg rfl (k.eq1 1 24 rfl) (by omega), rfl⟩) ?_
    refine .o1 (tk rfl rfl fun _ w hn k => ⟨_, v_build (ps := [(1, iv (-((asM a).n)))]) rfl (parts1 (k.eq1 2 25 rfl)) (by kernel_rfl), rfl⟩) ?_
    refine .off ?_
    exact .nil
  intro a194 w195 hn196 ha197
  have hs198 := ha197.size.trans hs140
  have hd199 := ha197.defers.trans hd141
  have h200 := ha197.fx 2 h142
  have h201 := ha197.ge 3 26 rfl
  have hb202 := hb145.new_ hn196
  have hN203 := hN147.transNew hn196
  clear hs140 hd141 h142 h143 hv193 hb145 hb146 hq33 hN147 ha197 hn196
  obtain ⟨w204, -, hst205, hb206, hu207, hf208⟩ := s_two (v0 := iv 0) (v1 := iv (-((asM a).n))) Tryd.sizeOf23 rfl rfl rfl hb202
  refine st_act rfl rfl fun K209 hL210 => a_store' rfl h200 h201 hst205 (hL210 _ _ trivial ?_)
  have hN211 := hN203.trans hu207 (fun k hk hkb => by subst hkb; omega)
  clear hb202 hst205 K209 hL210 hN203 hu207 hf208
  refine st_nil ?_
  clear h201
  refine hK _ _ ?_
  clear hK K
  refine wp_ret (ret_k hd199 (v := nv (Nm.mk 0 (-((asM a).n)))) (res_c rfl h200 (l_two Tryd.isAgg23 Tryd.sizeOf23 hb206)) ?_)
  refine ⟨?_, hN211⟩
  show Ending.returned (nv (Nm.mk 0 (-((asM a).n)))) = Ending.returned (nv (rNegM a))
  first | rfl | (simp [rNegM, ht56, ht80, ht148])
theorem rneg_c (a : Nm) (w : World) : Calls Tryd.prog 49 #[nv a] w (IsRet (nv (negM a)) w) := by
  have h := rneg0_c a w
  rw [rNeg_eq] at h
  exact h
set_option maxHeartbeats 4000000 in
set_option maxRecDepth 100000 in
theorem rsub_c (a : Nm) (b : Nm) (w : World) : Calls Tryd.prog 40 #[nv a, nv b] w (IsRet (.tuple #[nv ((addM a (negM b)).1), .bool ((addM a (negM b)).2)]) w) := by
  refine enter_abs Tryd.func40 rfl fun a0 hs0 hd0 hp => ?_
  have hs0 : a0.tmps.size = 12 := hs0
  have hN0 : New w w := Upd.refl _ _
  have hp0 : a0.eval (.tmp 0) = nv a := hp 0 _ rfl
  have hp1 : a0.eval (.tmp 1) = nv b := hp 1 _ rfl
  clear hp
  refine wp_seq_k fun K hK => ?_
  refine wp_g [true, true, true, true] [] [] 12
    [IsNew w 23 [iv a.k, iv a.n],
     IsNew w 23 [iv b.k, iv b.n],
     IsNew w 23 [iv 0, iv 0],
     ve (.bool false)]
    [0, 1, 2] (newsCons (fun v w h => IsNew.old h) (newsCons (fun v w h => IsNew.old h) (newsCons (fun v w h => IsNew.old h) newsNil))) hs0 (.nw (.nw (.nw (.eq (.nil))))) ?_ (fun i h => by cases h) ?_
  · skip
    refine .o2 (step_allocN (cs := [iv a.k, iv a.n]) (t := 23) rfl (noG rfl) (fun _ w hn k => v_box rfl (k.fx 0 hp0) (fun w => rfl)) (fun q _ hq hb => ⟨q, rfl, hq, hb⟩)) ?_
    refine .o2 (step_allocN (cs := [iv b.k, iv b.n]) (t := 23) rfl (noG rfl) (fun _ w hn k => v_box rfl (k.fx 1 hp1) (fun w => rfl)) (fun q _ hq hb => ⟨q, rfl, hq, hb⟩)) ?_
    refine .o2 (step_allocN (cs := [iv 0, iv 0]) (t := 23) rfl (noG rfl) (fun _ w hn k => rfl) (fun q _ hq hb => ⟨q, rfl, hq, hb⟩)) ?_
    refine .o1 (tk rfl rfl fun _ w hn k => ⟨_, v_assign rfl rfl, rfl⟩) ?_
    exact .nil
  intro a1 w2 hn3 ha4
  have hs5 := ha4.size.trans hs0
  have hd6 := ha4.defers.trans hd0
  obtain ⟨q8, h7, hq9, hb10⟩ : IsNew _ _ _ _ _ := ha4.got 0 2 rfl (by kernel_rfl)
  obtain ⟨q12, h11, hq13, hb14⟩ : IsNew _ _ _ _ _ := ha4.got 1 3 rfl (by kernel_rfl)
  obtain ⟨q16, h15, hq17, hb18⟩ : IsNew _ _ _ _ _ := ha4.got 2 4 rfl (by kernel_rfl)
  have h19 := ha4.ge 3 5 rfl
  have hne20 : q8 ≠ q16 := ha4.ne 0 2 2 4 h7 h15
  have hne21 : q12 ≠ q16 := ha4.ne 1 2 3 4 h11 h15
  have hq22 := Nat.le_trans hN0.size hq9
  have hq23 := Nat.le_trans hN0.size hq13
  have hq24 := Nat.le_trans hN0.size hq17
  have hN25 := hN0.transNew hn3
  clear hs0 hd0 hp0 hp1 hq9 hq13 hq17 hN0 ha4 hn3
  refine st_nil ?_
  refine hK _ _ ?_
  clear hK K
  refine wp_seq_k fun K hK => ?_
  refine wp_g0 [true, true, true, true, true, true, false, false] [(6, false), (7, true)] 12
    [ve (nv a),
     ve (nv b),
     ve (nv (negM b)),
     ve (.tuple #[nv ((addM a (negM b)).1), .bool ((addM a (negM b)).2)]),
     ve (nv ((addM a (negM b)).1)),
     ve (.bool ((addM a (negM b)).2)),
     vt,
     vt] hs5 (.eq (.eq (.eq (.eq (.eq (.eq (.tt (.tt (.nil))))))))) ?_ ?_
  · skip
    refine .o1 (tk rfl rfl fun _ w hn k => ⟨_, v_load rfl (k.fx 2 h7) (l_two Tryd.isAgg23 Tryd.sizeOf23 (hb10.new_ hn)), rfl⟩) ?_
    refine .o1 (tk rfl rfl fun _ w hn k => ⟨_, v_load rfl (k.fx 3 h11) (l_two Tryd.isAgg23 Tryd.sizeOf23 (hb14.new_ hn)), rfl⟩) ?_
    refine .o1 (ck rfl rfl rfl (fun _ w hn k => ⟨#[nv b], args1 (k.eq1 1 7 rfl), fun _ => by kernel_rfl, rneg_c b _⟩) fun _ => rfl) ?_
    refine .o1 (ck rfl rfl rfl (fun _ w hn k => ⟨#[nv a, nv (negM b)], args2 (k.eq1 0 6 rfl) (k.eq1 2 8 rfl), fun _ => by kernel_rfl, radd_c a (negM b) _⟩) fun _ => rfl) ?_
    refine .o1 (tk rfl rfl fun _ w hn k => ⟨_, v_extract rfl (k.eq1 3 9 rfl) rfl, rfl⟩) ?_
    refine .o1 (tk rfl rfl fun _ w hn k => ⟨_, v_extract rfl (k.eq1 3 9 rfl) rfl, rfl⟩) ?_
    refine .off ?_
    refine .off ?_
    exact .nil
  intro a26 w27 hn28 ha29
  have hs30 := ha29.size.trans hs5
  have hd31 := ha29.defers.trans hd6
  have h32 := ha29.fx 4 h15
  have h33 := ha29.fx 5 h19
  have h34 := ha29.ge 4 10 rfl
  have h35 := ha29.ge 5 11 rfl
  have hb36 := hb18.new_ hn28
  have hN37 := hN25.transNew hn28
  clear hs5 hd6 h7 h11 h15 h19 hb10 hq22 hb14 hq23 hb18 hN25 ha29 hn28
  obtain ⟨w38, -, hst39, hb40, hu41, hf42⟩ := s_two (v0 := iv ((addM a (negM b)).1.k)) (v1 := iv ((addM a (negM b)).1.n)) Tryd.sizeOf23 rfl rfl rfl hb36
  refine st_act rfl rfl fun K43 hL44 => a_store' rfl h32 h34 hst39 (hL44 _ _ trivial ?_)
  have hN45 := hN37.trans hu41 (fun k hk hkb => by subst hkb; omega)
  clear hb36 hst39 K43 hL44 hN37 hu41 hf42
  refine st_take rfl rfl (y_assign (v := .bool ((addM a (negM b)).2)) rfl h35) rfl ?_
  obtain ⟨a46, ha47⟩ : ∃ a', a' = a26.put (some 5) (.bool ((addM a (negM b)).2)) := ⟨_, rfl⟩
  have hs48 : a46.tmps.size = 12 := by rw [ha47, put_size]; exact hs30
  have hd49 : a46.defers = [] := by rw [ha47, put_defers]; exact hd31
  have h50 : a46.eval (.tmp 4) = pv q16 := by rw [ha47, put_ne _ _ _ _ (by decide)]; exact h32
  have h51 : a46.eval (.tmp 10) = nv ((addM a (negM b)).1) := by rw [ha47, put_ne _ _ _ _ (by decide)]; exact h34
  have h52 : a46.eval (.tmp 11) = .bool ((addM a (negM b)).2) := by rw [ha47, put_ne _ _ _ _ (by decide)]; exact h35
  have h53 : a46.eval (.tmp 5) = .bool ((addM a (negM b)).2) := by rw [ha47]; exact put_same _ _ _ (by rw [hs30]; decide)
  show stepsTo _ _ _ _ _ (a26.put (some 5) (.bool ((addM a (negM b)).2))) _
  rw [← ha47]
  clear ha47 hs30 hd31 h32 h33 h34 h35
  refine st_nil ?_
  clear h51 h52
  refine hK _ _ ?_
  clear hK K
  refine wp_ret (ret_k hd49 (v := .tuple #[nv ((addM a (negM b)).1), .bool ((addM a (negM b)).2)]) (res_ct rfl h50 h53 (l_two Tryd.isAgg23 Tryd.sizeOf23 hb40)) ?_)
  refine ⟨?_, hN45⟩
  rfl
set_option maxHeartbeats 4000000 in
set_option maxRecDepth 100000 in
theorem product_c (x : Int) (y : Int) (w : World) (h : -9007199254740991 ≤ x ∧ x ≤ 9007199254740991 ∧ -9007199254740991 ≤ y ∧ y ≤ 9007199254740991 ∧ y ≠ 0) : Calls Tryd.prog 78 #[iv x, iv y] w (IsRet (.tuple #[nv ((productR x y).1), .bool ((productR x y).2)]) w) := by
  refine enter_abs Tryd.func78 rfl fun a0 hs0 hd0 hp => ?_
  have hs0 : a0.tmps.size = 27 := hs0
  have hN0 : New w w := Upd.refl _ _
  have hp0 : a0.eval (.tmp 0) = iv x := hp 0 _ rfl
  have hp1 : a0.eval (.tmp 1) = iv y := hp 1 _ rfl
  clear hp
  refine wp_seq_k fun K hK => ?_
  refine wp_g [true, true] [] [] 27
    [IsNew w 23 [iv 0, iv 0],
     ve (.bool false)]
    [0] (newsCons (fun v w h => IsNew.old h) newsNil) hs0 (.nw (.eq (.nil))) ?_ (fun i h => by cases h) ?_
  · skip
    refine .o2 (step_allocN (cs := [iv 0, iv 0]) (t := 23) rfl (noG rfl) (fun _ w hn k => rfl) (fun q _ hq hb => ⟨q, rfl, hq, hb⟩)) ?_
    refine .o1 (tk rfl rfl fun _ w hn k => ⟨_, v_assign rfl rfl, rfl⟩) ?_
    exact .nil
  intro a1 w2 hn3 ha4
  have hs5 := ha4.size.trans hs0
  have hd6 := ha4.defers.trans hd0
  have h7 := ha4.fx 0 hp0
  have h8 := ha4.fx 1 hp1
  obtain ⟨q10, h9, hq11, hb12⟩ : IsNew _ _ _ _ _ := ha4.got 0 4 rfl (by kernel_rfl)
  have h13 := ha4.ge 1 5 rfl
  have hq14 := Nat.le_trans hN0.size hq11
  have hN15 := hN0.transNew hn3
  clear hs0 hd0 hp0 hp1 hq11 hN0 ha4 hn3
  refine st_nil ?_
  refine hK _ _ ?_
  clear hK K
  refine wp_seq_k fun K hK => ?_
  refine wp_g0 [true, true, true, true, true] [] 27
    [ve (iv x),
     ve (iv x),
     ve (iv (-x)),
     ve (iv (max x (-x))),
     ve (iv (max x (-x)))] hs5 (.eq (.eq (.eq (.eq (.eq (.nil)))))) ?_ ?_
  · skip
    refine .o1 (tk rfl rfl fun _ w hn k => ⟨_, v_move rfl (k.fx 0 h7), rfl⟩) ?_
    refine .o1 (tk rfl rfl fun _ w hn k => ⟨_, v_move rfl (k.fx 0 h7), rfl⟩) ?_
    refine .o1 (tk rfl rfl fun _ w hn k => ⟨_, v_neg rfl (k.eq1 1 9 rfl) (by omega), rfl⟩) ?_
    refine .o1 (tk rfl rfl fun _ w hn k => ⟨_, v_max rfl (k.eq1 0 8 rfl) (k.eq1 2 10 rfl), rfl⟩) ?_
    refine .o1 (tk rfl rfl fun _ w hn k => ⟨_, v_assign rfl (k.eq1 3 11 rfl), rfl⟩) ?_
    exact .nil
  intro a16 w17 hn18 ha19
  have hs20 := ha19.size.trans hs5
  have hd21 := ha19.defers.trans hd6
  have h22 := ha19.fx 0 h7
  have h23 := ha19.fx 1 h8
  have h24 := ha19.fx 4 h9
  have h25 := ha19.fx 5 h13
  have h26 := ha19.ge 4 6 rfl
  have hb27 := hb12.new_ hn18
  have hN28 := hN15.transNew hn18
  clear hs5 hd6 h7 h8 h9 h13 hb12 hN15 ha19 hn18
  refine st_nil ?_
  refine hK _ _ ?_
  clear hK K
  refine wp_seq_k fun K hK => ?_
  refine wp_g0 [true, true, true, true, true] [] 27
    [ve (iv y),
     ve (iv y),
     ve (iv (-y)),
     ve (iv (max y (-y))),
     ve (iv (max y (-y)))] hs20 (.eq (.eq (.eq (.eq (.eq (.nil)))))) ?_ ?_
  · skip
    refine .o1 (tk rfl rfl fun _ w hn k => ⟨_, v_move rfl (k.fx 1 h23), rfl⟩) ?_
    refine .o1 (tk rfl rfl fun _ w hn k => ⟨_, v_move rfl (k.fx 1 h23), rfl⟩) ?_
    refine .o1 (tk rfl rfl fun _ w hn k => ⟨_, v_neg rfl (k.eq1 1 13 rfl) (by omega), rfl⟩) ?_
    refine .o1 (tk rfl rfl fun _ w hn k => ⟨_, v_max rfl (k.eq1 0 12 rfl) (k.eq1 2 14 rfl), rfl⟩) ?_
    refine .o1 (tk rfl rfl fun _ w hn k => ⟨_, v_assign rfl (k.eq1 3 15 rfl), rfl⟩) ?_
    exact .nil
  intro a29 w30 hn31 ha32
  have hs33 := ha32.size.trans hs20
  have hd34 := ha32.defers.trans hd21
  have h35 := ha32.fx 0 h22
  have h36 := ha32.fx 1 h23
  have h37 := ha32.fx 4 h24
  have h38 := ha32.fx 5 h25
  have h39 := ha32.fx 6 h26
  have h40 := ha32.ge 4 7 rfl
  have hb41 := hb27.new_ hn31
  have hN42 := hN28.transNew hn31
  clear hs20 hd21 h22 h23 h24 h25 h26 hb27 hN28 ha32 hn31
  refine st_nil ?_
  refine hK _ _ ?_
  clear hK K
  refine wp_seq_k fun K hK => ?_
  refine wp_seq_k fun K hK => ?_
  rcases Bool.eq_false_or_eq_true (decide ((max x (-x)) ≤ ((9007199254740991 : Int).tdiv (max y (-y))))) with ht43 | ht43
  · skip
    have ht43d := of_decide_eq_true ht43
    have htd := tdiv_bd (x := 9007199254740991) (y := max y (-y)) (by omega) (by omega)
    refine wp_g0 [true, true, true, true] [] 27
      [ve (iv (max x (-x))),
       ve (iv (max y (-y))),
       ve (iv ((9007199254740991 : Int).tdiv (max y (-y)))),
       ve (.bool false)] hs33 (.eq (.eq (.eq (.eq (.nil))))) ?_ ?_
    · skip
      refine .o1 (tk rfl rfl fun _ w hn k => ⟨_, v_move rfl (k.fx 6 h39), rfl⟩) ?_
      refine .o1 (tk rfl rfl fun _ w hn k => ⟨_, v_move rfl (k.fx 7 h40), rfl⟩) ?_
      refine .o1 (tk rfl rfl fun _ w hn k => ⟨_, v_bin rfl rfl (k.eq1 1 17 rfl) (fun _ => rfl) (r_quoI rfl (by omega) (by omega)), rfl⟩) ?_
      refine .o1 (tk rfl rfl fun _ w hn k => ⟨_, v_bin rfl (k.eq1 0 16 rfl) (k.eq1 2 18 rfl) (fun _ => rfl) (r_gtrK ht43), rfl⟩) ?_
      exact .nil
    intro a44 w45 hn46 ha47
    have hs48 := ha47.size.trans hs33
    have hd49 := ha47.defers.trans hd34
    have h50 := ha47.fx 0 h35
    have h51 := ha47.fx 1 h36
    have h52 := ha47.fx 4 h37
    have h53 := ha47.fx 5 h38
    have h54 := ha47.ge 3 19 rfl
    have hb55 := hb41.new_ hn46
    have hN56 := hN42.transNew hn46
    clear hs33 hd34 h35 h36 h37 h38 h39 h40 hb41 hN42 ha47 hn46
    refine st_nil ?_
    refine hK _ _ ?_
    clear hK K
    refine wp_cond_false h54 ?_
    refine wp_skip ?_
    refine hK _ _ ?_
    clear hK K
    refine wp_seq_k fun K hK => ?_
    have hpr := prod_bd h.2.2.2.2 (of_decide_eq_true ht43)
    refine wp_g0 [true, true, true, true, true, true, false, false] [(6, false), (7, true)] 27
      [ve (iv x),
       ve (iv y),
       ve (iv (x * y)),
       ve (.tuple #[nv ((ofM (x * y)).1), .bool ((ofM (x * y)).2)]),
       ve (nv ((ofM (x * y)).1)),
       ve (.bool ((ofM (x * y)).2)),
       vt,
       vt] hs48 (.eq (.eq (.eq (.eq (.eq (.eq (.tt (.tt (.nil))))))))) ?_ ?_
    · skip
      refine .o1 (tk rfl rfl fun _ w hn k => ⟨_, v_move rfl (k.fx 0 h50), rfl⟩) ?_
      refine .o1 (tk rfl rfl fun _ w hn k => ⟨_, v_move rfl (k.fx 1 h51), rfl⟩) ?_
      refine .o1 (tk rfl rfl fun _ w hn k => ⟨_, v_bin rfl (k.eq1 0 21 rfl) (k.eq1 1 22 rfl) (fun _ => rfl) (r_mul rfl (by omega)), rfl⟩) ?_
      refine .o1 (ck rfl rfl rfl (fun _ w hn k => ⟨#[iv (x * y)], args1 (k.eq1 2 23 rfl), fun _ => by kernel_rfl, rof_c (x * y) _⟩) fun _ => rfl) ?_
      refine .o1 (tk rfl rfl fun _ w hn k => ⟨_, v_extract rfl (k.eq1 3 24 rfl) rfl, rfl⟩) ?_
      refine .o1 (tk rfl rfl fun _ w hn k => ⟨_, v_extract rfl (k.eq1 3 24 rfl) rfl, rfl⟩) ?_
      refine .off ?_
      refine .off ?_
      exact .nil
    intro a57 w58 hn59 ha60
    have hs61 := ha60.size.trans hs48
    have hd62 := ha60.defers.trans hd49
    have h63 := ha60.fx 4 h52
    have h64 := ha60.fx 5 h53
    have h65 := ha60.ge 4 25 rfl
    have h66 := ha60.ge 5 26 rfl
    have hb67 := hb55.new_ hn59
    have hN68 := hN56.transNew hn59
    clear hs48 hd49 h50 h51 h52 h53 h54 hb55 hN56 ha60 hn59
    obtain ⟨w69, -, hst70, hb71, hu72, hf73⟩ := s_two (v0 := iv ((ofM (x * y)).1.k)) (v1 := iv ((ofM (x * y)).1.n)) Tryd.sizeOf23 rfl rfl rfl hb67
    refine st_act rfl rfl fun K74 hL75 => a_store' rfl h63 h65 hst70 (hL75 _ _ trivial ?_)
    have hN76 := hN68.trans hu72 (fun k hk hkb => by subst hkb; omega)
    clear hb67 hst70 K74 hL75 hN68 hu72 hf73
    refine st_take rfl rfl (y_assign (v := .bool ((ofM (x * y)).2)) rfl h66) rfl ?_
    obtain ⟨a77, ha78⟩ : ∃ a', a' = a57.put (some 5) (.bool ((ofM (x * y)).2)) := ⟨_, rfl⟩
    have hs79 : a77.tmps.size = 27 := by rw [ha78, put_size]; exact hs61
    have hd80 : a77.defers = [] := by rw [ha78, put_defers]; exact hd62
    have h81 : a77.eval (.tmp 4) = pv q10 := by rw [ha78, put_ne _ _ _ _ (by decide)]; exact h63
    have h82 : a77.eval (.tmp 25) = nv ((ofM (x * y)).1) := by rw [ha78, put_ne _ _ _ _ (by decide)]; exact h65
    have h83 : a77.eval (.tmp 26) = .bool ((ofM (x * y)).2) := by rw [ha78, put_ne _ _ _ _ (by decide)]; exact h66
    have h84 : a77.eval (.tmp 5) = .bool ((ofM (x * y)).2) := by rw [ha78]; exact put_same _ _ _ (by rw [hs61]; decide)
    show stepsTo _ _ _ _ _ (a57.put (some 5) (.bool ((ofM (x * y)).2))) _
    rw [← ha78]
    clear ha78 hs61 hd62 h63 h64 h65 h66
    refine st_nil ?_
    clear h82 h83
    refine hK _ _ ?_
    clear hK K
    refine wp_ret (ret_k hd80 (v := .tuple #[nv ((ofM (x * y)).1), .bool ((ofM (x * y)).2)]) (res_ct rfl h81 h84 (l_two Tryd.isAgg23 Tryd.sizeOf23 hb71)) ?_)
    refine ⟨?_, hN76⟩
    show Ending.returned (.tuple #[nv ((ofM (x * y)).1), .bool ((ofM (x * y)).2)]) = Ending.returned (.tuple #[nv ((productR x y).1), .bool ((productR x y).2)])
    first | rfl | (simp [productR, ht43])
  have ht43d := of_decide_eq_false ht43
  have htd := tdiv_bd (x := 9007199254740991) (y := max y (-y)) (by omega) (by omega)
  refine wp_g0 [true, true, true, true] [] 27
    [ve (iv (max x (-x))),
     ve (iv (max y (-y))),
     ve (iv ((9007199254740991 : Int).tdiv (max y (-y)))),
     ve (.bool true)] hs33 (.eq (.eq (.eq (.eq (.nil))))) ?_ ?_
  · skip
    refine .o1 (tk rfl rfl fun _ w hn k => ⟨_, v_move rfl (k.fx 6 h39), rfl⟩) ?_
    refine .o1 (tk rfl rfl fun _ w hn k => ⟨_, v_move rfl (k.fx 7 h40), rfl⟩) ?_
    refine .o1 (tk rfl rfl fun _ w hn k => ⟨_, v_bin rfl rfl (k.eq1 1 17 rfl) (fun _ => rfl) (r_quoI rfl (by omega) (by omega)), rfl⟩) ?_
    refine .o1 (tk rfl rfl fun _ w hn k => ⟨_, v_bin rfl (k.eq1 0 16 rfl) (k.eq1 2 18 rfl) (fun _ => rfl) (r_gtrK ht43), rfl⟩) ?_
    exact .nil
  intro a85 w86 hn87 ha88
  have hs89 := ha88.size.trans hs33
  have hd90 := ha88.defers.trans hd34
  have h91 := ha88.fx 0 h35
  have h92 := ha88.fx 1 h36
  have h93 := ha88.fx 4 h37
  have h94 := ha88.fx 5 h38
  have h95 := ha88.ge 3 19 rfl
  have hb96 := hb41.new_ hn87
  have hN97 := hN42.transNew hn87
  clear hs33 hd34 h35 h36 h37 h38 h39 h40 hb41 hN42 ha88 hn87
  refine st_nil ?_
  refine hK _ _ ?_
  clear hK K
  refine wp_cond_true h95 ?_
  refine wp_seq_k fun K hK => ?_
  refine wp_g0 [true, false, false] [(1, false), (2, true)] 27
    [ve (nv (Nm.mk 2 0)),
     vt,
     vt] hs89 (.eq (.tt (.tt (.nil)))) ?_ ?_
  · skip
    refine .o1 (ck rfl rfl rfl (fun _ w hn k => ⟨#[], rfl, fun _ => by kernel_rfl, rNaN_c  _⟩) fun _ => rfl) ?_
    refine .off ?_
    refine .off ?_
    exact .nil
  intro a98 w99 hn100 ha101
  have hs102 := ha101.size.trans hs89
  have hd103 := ha101.defers.trans hd90
  have h104 := ha101.fx 0 h91
  have h105 := ha101.fx 1 h92
  have h106 := ha101.fx 4 h93
  have h107 := ha101.fx 5 h94
  have h108 := ha101.ge 0 20 rfl
  have hb109 := hb96.new_ hn100
  have hN110 := hN97.transNew hn100
  clear hs89 hd90 h91 h92 h93 h94 h95 hb96 hN97 ha101 hn100
  obtain ⟨w111, -, hst112, hb113, hu114, hf115⟩ := s_two (v0 := iv 2) (v1 := iv 0) Tryd.sizeOf23 rfl rfl rfl hb109
  refine st_act rfl rfl fun K116 hL117 => a_store' rfl h106 h108 hst112 (hL117 _ _ trivial ?_)
  have hN118 := hN110.trans hu114 (fun k hk hkb => by subst hkb; omega)
  clear hb109 hst112 K116 hL117 hN110 hu114 hf115
  refine st_take rfl rfl (y_assign (v := .bool false) rfl rfl) rfl ?_
  obtain ⟨a119, ha120⟩ : ∃ a', a' = a98.put (some 5) (.bool false) := ⟨_, rfl⟩
  have hs121 : a119.tmps.size = 27 := by rw [ha120, put_size]; exact hs102
  have hd122 : a119.defers = [] := by rw [ha120, put_defers]; exact hd103
  have h123 : a119.eval (.tmp 0) = iv x := by rw [ha120, put_ne _ _ _ _ (by decide)]; exact h104
  have h124 : a119.eval (.tmp 1) = iv y := by rw [ha120, put_ne _ _ _ _ (by decide)]; exact h105
  have h125 : a119.eval (.tmp 4) = pv q10 := by rw [ha120, put_ne _ _ _ _ (by decide)]; exact h106
  have h126 : a119.eval (.tmp 20) = nv (Nm.mk 2 0) := by rw [ha120, put_ne _ _ _ _ (by decide)]; exact h108
  have h127 : a119.eval (.tmp 5) = .bool false := by rw [ha120]; exact put_same _ _ _ (by rw [hs102]; decide)
  show stepsTo _ _ _ _ _ (a98.put (some 5) (.bool false)) _
  rw [← ha120]
  clear ha120 hs102 hd103 h104 h105 h106 h107 h108
  refine st_nil ?_
  clear h126
  refine hK _ _ ?_
  clear hK K
  refine wp_ret (ret_k hd122 (v := .tuple #[nv (Nm.mk 2 0), .bool false]) (res_ct rfl h125 h127 (l_two Tryd.isAgg23 Tryd.sizeOf23 hb113)) ?_)
  refine ⟨?_, hN118⟩
  show Ending.returned (.tuple #[nv (Nm.mk 2 0), .bool false]) = Ending.returned (.tuple #[nv ((productR x y).1), .bool ((productR x y).2)])
  first | rfl | (simp [productR, ht43])
end Go.Proofs.YtldakajmhfdfgaaDoor
