/- Package num: the makers, the tests, Add, Neg, Sub. -/
import Derived.Test.YtldakajmhfdfgaaDoorSym
import Derived.Test.YtldakajmhfdfgaaDoorNumPlain
import Derived.Test.YtldakajmhfdfgaaDoorChecked
namespace Go.Proofs.YtldakajmhfdfgaaDoor
open Go.RowKit
set_option linter.unusedSimpArgs false
set_option linter.unusedVariables false
abbrev nv (a : Nm) : Value := .agg #[.int .i64 a.k, .int .i64 a.n]
set_option maxHeartbeats 4000000 in
set_option maxRecDepth 100000 in
theorem whole_c (n : Int) (w : World) : Calls Tryd.prog 62 #[iv n] w (IsRet (nv (Nm.mk 0 n)) w) := by
  refine enter_abs Tryd.func62 rfl fun a0 hs0 hd0 hp => ?_
  have hs0 : a0.tmps.size = 5 := hs0
  have hN0 : New w w := Upd.refl _ _
  have hp0 : a0.eval (.tmp 0) = iv n := hp 0 _ rfl
  clear hp
  refine wp_seq_k fun K hK => ?_
  refine wp_g [true] [] [] 5
    [IsNew w 23 [iv 0, iv 0]]
    [0] (newsCons (fun v w h => IsNew.old h) newsNil) hs0 (.nw (.nil)) ?_ (fun i h => by cases h) ?_
  · skip
    refine .o2 (step_allocN (cs := [iv 0, iv 0]) (t := 23) rfl (noG rfl) (fun _ w hn k => rfl) (fun q _ hq hb => ⟨q, rfl, hq, hb⟩)) ?_
    exact .nil
  intro a1 w2 hn3 ha4
  have hs5 := ha4.size.trans hs0
  have hd6 := ha4.defers.trans hd0
  have h7 := ha4.fx 0 hp0
  obtain ⟨q9, h8, hq10, hb11⟩ : IsNew _ _ _ _ _ := ha4.got 0 2 rfl (by kernel_rfl)
  have hq12 := Nat.le_trans hN0.size hq10
  have hN13 := hN0.transNew hn3
  clear hs0 hd0 hp0 hq10 hN0 ha4 hn3
  refine st_nil ?_
  refine hK _ _ ?_
  clear hK K
  refine wp_seq_k fun K hK => ?_
  refine wp_g0 [true, true, false] [(2, false)] 5
    [ve (iv n),
     ve (nv (Nm.mk 0 n)),
     vt] hs5 (.eq (.eq (.tt (.nil)))) ?_ ?_
  · skip
    refine .o1 (tk rfl rfl fun _ w hn k => ⟨_, v_move rfl (k.fx 0 h7), rfl⟩) ?_
    refine .o1 (tk rfl rfl fun _ w hn k => ⟨_, v_build (ps := [(0, iv 0), (1, iv n)]) rfl (parts2 rfl (k.eq1 0 3 rfl)) (by kernel_rfl), rfl⟩) ?_
    refine .off ?_
    exact .nil
  intro a14 w15 hn16 ha17
  have hs18 := ha17.size.trans hs5
  have hd19 := ha17.defers.trans hd6
  have h20 := ha17.fx 2 h8
  have h21 := ha17.ge 1 4 rfl
  have hb22 := hb11.new_ hn16
  have hN23 := hN13.transNew hn16
  clear hs5 hd6 h7 h8 hb11 hN13 ha17 hn16
  obtain ⟨w24, -, hst25, hb26, hu27, hf28⟩ := s_two (v0 := iv 0) (v1 := iv n) Tryd.sizeOf23 rfl rfl rfl hb22
  refine st_act rfl rfl fun K29 hL30 => a_store' rfl h20 h21 hst25 (hL30 _ _ trivial ?_)
  have hN31 := hN23.trans hu27 (fun k hk hkb => by subst hkb; omega)
  clear hb22 hst25 K29 hL30 hN23 hu27 hf28
  refine st_nil ?_
  clear h21
  refine hK _ _ ?_
  clear hK K
  refine wp_ret (ret_k hd19 (v := nv (Nm.mk 0 n)) (res_c rfl h20 (l_two Tryd.isAgg23 Tryd.sizeOf23 hb26)) ?_)
  refine ⟨?_, hN31⟩
  rfl
set_option maxHeartbeats 4000000 in
set_option maxRecDepth 100000 in
theorem nan_c  (w : World) : Calls Tryd.prog 55 #[] w (IsRet (nv (Nm.mk 2 0)) w) := by
  refine enter_abs Tryd.func55 rfl fun a0 hs0 hd0 hp => ?_
  have hs0 : a0.tmps.size = 2 := hs0
  have hN0 : New w w := Upd.refl _ _
  clear hp
  refine wp_seq_k fun K hK => ?_
  refine wp_g [true] [] [] 2
    [IsNew w 23 [iv 0, iv 0]]
    [0] (newsCons (fun v w h => IsNew.old h) newsNil) hs0 (.nw (.nil)) ?_ (fun i h => by cases h) ?_
  · skip
    refine .o2 (step_allocN (cs := [iv 0, iv 0]) (t := 23) rfl (noG rfl) (fun _ w hn k => rfl) (fun q _ hq hb => ⟨q, rfl, hq, hb⟩)) ?_
    exact .nil
  intro a1 w2 hn3 ha4
  have hs5 := ha4.size.trans hs0
  have hd6 := ha4.defers.trans hd0
  obtain ⟨q8, h7, hq9, hb10⟩ : IsNew _ _ _ _ _ := ha4.got 0 0 rfl (by kernel_rfl)
  have hq11 := Nat.le_trans hN0.size hq9
  have hN12 := hN0.transNew hn3
  clear hs0 hd0 hq9 hN0 ha4 hn3
  refine st_nil ?_
  refine hK _ _ ?_
  clear hK K
  refine wp_seq_k fun K hK => ?_
  refine wp_g0 [true, false] [(1, false)] 2
    [ve (nv (Nm.mk 2 0)),
     vt] hs5 (.eq (.tt (.nil))) ?_ ?_
  · skip
    refine .o1 (tk rfl rfl fun _ w hn k => ⟨_, v_build (ps := [(0, iv 2)]) rfl (parts1 rfl) (by kernel_rfl), rfl⟩) ?_
    refine .off ?_
    exact .nil
  intro a13 w14 hn15 ha16
  have hs17 := ha16.size.trans hs5
  have hd18 := ha16.defers.trans hd6
  have h19 := ha16.fx 0 h7
  have h20 := ha16.ge 0 1 rfl
  have hb21 := hb10.new_ hn15
  have hN22 := hN12.transNew hn15
  clear hs5 hd6 h7 hb10 hN12 ha16 hn15
  obtain ⟨w23, -, hst24, hb25, hu26, hf27⟩ := s_two (v0 := iv 2) (v1 := iv 0) Tryd.sizeOf23 rfl rfl rfl hb21
  refine st_act rfl rfl fun K28 hL29 => a_store' rfl h19 h20 hst24 (hL29 _ _ trivial ?_)
  have hN30 := hN22.trans hu26 (fun k hk hkb => by subst hkb; omega)
  clear hb21 hst24 K28 hL29 hN22 hu26 hf27
  refine st_nil ?_
  clear h20
  refine hK _ _ ?_
  clear hK K
  refine wp_ret (ret_k hd18 (v := nv (Nm.mk 2 0)) (res_c rfl h19 (l_two Tryd.isAgg23 Tryd.sizeOf23 hb25)) ?_)
  refine ⟨?_, hN30⟩
  rfl
set_option maxHeartbeats 4000000 in
set_option maxRecDepth 100000 in
theorem nought_c (d : Bool) (w : World) : Calls Tryd.prog 69 #[.bool d] w (IsRet (nv (noughtM d)) w) := by
  refine enter_abs Tryd.func69 rfl fun a0 hs0 hd0 hp => ?_
  have hs0 : a0.tmps.size = 6 := hs0
  have hN0 : New w w := Upd.refl _ _
  have hp0 : a0.eval (.tmp 0) = .bool d := hp 0 _ rfl
  clear hp
  refine wp_seq_k fun K hK => ?_
  refine wp_g [true] [] [] 6
    [IsNew w 23 [iv 0, iv 0]]
    [0] (newsCons (fun v w h => IsNew.old h) newsNil) hs0 (.nw (.nil)) ?_ (fun i h => by cases h) ?_
  · skip
    refine .o2 (step_allocN (cs := [iv 0, iv 0]) (t := 23) rfl (noG rfl) (fun _ w hn k => rfl) (fun q _ hq hb => ⟨q, rfl, hq, hb⟩)) ?_
    exact .nil
  intro a1 w2 hn3 ha4
  have hs5 := ha4.size.trans hs0
  have hd6 := ha4.defers.trans hd0
  have h7 := ha4.fx 0 hp0
  obtain ⟨q9, h8, hq10, hb11⟩ : IsNew _ _ _ _ _ := ha4.got 0 2 rfl (by kernel_rfl)
  have hq12 := Nat.le_trans hN0.size hq10
  have hN13 := hN0.transNew hn3
  clear hs0 hd0 hp0 hq10 hN0 ha4 hn3
  refine st_nil ?_
  refine hK _ _ ?_
  clear hK K
  refine wp_seq_k fun K hK => ?_
  refine wp_seq_k fun K hK => ?_
  refine wp_g0 [true] [] 6
    [ve (.bool d)] hs5 (.eq (.nil)) ?_ ?_
  · skip
    refine .o1 (tk rfl rfl fun _ w hn k => ⟨_, v_move rfl (k.fx 0 h7), rfl⟩) ?_
    exact .nil
  intro a14 w15 hn16 ha17
  have hs18 := ha17.size.trans hs5
  have hd19 := ha17.defers.trans hd6
  have h20 := ha17.fx 2 h8
  have h21 := ha17.ge 0 3 rfl
  have hb22 := hb11.new_ hn16
  have hN23 := hN13.transNew hn16
  clear hs5 hd6 h7 h8 hb11 hN13 ha17 hn16
  refine st_nil ?_
  refine hK _ _ ?_
  clear hK K
  rcases Bool.eq_false_or_eq_true (d) with ht24 | ht24
  · skip
    have hv25 : a14.eval (.tmp 3) = .bool true := h21.trans (congrArg Value.bool ht24)
    clear h21
    refine wp_cond_true hv25 ?_
    refine wp_seq_k fun K hK => ?_
    refine wp_g0 [true, false] [(1, false)] 6
      [ve (nv (Nm.mk 1 0)),
       vt] hs18 (.eq (.tt (.nil))) ?_ ?_
    · skip
      refine .o1 (tk rfl rfl fun _ w hn k => ⟨_, v_build (ps := [(0, iv 1)]) rfl (parts1 rfl) (by kernel_rfl), rfl⟩) ?_
      refine .off ?_
      exact .nil
    intro a26 w27 hn28 ha29
    have hs30 := ha29.size.trans hs18
    have hd31 := ha29.defers.trans hd19
    have h32 := ha29.fx 2 h20
    have h33 := ha29.ge 0 4 rfl
    have hb34 := hb22.new_ hn28
    have hN35 := hN23.transNew hn28
    clear hs18 hd19 h20 hv25 hb22 hN23 ha29 hn28
    obtain ⟨w36, -, hst37, hb38, hu39, hf40⟩ := s_two (v0 := iv 1) (v1 := iv 0) Tryd.sizeOf23 rfl rfl rfl hb34
    refine st_act rfl rfl fun K41 hL42 => a_store' rfl h32 h33 hst37 (hL42 _ _ trivial ?_)
    have hN43 := hN35.trans hu39 (fun k hk hkb => by subst hkb; omega)
    clear hb34 hst37 K41 hL42 hN35 hu39 hf40
    refine st_nil ?_
    clear h33
    refine hK _ _ ?_
    clear hK K
    refine wp_ret (ret_k hd31 (v := nv (Nm.mk 1 0)) (res_c rfl h32 (l_two Tryd.isAgg23 Tryd.sizeOf23 hb38)) ?_)
    refine ⟨?_, hN43⟩
    show Ending.returned (nv (Nm.mk 1 0)) = Ending.returned (nv (noughtM d))
    first | rfl | (simp [noughtM, ht24])
  have hv44 : a14.eval (.tmp 3) = .bool false := h21.trans (congrArg Value.bool ht24)
  clear h21
  refine wp_cond_false hv44 ?_
  refine wp_skip ?_
  refine hK _ _ ?_
  clear hK K
  refine wp_seq_k fun K hK => ?_
  refine wp_g0 [true, false] [(1, false)] 6
    [ve (nv (Nm.mk 0 0)),
     vt] hs18 (.eq (.tt (.nil))) ?_ ?_
  · skip
    refine .o1 (ck rfl rfl rfl (fun _ w hn k => ⟨#[iv 0], args1 rfl, fun _ => by kernel_rfl, whole_c 0 _⟩) fun _ => rfl) ?_
    refine .off ?_
    exact .nil
  intro a45 w46 hn47 ha48
  have hs49 := ha48.size.trans hs18
  have hd50 := ha48.defers.trans hd19
  have h51 := ha48.fx 2 h20
  have h52 := ha48.ge 0 5 rfl
  have hb53 := hb22.new_ hn47
  have hN54 := hN23.transNew hn47
  clear hs18 hd19 h20 hv44 hb22 hN23 ha48 hn47
  obtain ⟨w55, -, hst56, hb57, hu58, hf59⟩ := s_two (v0 := iv 0) (v1 := iv 0) Tryd.sizeOf23 rfl rfl rfl hb53
  refine st_act rfl rfl fun K60 hL61 => a_store' rfl h51 h52 hst56 (hL61 _ _ trivial ?_)
  have hN62 := hN54.trans hu58 (fun k hk hkb => by subst hkb; omega)
  clear hb53 hst56 K60 hL61 hN54 hu58 hf59
  refine st_nil ?_
  clear h52
  refine hK _ _ ?_
  clear hK K
  refine wp_ret (ret_k hd50 (v := nv (Nm.mk 0 0)) (res_c rfl h51 (l_two Tryd.isAgg23 Tryd.sizeOf23 hb57)) ?_)
  refine ⟨?_, hN62⟩
  show Ending.returned (nv (Nm.mk 0 0)) = Ending.returned (nv (noughtM d))
  first | rfl | (simp [noughtM, ht24])
set_option maxHeartbeats 4000000 in
set_option maxRecDepth 100000 in
theorem inf_c (d : Bool) (w : World) : Calls Tryd.prog 56 #[.bool d] w (IsRet (nv (infM d)) w) := by
  refine enter_abs Tryd.func56 rfl fun a0 hs0 hd0 hp => ?_
  have hs0 : a0.tmps.size = 6 := hs0
  have hN0 : New w w := Upd.refl _ _
  have hp0 : a0.eval (.tmp 0) = .bool d := hp 0 _ rfl
  clear hp
  refine wp_seq_k fun K hK => ?_
  refine wp_g [true] [] [] 6
    [IsNew w 23 [iv 0, iv 0]]
    [0] (newsCons (fun v w h => IsNew.old h) newsNil) hs0 (.nw (.nil)) ?_ (fun i h => by cases h) ?_
  · skip
    refine .o2 (step_allocN (cs := [iv 0, iv 0]) (t := 23) rfl (noG rfl) (fun _ w hn k => rfl) (fun q _ hq hb => ⟨q, rfl, hq, hb⟩)) ?_
    exact .nil
  intro a1 w2 hn3 ha4
  have hs5 := ha4.size.trans hs0
  have hd6 := ha4.defers.trans hd0
  have h7 := ha4.fx 0 hp0
  obtain ⟨q9, h8, hq10, hb11⟩ : IsNew _ _ _ _ _ := ha4.got 0 2 rfl (by kernel_rfl)
  have hq12 := Nat.le_trans hN0.size hq10
  have hN13 := hN0.transNew hn3
  clear hs0 hd0 hp0 hq10 hN0 ha4 hn3
  refine st_nil ?_
  refine hK _ _ ?_
  clear hK K
  refine wp_seq_k fun K hK => ?_
  refine wp_seq_k fun K hK => ?_
  refine wp_g0 [true] [] 6
    [ve (.bool d)] hs5 (.eq (.nil)) ?_ ?_
  · skip
    refine .o1 (tk rfl rfl fun _ w hn k => ⟨_, v_move rfl (k.fx 0 h7), rfl⟩) ?_
    exact .nil
  intro a14 w15 hn16 ha17
  have hs18 := ha17.size.trans hs5
  have hd19 := ha17.defers.trans hd6
  have h20 := ha17.fx 2 h8
  have h21 := ha17.ge 0 3 rfl
  have hb22 := hb11.new_ hn16
  have hN23 := hN13.transNew hn16
  clear hs5 hd6 h7 h8 hb11 hN13 ha17 hn16
  refine st_nil ?_
  refine hK _ _ ?_
  clear hK K
  rcases Bool.eq_false_or_eq_true (d) with ht24 | ht24
  · skip
    have hv25 : a14.eval (.tmp 3) = .bool true := h21.trans (congrArg Value.bool ht24)
    clear h21
    refine wp_cond_true hv25 ?_
    refine wp_seq_k fun K hK => ?_
    refine wp_g0 [true, false] [(1, false)] 6
      [ve (nv (Nm.mk 4 0)),
       vt] hs18 (.eq (.tt (.nil))) ?_ ?_
    · skip
      refine .o1 (tk rfl rfl fun _ w hn k => ⟨_, v_build (ps := [(0, iv 4)]) rfl (parts1 rfl) (by kernel_rfl), rfl⟩) ?_
      refine .off ?_
      exact .nil
    intro a26 w27 hn28 ha29
    have hs30 := ha29.size.trans hs18
    have hd31 := ha29.defers.trans hd19
    have h32 := ha29.fx 2 h20
    have h33 := ha29.ge 0 4 rfl
    have hb34 := hb22.new_ hn28
    have hN35 := hN23.transNew hn28
    clear hs18 hd19 h20 hv25 hb22 hN23 ha29 hn28
    obtain ⟨w36, -, hst37, hb38, hu39, hf40⟩ := s_two (v0 := iv 4) (v1 := iv 0) Tryd.sizeOf23 rfl rfl rfl hb34
    refine st_act rfl rfl fun K41 hL42 => a_store' rfl h32 h33 hst37 (hL42 _ _ trivial ?_)
    have hN43 := hN35.trans hu39 (fun k hk hkb => by subst hkb; omega)
    clear hb34 hst37 K41 hL42 hN35 hu39 hf40
    refine st_nil ?_
    clear h33
    refine hK _ _ ?_
    clear hK K
    refine wp_ret (ret_k hd31 (v := nv (Nm.mk 4 0)) (res_c rfl h32 (l_two Tryd.isAgg23 Tryd.sizeOf23 hb38)) ?_)
    refine ⟨?_, hN43⟩
    show Ending.returned (nv (Nm.mk 4 0)) = Ending.returned (nv (infM d))
    first | rfl | (simp [infM, ht24])
  have hv44 : a14.eval (.tmp 3) = .bool false := h21.trans (congrArg Value.bool ht24)
  clear h21
  refine wp_cond_false hv44 ?_
  refine wp_skip ?_
  refine hK _ _ ?_
  clear hK K
  refine wp_seq_k fun K hK => ?_
  refine wp_g0 [true, false] [(1, false)] 6
    [ve (nv (Nm.mk 3 0)),
     vt] hs18 (.eq (.tt (.nil))) ?_ ?_
  · skip
    refine .o1 (tk rfl rfl fun _ w hn k => ⟨_, v_build (ps := [(0, iv 3)]) rfl (parts1 rfl) (by kernel_rfl), rfl⟩) ?_
    refine .off ?_
    exact .nil
  intro a45 w46 hn47 ha48
  have hs49 := ha48.size.trans hs18
  have hd50 := ha48.defers.trans hd19
  have h51 := ha48.fx 2 h20
  have h52 := ha48.ge 0 5 rfl
  have hb53 := hb22.new_ hn47
  have hN54 := hN23.transNew hn47
  clear hs18 hd19 h20 hv44 hb22 hN23 ha48 hn47
  obtain ⟨w55, -, hst56, hb57, hu58, hf59⟩ := s_two (v0 := iv 3) (v1 := iv 0) Tryd.sizeOf23 rfl rfl rfl hb53
  refine st_act rfl rfl fun K60 hL61 => a_store' rfl h51 h52 hst56 (hL61 _ _ trivial ?_)
  have hN62 := hN54.trans hu58 (fun k hk hkb => by subst hkb; omega)
  clear hb53 hst56 K60 hL61 hN54 hu58 hf59
  refine st_nil ?_
  clear h52
  refine hK _ _ ?_
  clear hK K
  refine wp_ret (ret_k hd50 (v := nv (Nm.mk 3 0)) (res_c rfl h51 (l_two Tryd.isAgg23 Tryd.sizeOf23 hb57)) ?_)
  refine ⟨?_, hN62⟩
  show Ending.returned (nv (Nm.mk 3 0)) = Ending.returned (nv (infM d))
  first | rfl | (simp [infM, ht24])
set_option maxHeartbeats 4000000 in
set_option maxRecDepth 100000 in
theorem may_c (a : Nm) (w : World) : Calls Tryd.prog 44 #[nv a] w (IsRet (.bool (mayB a)) w) := by
  refine enter_abs Tryd.func44 rfl fun a0 hs0 hd0 hp => ?_
  have hs0 : a0.tmps.size = 23 := hs0
  have hN0 : New w w := Upd.refl _ _
  have hp0 : a0.eval (.tmp 0) = nv a := hp 0 _ rfl
  clear hp
  refine wp_seq_k fun K hK => ?_
  refine wp_g [true, true] [] [] 23
    [IsNew w 23 [iv a.k, iv a.n],
     ve (.bool false)]
    [0] (newsCons (fun v w h => IsNew.old h) newsNil) hs0 (.nw (.eq (.nil))) ?_ (fun i h => by cases h) ?_
  · skip
    refine .o2 (step_allocN (cs := [iv a.k, iv a.n]) (t := 23) rfl (noG rfl) (fun _ w hn k => v_box rfl (k.fx 0 hp0) (fun w => rfl)) (fun q _ hq hb => ⟨q, rfl, hq, hb⟩)) ?_
    refine .o1 (tk rfl rfl fun _ w hn k => ⟨_, v_assign rfl rfl, rfl⟩) ?_
    exact .nil
  intro a1 w2 hn3 ha4
  have hs5 := ha4.size.trans hs0
  have hd6 := ha4.defers.trans hd0
  obtain ⟨q8, h7, hq9, hb10⟩ : IsNew _ _ _ _ _ := ha4.got 0 1 rfl (by kernel_rfl)
  have h11 := ha4.ge 1 2 rfl
  have hq12 := Nat.le_trans hN0.size hq9
  have hN13 := hN0.transNew hn3
  clear hs0 hd0 hp0 hq9 hN0 ha4 hn3
  refine st_nil ?_
  refine hK _ _ ?_
  clear hK K
  refine wp_seq_k fun K hK => ?_
  refine wp_seq_k fun K hK => ?_
  refine wp_g0 [true, true] [] 23
    [ve (pv q8),
     ve (iv a.k)] hs5 (.eq (.eq (.nil))) ?_ ?_
  · skip
    refine .o1 (tk rfl rfl fun _ w hn k => ⟨_, v_field rfl (k.fx 1 h7) (fun w => rfl), rfl⟩) ?_
    refine .o1 (tk rfl rfl fun _ w hn k => ⟨_, v_load rfl (k.eq1 0 3 rfl) (l_one Tryd.isAgg3 ((hb10.new_ hn).cell 0)), rfl⟩) ?_
    exact .nil
  intro a14 w15 hn16 ha17
  have hs18 := ha17.size.trans hs5
  have hd19 := ha17.defers.trans hd6
  have h20 := ha17.fx 1 h7
  have h21 := ha17.fx 2 h11
  have h22 := ha17.ge 1 4 rfl
  have hb23 := hb10.new_ hn16
  have hN24 := hN13.transNew hn16
  clear hs5 hd6 h7 h11 hb10 hN13 ha17 hn16
  refine st_nil ?_
  refine hK _ _ ?_
  clear hK K
  refine wp_block ?_
  refine wp_seq_k fun K hK => ?_
  refine wp_g0 [true, true] [] 23
    [ve (.bool (decide (a.k = 0))),
     ve (.bool (decide (a.k = 0)))] hs18 (.eq (.eq (.nil))) ?_ ?_
  · skip
    refine .o1 (tk rfl rfl fun _ w hn k => ⟨_, v_bin rfl (k.fx 4 h22) rfl (fun _ => rfl) (r_eql rfl), rfl⟩) ?_
    refine .o1 (tk rfl rfl fun _ w hn k => ⟨_, v_assign rfl (k.eq1 0 6 rfl), rfl⟩) ?_
    exact .nil
  intro a25 w26 hn27 ha28
  have hs29 := ha28.size.trans hs18
  have hd30 := ha28.defers.trans hd19
  have h31 := ha28.fx 1 h20
  have h32 := ha28.fx 2 h21
  have h33 := ha28.fx 4 h22
  have h34 := ha28.ge 1 5 rfl
  have hb35 := hb23.new_ hn27
  have hN36 := hN24.transNew hn27
  clear hs18 hd19 h20 h21 h22 hb23 hN24 ha28 hn27
  refine st_nil ?_
  refine hK _ _ ?_
  clear hK K
  rcases Bool.eq_false_or_eq_true (decide (a.k = 0)) with ht37 | ht37
  · skip
    have ht37d := of_decide_eq_true ht37
    have hv38 : a25.eval (.tmp 5) = .bool true := h34.trans (congrArg Value.bool ht37)
    clear h34
    refine wp_cond_true hv38 ?_
    refine wp_seq_k fun K hK => ?_
    rcases Bool.eq_false_or_eq_true (decide (a.n < -9007199254740991)) with ht39 | ht39
    · skip
      have ht39d := of_decide_eq_true ht39
      refine wp_g0 [true, true, true, true, true, true, true, true, true] [] 23
        [ve (.pointer (some ⟨q8, 1, none⟩)),
         ve (iv a.n),
         ve (.bool false),
         ve (.bool false),
         ve undef,
         ve undef,
         ve undef,
         ve (.bool false),
         ve (.bool false)] hs29 (.eq (.eq (.eq (.eq (.eq (.eq (.eq (.eq (.eq (.nil)))))))))) ?_ ?_
      · skip
        refine .o1 (tk rfl rfl fun _ w hn k => ⟨_, v_field rfl (k.fx 1 h31) (fun w => rfl), rfl⟩) ?_
        refine .o1 (tk rfl rfl fun _ w hn k => ⟨_, v_load rfl (k.eq1 0 7 rfl) (l_one Tryd.isAgg3 ((hb35.new_ hn).cell 1)), rfl⟩) ?_
        refine .o1 (tk rfl rfl fun _ w hn k => ⟨_, v_bin rfl (k.eq1 1 8 rfl) rfl (fun _ => rfl) (r_geqK ht39), rfl⟩) ?_
        refine .o1 (tk rfl rfl fun _ w hn k => ⟨_, v_move rfl (k.eq1 2 9 rfl), rfl⟩) ?_
        refine .o1 (sk rfl rfl rfl (fun _ _ _ k => k.eq1 3 10 rfl) (fun _ => rfl)) ?_
        refine .o1 (sk rfl rfl rfl (fun _ _ _ k => k.eq1 3 10 rfl) (fun _ => rfl)) ?_
        refine .o1 (sk rfl rfl rfl (fun _ _ _ k => k.eq1 3 10 rfl) (fun _ => rfl)) ?_
        refine .o1 (tk rfl rfl fun _ w hn k => ⟨_, v_pickF rfl (k.eq1 3 10 rfl) rfl, rfl⟩) ?_
        refine .o1 (tk rfl rfl fun _ w hn k => ⟨_, v_assign rfl (k.eq1 7 14 rfl), rfl⟩) ?_
        exact .nil
      intro a40 w41 hn42 ha43
      have hs44 := ha43.size.trans hs29
      have hd45 := ha43.defers.trans hd30
      have h46 := ha43.ge 8 2 rfl
      have hN47 := hN36.transNew hn42
      clear hs29 hd30 h31 h32 h33 hv38 hb35 hq12 hN36 ha43 hn42
      refine st_nil ?_
      refine hK _ _ ?_
      clear hK K
      refine wp_ret (ret_k hd45 (v := .bool false) (res_t rfl h46 _) ?_)
      refine ⟨?_, hN47⟩
      show Ending.returned (.bool false) = Ending.returned (.bool (mayB a))
      first | rfl | (simp [mayB, ht37, ht39])
    have ht39d := of_decide_eq_false ht39
    refine wp_g0 [true, true, true, true, true, true, true, true, true] [] 23
      [ve (.pointer (some ⟨q8, 1, none⟩)),
       ve (iv a.n),
       ve (.bool true),
       ve (.bool true),
       ve (.pointer (some ⟨q8, 1, none⟩)),
       ve (iv a.n),
       ve (.bool (decide (a.n ≤ 9007199254740991))),
       ve (.bool (decide (a.n ≤ 9007199254740991))),
       ve (.bool (decide (a.n ≤ 9007199254740991)))] hs29 (.eq (.eq (.eq (.eq (.eq (.eq (.eq (.eq (.eq (.nil)))))))))) ?_ ?_
    · skip
      refine .o1 (tk rfl rfl fun _ w hn k => ⟨_, v_field rfl (k.fx 1 h31) (fun w => rfl), rfl⟩) ?_
      refine .o1 (tk rfl rfl fun _ w hn k => ⟨_, v_load rfl (k.eq1 0 7 rfl) (l_one Tryd.isAgg3 ((hb35.new_ hn).cell 1)), rfl⟩) ?_
      refine .o1 (tk rfl rfl fun _ w hn k => ⟨_, v_bin rfl (k.eq1 1 8 rfl) rfl (fun _ => rfl) (r_geqK ht39), rfl⟩) ?_
      refine .o1 (tk rfl rfl fun _ w hn k => ⟨_, v_move rfl (k.eq1 2 9 rfl), rfl⟩) ?_
      refine .o1 (tg rfl rfl rfl (fun _ _ k => k.eq1 3 10 rfl) fun _ w hn k => ⟨_, v_field rfl (k.fx 1 h31) (fun w => rfl), rfl⟩) ?_
      refine .o1 (tg rfl rfl rfl (fun _ _ k => k.eq1 3 10 rfl) fun _ w hn k => ⟨_, v_load rfl (k.eq1 4 11 rfl) (l_one Tryd.isAgg3 ((hb35.new_ hn).cell 1)), rfl⟩) ?_
      refine .o1 (tg rfl rfl rfl (fun _ _ k => k.eq1 3 10 rfl) fun _ w hn k => ⟨_, v_bin rfl (k.eq1 5 12 rfl) rfl (fun _ => rfl) (r_leqK rfl), rfl⟩) ?_
      refine .o1 (tk rfl rfl fun _ w hn k => ⟨_, v_pickT rfl (k.eq1 3 10 rfl) (k.eq1 6 13 rfl), rfl⟩) ?_
      refine .o1 (tk rfl rfl fun _ w hn k => ⟨_, v_assign rfl (k.eq1 7 14 rfl), rfl⟩) ?_
      exact .nil
    intro a48 w49 hn50 ha51
    have hs52 := ha51.size.trans hs29
    have hd53 := ha51.defers.trans hd30
    have h54 := ha51.ge 8 2 rfl
    have hN55 := hN36.transNew hn50
    clear hs29 hd30 h31 h32 h33 hv38 hb35 hq12 hN36 ha51 hn50
    refine st_nil ?_
    refine hK _ _ ?_
    clear hK K
    refine wp_ret (ret_k hd53 (v := .bool (decide (a.n ≤ 9007199254740991))) (res_t rfl h54 _) ?_)
    refine ⟨?_, hN55⟩
    show Ending.returned (.bool (decide (a.n ≤ 9007199254740991))) = Ending.returned (.bool (mayB a))
    first | rfl | (simp [mayB, ht37, ht39])
  have ht37d := of_decide_eq_false ht37
  have hv56 : a25.eval (.tmp 5) = .bool false := h34.trans (congrArg Value.bool ht37)
  clear h34
  refine wp_cond_false hv56 ?_
  refine wp_seq_k fun K hK => ?_
  refine wp_seq_k fun K hK => ?_
  refine wp_g0 [true, true] [] 23
    [ve (.bool (decide (a.k = 1))),
     ve (.bool (decide (a.k = 1)))] hs29 (.eq (.eq (.nil))) ?_ ?_
  · skip
    refine .o1 (tk rfl rfl fun _ w hn k => ⟨_, v_bin rfl (k.fx 4 h33) rfl (fun _ => rfl) (r_eql rfl), rfl⟩) ?_
    refine .o1 (tk rfl rfl fun _ w hn k => ⟨_, v_assign rfl (k.eq1 0 16 rfl), rfl⟩) ?_
    exact .nil
  intro a57 w58 hn59 ha60
  have hs61 := ha60.size.trans hs29
  have hd62 := ha60.defers.trans hd30
  have h63 := ha60.fx 1 h31
  have h64 := ha60.fx 2 h32
  have h65 := ha60.fx 4 h33
  have h66 := ha60.ge 1 15 rfl
  have hb67 := hb35.new_ hn59
  have hN68 := hN36.transNew hn59
  clear hs29 hd30 h31 h32 h33 hv56 hb35 hN36 ha60 hn59
  refine st_nil ?_
  refine hK _ _ ?_
  clear hK K
  rcases Bool.eq_false_or_eq_true (decide (a.k = 1)) with ht69 | ht69
  · skip
    have ht69d := of_decide_eq_true ht69
    have hv70 : a57.eval (.tmp 15) = .bool true := h66.trans (congrArg Value.bool ht69)
    clear h66
    refine wp_cond_true hv70 ?_
    refine wp_skip ?_
    refine hK _ _ ?_
    clear hK K
    refine wp_cond_true hv70 ?_
    refine wp_seq_k fun K hK => ?_
    refine wp_g0 [true, true, true, true] [] 23
      [ve (.pointer (some ⟨q8, 1, none⟩)),
       ve (iv a.n),
       ve (.bool (decide (a.n = 0))),
       ve (.bool (decide (a.n = 0)))] hs61 (.eq (.eq (.eq (.eq (.nil))))) ?_ ?_
    · skip
      refine .o1 (tk rfl rfl fun _ w hn k => ⟨_, v_field rfl (k.fx 1 h63) (fun w => rfl), rfl⟩) ?_
      refine .o1 (tk rfl rfl fun _ w hn k => ⟨_, v_load rfl (k.eq1 0 20 rfl) (l_one Tryd.isAgg3 ((hb67.new_ hn).cell 1)), rfl⟩) ?_
      refine .o1 (tk rfl rfl fun _ w hn k => ⟨_, v_bin rfl (k.eq1 1 21 rfl) rfl (fun _ => rfl) (r_eql rfl), rfl⟩) ?_
      refine .o1 (tk rfl rfl fun _ w hn k => ⟨_, v_assign rfl (k.eq1 2 22 rfl), rfl⟩) ?_
      exact .nil
    intro a71 w72 hn73 ha74
    have hs75 := ha74.size.trans hs61
    have hd76 := ha74.defers.trans hd62
    have h77 := ha74.ge 3 2 rfl
    have hN78 := hN68.transNew hn73
    clear hs61 hd62 h63 h64 h65 hv70 hb67 hq12 hN68 ha74 hn73
    refine st_nil ?_
    refine hK _ _ ?_
    clear hK K
    refine wp_ret (ret_k hd76 (v := .bool (decide (a.n = 0))) (res_t rfl h77 _) ?_)
    refine ⟨?_, hN78⟩
    show Ending.returned (.bool (decide (a.n = 0))) = Ending.returned (.bool (mayB a))
    first | rfl | (simp [mayB, ht37, ht69])
  have ht69d := of_decide_eq_false ht69
  have hv79 : a57.eval (.tmp 15) = .bool false := h66.trans (congrArg Value.bool ht69)
  clear h66
  refine wp_cond_false hv79 ?_
  refine wp_seq_k fun K hK => ?_
  refine wp_g0 [true, true] [] 23
    [ve (.bool (decide (a.k = 2))),
     ve (.bool (decide (a.k = 2)))] hs61 (.eq (.eq (.nil))) ?_ ?_
  · skip
    refine .o1 (tk rfl rfl fun _ w hn k => ⟨_, v_bin rfl (k.fx 4 h65) rfl (fun _ => rfl) (r_eql rfl), rfl⟩) ?_
    refine .o1 (tk rfl rfl fun _ w hn k => ⟨_, v_assign rfl (k.eq1 0 17 rfl), rfl⟩) ?_
    exact .nil
  intro a80 w81 hn82 ha83
  have hs84 := ha83.size.trans hs61
  have hd85 := ha83.defers.trans hd62
  have h86 := ha83.fx 1 h63
  have h87 := ha83.fx 2 h64
  have h88 := ha83.fx 4 h65
  have h89 := ha83.ge 1 15 rfl
  have hb90 := hb67.new_ hn82
  have hN91 := hN68.transNew hn82
  clear hs61 hd62 h63 h64 h65 hv79 hb67 hN68 ha83 hn82
  refine st_nil ?_
  refine hK _ _ ?_
  clear hK K
  rcases Bool.eq_false_or_eq_true (decide (a.k = 2)) with ht92 | ht92
  · skip
    have ht92d := of_decide_eq_true ht92
    have hv93 : a80.eval (.tmp 15) = .bool true := h89.trans (congrArg Value.bool ht92)
    clear h89
    refine wp_cond_true hv93 ?_
    refine wp_skip ?_
    refine hK _ _ ?_
    clear hK K
    refine wp_cond_true hv93 ?_
    refine wp_seq_k fun K hK => ?_
    refine wp_g0 [true, true, true, true] [] 23
      [ve (.pointer (some ⟨q8, 1, none⟩)),
       ve (iv a.n),
       ve (.bool (decide (a.n = 0))),
       ve (.bool (decide (a.n = 0)))] hs84 (.eq (.eq (.eq (.eq (.nil))))) ?_ ?_
    · skip
      refine .o1 (tk rfl rfl fun _ w hn k => ⟨_, v_field rfl (k.fx 1 h86) (fun w => rfl), rfl⟩) ?_
      refine .o1 (tk rfl rfl fun _ w hn k => ⟨_, v_load rfl (k.eq1 0 20 rfl) (l_one Tryd.isAgg3 ((hb90.new_ hn).cell 1)), rfl⟩) ?_
      refine .o1 (tk rfl rfl fun _ w hn k => ⟨_, v_bin rfl (k.eq1 1 21 rfl) rfl (fun _ => rfl) (r_eql rfl), rfl⟩) ?_
      refine .o1 (tk rfl rfl fun _ w hn k => ⟨_, v_assign rfl (k.eq1 2 22 rfl), rfl⟩) ?_
      exact .nil
    intro a94 w95 hn96 ha97
    have hs98 := ha97.size.trans hs84
    have hd99 := ha97.defers.trans hd85
    have h100 := ha97.ge 3 2 rfl
    have hN101 := hN91.transNew hn96
    clear hs84 hd85 h86 h87 h88 hv93 hb90 hq12 hN91 ha97 hn96
    refine st_nil ?_
    refine hK _ _ ?_
    clear hK K
    refine wp_ret (ret_k hd99 (v := .bool (decide (a.n = 0))) (res_t rfl h100 _) ?_)
    refine ⟨?_, hN101⟩
    show Ending.returned (.bool (decide (a.n = 0))) = Ending.returned (.bool (mayB a))
    first | rfl | (simp [mayB, ht37, ht69, ht92])
  have ht92d := of_decide_eq_false ht92
  have hv102 : a80.eval (.tmp 15) = .bool false := h89.trans (congrArg Value.bool ht92)
  clear h89
  refine wp_cond_false hv102 ?_
  refine wp_seq_k fun K hK => ?_
  refine wp_g0 [true, true] [] 23
    [ve (.bool (decide (a.k = 3))),
     ve (.bool (decide (a.k = 3)))] hs84 (.eq (.eq (.nil))) ?_ ?_
  · skip
    refine .o1 (tk rfl rfl fun _ w hn k => ⟨_, v_bin rfl (k.fx 4 h88) rfl (fun _ => rfl) (r_eql rfl), rfl⟩) ?_
    refine .o1 (tk rfl rfl fun _ w hn k => ⟨_, v_assign rfl (k.eq1 0 18 rfl), rfl⟩) ?_
    exact .nil
  intro a103 w104 hn105 ha106
  have hs107 := ha106.size.trans hs84
  have hd108 := ha106.defers.trans hd85
  have h109 := ha106.fx 1 h86
  have h110 := ha106.fx 2 h87
  have h111 := ha106.fx 4 h88
  have h112 := ha106.ge 1 15 rfl
  have hb113 := hb90.new_ hn105
  have hN114 := hN91.transNew hn105
  clear hs84 hd85 h86 h87 h88 hv102 hb90 hN91 ha106 hn105
  refine st_nil ?_
  refine hK _ _ ?_
  clear hK K
  rcases Bool.eq_false_or_eq_true (decide (a.k = 3)) with ht115 | ht115
  · skip
    have ht115d := of_decide_eq_true ht115
    have hv116 : a103.eval (.tmp 15) = .bool true := h112.trans (congrArg Value.bool ht115)
    clear h112
    refine wp_cond_true hv116 ?_
    refine wp_skip ?_
    refine hK _ _ ?_
    clear hK K
    refine wp_cond_true hv116 ?_
    refine wp_seq_k fun K hK => ?_
    refine wp_g0 [true, true, true, true] [] 23
      [ve (.pointer (some ⟨q8, 1, none⟩)),
       ve (iv a.n),
       ve (.bool (decide (a.n = 0))),
       ve (.bool (decide (a.n = 0)))] hs107 (.eq (.eq (.eq (.eq (.nil))))) ?_ ?_
    · skip
      refine .o1 (tk rfl rfl fun _ w hn k => ⟨_, v_field rfl (k.fx 1 h109) (fun w => rfl), rfl⟩) ?_
      refine .o1 (tk rfl rfl fun _ w hn k => ⟨_, v_load rfl (k.eq1 0 20 rfl) (l_one Tryd.isAgg3 ((hb113.new_ hn).cell 1)), rfl⟩) ?_
      refine .o1 (tk rfl rfl fun _ w hn k => ⟨_, v_bin rfl (k.eq1 1 21 rfl) rfl (fun _ => rfl) (r_eql rfl), rfl⟩) ?_
      refine .o1 (tk rfl rfl fun _ w hn k => ⟨_, v_assign rfl (k.eq1 2 22 rfl), rfl⟩) ?_
      exact .nil
    intro a117 w118 hn119 ha120
    have hs121 := ha120.size.trans hs107
    have hd122 := ha120.defers.trans hd108
    have h123 := ha120.ge 3 2 rfl
    have hN124 := hN114.transNew hn119
    clear hs107 hd108 h109 h110 h111 hv116 hb113 hq12 hN114 ha120 hn119
    refine st_nil ?_
    refine hK _ _ ?_
    clear hK K
    refine wp_ret (ret_k hd122 (v := .bool (decide (a.n = 0))) (res_t rfl h123 _) ?_)
    refine ⟨?_, hN124⟩
    show Ending.returned (.bool (decide (a.n = 0))) = Ending.returned (.bool (mayB a))
    first | rfl | (simp [mayB, ht37, ht69, ht92, ht115])
  have ht115d := of_decide_eq_false ht115
  have hv125 : a103.eval (.tmp 15) = .bool false := h112.trans (congrArg Value.bool ht115)
  clear h112
  refine wp_cond_false hv125 ?_
  refine wp_g0 [true, true] [] 23
    [ve (.bool (decide (a.k = 4))),
     ve (.bool (decide (a.k = 4)))] hs107 (.eq (.eq (.nil))) ?_ ?_
  · skip
    refine .o1 (tk rfl rfl fun _ w hn k => ⟨_, v_bin rfl (k.fx 4 h111) rfl (fun _ => rfl) (r_eql rfl), rfl⟩) ?_
    refine .o1 (tk rfl rfl fun _ w hn k => ⟨_, v_assign rfl (k.eq1 0 19 rfl), rfl⟩) ?_
    exact .nil
  intro a126 w127 hn128 ha129
  have hs130 := ha129.size.trans hs107
  have hd131 := ha129.defers.trans hd108
  have h132 := ha129.fx 1 h109
  have h133 := ha129.fx 2 h110
  have h134 := ha129.ge 1 15 rfl
  have hb135 := hb113.new_ hn128
  have hN136 := hN114.transNew hn128
  clear hs107 hd108 h109 h110 h111 hv125 hb113 hN114 ha129 hn128
  refine st_nil ?_
  refine hK _ _ ?_
  clear hK K
  rcases Bool.eq_false_or_eq_true (decide (a.k = 4)) with ht137 | ht137
  · skip
    have ht137d := of_decide_eq_true ht137
    have hv138 : a126.eval (.tmp 15) = .bool true := h134.trans (congrArg Value.bool ht137)
    clear h134
    refine wp_cond_true hv138 ?_
    refine wp_seq_k fun K hK => ?_
    refine wp_g0 [true, true, true, true] [] 23
      [ve (.pointer (some ⟨q8, 1, none⟩)),
       ve (iv a.n),
       ve (.bool (decide (a.n = 0))),
       ve (.bool (decide (a.n = 0)))] hs130 (.eq (.eq (.eq (.eq (.nil))))) ?_ ?_
    · skip
      refine .o1 (tk rfl rfl fun _ w hn k => ⟨_, v_field rfl (k.fx 1 h132) (fun w => rfl), rfl⟩) ?_
      refine .o1 (tk rfl rfl fun _ w hn k => ⟨_, v_load rfl (k.eq1 0 20 rfl) (l_one Tryd.isAgg3 ((hb135.new_ hn).cell 1)), rfl⟩) ?_
      refine .o1 (tk rfl rfl fun _ w hn k => ⟨_, v_bin rfl (k.eq1 1 21 rfl) rfl (fun _ => rfl) (r_eql rfl), rfl⟩) ?_
      refine .o1 (tk rfl rfl fun _ w hn k => ⟨_, v_assign rfl (k.eq1 2 22 rfl), rfl⟩) ?_
      exact .nil
    intro a139 w140 hn141 ha142
    have hs143 := ha142.size.trans hs130
    have hd144 := ha142.defers.trans hd131
    have h145 := ha142.ge 3 2 rfl
    have hN146 := hN136.transNew hn141
    clear hs130 hd131 h132 h133 hv138 hb135 hq12 hN136 ha142 hn141
    refine st_nil ?_
    refine hK _ _ ?_
    clear hK K
    refine wp_ret (ret_k hd144 (v := .bool (decide (a.n = 0))) (res_t rfl h145 _) ?_)
    refine ⟨?_, hN146⟩
    show Ending.returned (.bool (decide (a.n = 0))) = Ending.returned (.bool (mayB a))
    first | rfl | (simp [mayB, ht37, ht69, ht92, ht115, ht137])
  have ht137d := of_decide_eq_false ht137
  have hv147 : a126.eval (.tmp 15) = .bool false := h134.trans (congrArg Value.bool ht137)
  clear h134
  refine wp_cond_false hv147 ?_
  refine wp_skip ?_
  refine hK _ _ ?_
  clear hK K
  refine wp_seq_k fun K hK => ?_
  refine wp_g0 [true] [] 23
    [ve (.bool false)] hs130 (.eq (.nil)) ?_ ?_
  · skip
    refine .o1 (tk rfl rfl fun _ w hn k => ⟨_, v_assign rfl rfl, rfl⟩) ?_
    exact .nil
  intro a148 w149 hn150 ha151
  have hs152 := ha151.size.trans hs130
  have hd153 := ha151.defers.trans hd131
  have h154 := ha151.ge 0 2 rfl
  have hN155 := hN136.transNew hn150
  clear hs130 hd131 h132 h133 hv147 hb135 hq12 hN136 ha151 hn150
  refine st_nil ?_
  refine hK _ _ ?_
  clear hK K
  refine wp_ret (ret_k hd153 (v := .bool false) (res_t rfl h154 _) ?_)
  refine ⟨?_, hN155⟩
  show Ending.returned (.bool false) = Ending.returned (.bool (mayB a))
  first | rfl | (simp [mayB, ht37, ht69, ht92, ht115, ht137])
set_option maxHeartbeats 4000000 in
set_option maxRecDepth 100000 in
theorem as_c (a : Nm) (w : World) : Calls Tryd.prog 63 #[nv a] w (IsRet (nv (asM a)) w) := by
  refine enter_abs Tryd.func63 rfl fun a0 hs0 hd0 hp => ?_
  have hs0 : a0.tmps.size = 8 := hs0
  have hN0 : New w w := Upd.refl _ _
  have hp0 : a0.eval (.tmp 0) = nv a := hp 0 _ rfl
  clear hp
  refine wp_seq_k fun K hK => ?_
  refine wp_g [true, true] [] [] 8
    [IsNew w 23 [iv a.k, iv a.n],
     IsNew w 23 [iv 0, iv 0]]
    [0, 1] (newsCons (fun v w h => IsNew.old h) (newsCons (fun v w h => IsNew.old h) newsNil)) hs0 (.nw (.nw (.nil))) ?_ (fun i h => by cases h) ?_
  · skip
    refine .o2 (step_allocN (cs := [iv a.k, iv a.n]) (t := 23) rfl (noG rfl) (fun _ w hn k => v_box rfl (k.fx 0 hp0) (fun w => rfl)) (fun q _ hq hb => ⟨q, rfl, hq, hb⟩)) ?_
    refine .o2 (step_allocN (cs := [iv 0, iv 0]) (t := 23) rfl (noG rfl) (fun _ w hn k => rfl) (fun q _ hq hb => ⟨q, rfl, hq, hb⟩)) ?_
    exact .nil
  intro a1 w2 hn3 ha4
  have hs5 := ha4.size.trans hs0
  have hd6 := ha4.defers.trans hd0
  obtain ⟨q8, h7, hq9, hb10⟩ : IsNew _ _ _ _ _ := ha4.got 0 1 rfl (by kernel_rfl)
  obtain ⟨q12, h11, hq13, hb14⟩ : IsNew _ _ _ _ _ := ha4.got 1 2 rfl (by kernel_rfl)
  have hne15 : q8 ≠ q12 := ha4.ne 0 1 1 2 h7 h11
  have hq16 := Nat.le_trans hN0.size hq9
  have hq17 := Nat.le_trans hN0.size hq13
  have hN18 := hN0.transNew hn3
  clear hs0 hd0 hp0 hq9 hq13 hN0 ha4 hn3
  refine st_nil ?_
  refine hK _ _ ?_
  clear hK K
  refine wp_seq_k fun K hK => ?_
  refine wp_seq_k fun K hK => ?_
  rcases Bool.eq_false_or_eq_true (mayB a) with ht19 | ht19
  · skip
    refine wp_g0 [true, true, true] [] 8
      [ve (nv a),
       ve (.bool true),
       ve (.bool false)] hs5 (.eq (.eq (.eq (.nil)))) ?_ ?_
    · skip
      refine .o1 (tk rfl rfl fun _ w hn k => ⟨_, v_load rfl (k.fx 1 h7) (l_two Tryd.isAgg23 Tryd.sizeOf23 (hb10.new_ hn)), rfl⟩) ?_
      refine .o1 (ck rfl rfl rfl (fun _ w hn k => ⟨#[nv a], args1 (k.eq1 0 3 rfl), fun _ => by kernel_rfl, may_c a _⟩) fun _ => congrArg Value.bool ht19) ?_
      refine .o1 (tk rfl rfl fun _ w hn k => ⟨_, v_not rfl (k.eq1 1 4 rfl), rfl⟩) ?_
      exact .nil
    intro a20 w21 hn22 ha23
    have hs24 := ha23.size.trans hs5
    have hd25 := ha23.defers.trans hd6
    have h26 := ha23.fx 1 h7
    have h27 := ha23.fx 2 h11
    have h28 := ha23.ge 2 5 rfl
    have hb29 := hb10.new_ hn22
    have hb30 := hb14.new_ hn22
    have hN31 := hN18.transNew hn22
    clear hs5 hd6 h7 h11 hb10 hb14 hN18 ha23 hn22
    refine st_nil ?_
    refine hK _ _ ?_
    clear hK K
    refine wp_cond_false h28 ?_
    refine wp_skip ?_
    refine hK _ _ ?_
    clear hK K
    refine wp_seq_k fun K hK => ?_
    refine wp_g0 [true, false] [(1, false)] 8
      [ve (nv a),
       vt] hs24 (.eq (.tt (.nil))) ?_ ?_
    · skip
      refine .o1 (tk rfl rfl fun _ w hn k => ⟨_, v_load rfl (k.fx 1 h26) (l_two Tryd.isAgg23 Tryd.sizeOf23 (hb29.new_ hn)), rfl⟩) ?_
      refine .off ?_
      exact .nil
    intro a32 w33 hn34 ha35
    have hs36 := ha35.size.trans hs24
    have hd37 := ha35.defers.trans hd25
    have h38 := ha35.fx 2 h27
    have h39 := ha35.ge 0 7 rfl
    have hb40 := hb30.new_ hn34
    have hN41 := hN31.transNew hn34
    clear hs24 hd25 h26 h27 h28 hb29 hq16 hb30 hN31 ha35 hn34
    obtain ⟨w42, -, hst43, hb44, hu45, hf46⟩ := s_two (v0 := iv a.k) (v1 := iv a.n) Tryd.sizeOf23 rfl rfl rfl hb40
    refine st_act rfl rfl fun K47 hL48 => a_store' rfl h38 h39 hst43 (hL48 _ _ trivial ?_)
    have hN49 := hN41.trans hu45 (fun k hk hkb => by subst hkb; omega)
    clear hb40 hst43 K47 hL48 hN41 hu45 hf46
    refine st_nil ?_
    clear h39
    refine hK _ _ ?_
    clear hK K
    refine wp_ret (ret_k hd37 (v := nv a) (res_c rfl h38 (l_two Tryd.isAgg23 Tryd.sizeOf23 hb44)) ?_)
    refine ⟨?_, hN49⟩
    show Ending.returned (nv a) = Ending.returned (nv (asM a))
    first | rfl | (simp [asM, ht19])
  refine wp_g0 [true, true, true] [] 8
    [ve (nv a),
     ve (.bool false),
     ve (.bool true)] hs5 (.eq (.eq (.eq (.nil)))) ?_ ?_
  · skip
    refine .o1 (tk rfl rfl fun _ w hn k => ⟨_, v_load rfl (k.fx 1 h7) (l_two Tryd.isAgg23 Tryd.sizeOf23 (hb10.new_ hn)), rfl⟩) ?_
    refine .o1 (ck rfl rfl rfl (fun _ w hn k => ⟨#[nv a], args1 (k.eq1 0 3 rfl), fun _ => by kernel_rfl, may_c a _⟩) fun _ => congrArg Value.bool ht19) ?_
    refine .o1 (tk rfl rfl fun _ w hn k => ⟨_, v_not rfl (k.eq1 1 4 rfl), rfl⟩) ?_
    exact .nil
  intro a50 w51 hn52 ha53
  have hs54 := ha53.size.trans hs5
  have hd55 := ha53.defers.trans hd6
  have h56 := ha53.fx 1 h7
  have h57 := ha53.fx 2 h11
  have h58 := ha53.ge 2 5 rfl
  have hb59 := hb10.new_ hn52
  have hb60 := hb14.new_ hn52
  have hN61 := hN18.transNew hn52
  clear hs5 hd6 h7 h11 hb10 hb14 hN18 ha53 hn52
  refine st_nil ?_
  refine hK _ _ ?_
  clear hK K
  refine wp_cond_true h58 ?_
  refine wp_seq_k fun K hK => ?_
  refine wp_g0 [true, false] [(1, false)] 8
    [ve (nv (Nm.mk 2 0)),
     vt] hs54 (.eq (.tt (.nil))) ?_ ?_
  · skip
    refine .o1 (ck rfl rfl rfl (fun _ w hn k => ⟨#[], rfl, fun _ => by kernel_rfl, nan_c  _⟩) fun _ => rfl) ?_
    refine .off ?_
    exact .nil
  intro a62 w63 hn64 ha65
  have hs66 := ha65.size.trans hs54
  have hd67 := ha65.defers.trans hd55
  have h68 := ha65.fx 1 h56
  have h69 := ha65.fx 2 h57
  have h70 := ha65.ge 0 6 rfl
  have hb71 := hb59.new_ hn64
  have hb72 := hb60.new_ hn64
  have hN73 := hN61.transNew hn64
  clear hs54 hd55 h56 h57 h58 hb59 hb60 hN61 ha65 hn64
  obtain ⟨w74, -, hst75, hb76, hu77, hf78⟩ := s_two (v0 := iv 2) (v1 := iv 0) Tryd.sizeOf23 rfl rfl rfl hb72
  refine st_act rfl rfl fun K79 hL80 => a_store' rfl h69 h70 hst75 (hL80 _ _ trivial ?_)
  have hb81 := hf78 _ _ _ (hne15) hb71
  have hN82 := hN73.trans hu77 (fun k hk hkb => by subst hkb; omega)
  clear hb72 hst75 K79 hL80 hN73 hb71 hu77 hf78
  refine st_nil ?_
  clear h70
  refine hK _ _ ?_
  clear hK K
  refine wp_ret (ret_k hd67 (v := nv (Nm.mk 2 0)) (res_c rfl h69 (l_two Tryd.isAgg23 Tryd.sizeOf23 hb76)) ?_)
  refine ⟨?_, hN82⟩
  show Ending.returned (nv (Nm.mk 2 0)) = Ending.returned (nv (asM a))
  first | rfl | (simp [asM, ht19])
set_option maxHeartbeats 4000000 in
set_option maxRecDepth 100000 in
theorem isNaN_c (a : Nm) (w : World) : Calls Tryd.prog 65 #[nv a] w (IsRet (.bool (decide (a.k = 2))) w) := by
  refine enter_abs Tryd.func65 rfl fun a0 hs0 hd0 hp => ?_
  have hs0 : a0.tmps.size = 6 := hs0
  have hN0 : New w w := Upd.refl _ _
  have hp0 : a0.eval (.tmp 0) = nv a := hp 0 _ rfl
  clear hp
  refine wp_seq_k fun K hK => ?_
  refine wp_g [true, true] [] [] 6
    [IsNew w 23 [iv a.k, iv a.n],
     ve (.bool false)]
    [0] (newsCons (fun v w h => IsNew.old h) newsNil) hs0 (.nw (.eq (.nil))) ?_ (fun i h => by cases h) ?_
  · skip
    refine .o2 (step_allocN (cs := [iv a.k, iv a.n]) (t := 23) rfl (noG rfl) (fun _ w hn k => v_box rfl (k.fx 0 hp0) (fun w => rfl)) (fun q _ hq hb => ⟨q, rfl, hq, hb⟩)) ?_
    refine .o1 (tk rfl rfl fun _ w hn k => ⟨_, v_assign rfl rfl, rfl⟩) ?_
    exact .nil
  intro a1 w2 hn3 ha4
  have hs5 := ha4.size.trans hs0
  have hd6 := ha4.defers.trans hd0
  obtain ⟨q8, h7, hq9, hb10⟩ : IsNew _ _ _ _ _ := ha4.got 0 1 rfl (by kernel_rfl)
  have h11 := ha4.ge 1 2 rfl
  have hq12 := Nat.le_trans hN0.size hq9
  have hN13 := hN0.transNew hn3
  clear hs0 hd0 hp0 hq9 hN0 ha4 hn3
  refine st_nil ?_
  refine hK _ _ ?_
  clear hK K
  refine wp_seq_k fun K hK => ?_
  refine wp_g0 [true, true, true, true] [] 6
    [ve (pv q8),
     ve (iv a.k),
     ve (.bool (decide (a.k = 2))),
     ve (.bool (decide (a.k = 2)))] hs5 (.eq (.eq (.eq (.eq (.nil))))) ?_ ?_
  · skip
    refine .o1 (tk rfl rfl fun _ w hn k => ⟨_, v_field rfl (k.fx 1 h7) (fun w => rfl), rfl⟩) ?_
    refine .o1 (tk rfl rfl fun _ w hn k => ⟨_, v_load rfl (k.eq1 0 3 rfl) (l_one Tryd.isAgg3 ((hb10.new_ hn).cell 0)), rfl⟩) ?_
    refine .o1 (tk rfl rfl fun _ w hn k => ⟨_, v_bin rfl (k.eq1 1 4 rfl) rfl (fun _ => rfl) (r_eql rfl), rfl⟩) ?_
    refine .o1 (tk rfl rfl fun _ w hn k => ⟨_, v_assign rfl (k.eq1 2 5 rfl), rfl⟩) ?_
    exact .nil
  intro a14 w15 hn16 ha17
  have hs18 := ha17.size.trans hs5
  have hd19 := ha17.defers.trans hd6
  have h20 := ha17.ge 3 2 rfl
  have hN21 := hN13.transNew hn16
  clear hs5 hd6 h7 h11 hb10 hq12 hN13 ha17 hn16
  refine st_nil ?_
  refine hK _ _ ?_
  clear hK K
  refine wp_ret (ret_k hd19 (v := .bool (decide (a.k = 2))) (res_t rfl h20 _) ?_)
  refine ⟨?_, hN21⟩
  rfl
set_option maxHeartbeats 4000000 in
set_option maxRecDepth 100000 in
theorem isInf_c (a : Nm) (w : World) : Calls Tryd.prog 66 #[nv a] w (IsRet (.bool (infB a.k)) w) := by
  refine enter_abs Tryd.func66 rfl fun a0 hs0 hd0 hp => ?_
  have hs0 : a0.tmps.size = 11 := hs0
  have hN0 : New w w := Upd.refl _ _
  have hp0 : a0.eval (.tmp 0) = nv a := hp 0 _ rfl
  clear hp
  refine wp_seq_k fun K hK => ?_
  refine wp_g [true, true] [] [] 11
    [IsNew w 23 [iv a.k, iv a.n],
     ve (.bool false)]
    [0] (newsCons (fun v w h => IsNew.old h) newsNil) hs0 (.nw (.eq (.nil))) ?_ (fun i h => by cases h) ?_
  · skip
    refine .o2 (step_allocN (cs := [iv a.k, iv a.n]) (t := 23) rfl (noG rfl) (fun _ w hn k => v_box rfl (k.fx 0 hp0) (fun w => rfl)) (fun q _ hq hb => ⟨q, rfl, hq, hb⟩)) ?_
    refine .o1 (tk rfl rfl fun _ w hn k => ⟨_, v_assign rfl rfl, rfl⟩) ?_
    exact .nil
  intro a1 w2 hn3 ha4
  have hs5 := ha4.size.trans hs0
  have hd6 := ha4.defers.trans hd0
  obtain ⟨q8, h7, hq9, hb10⟩ : IsNew _ _ _ _ _ := ha4.got 0 1 rfl (by kernel_rfl)
  have h11 := ha4.ge 1 2 rfl
  have hq12 := Nat.le_trans hN0.size hq9
  have hN13 := hN0.transNew hn3
  clear hs0 hd0 hp0 hq9 hN0 ha4 hn3
  refine st_nil ?_
  refine hK _ _ ?_
  clear hK K
  refine wp_seq_k fun K hK => ?_
  rcases Bool.eq_false_or_eq_true (decide (a.k = 3)) with ht14 | ht14
  · skip
    have ht14d := of_decide_eq_true ht14
    refine wp_g0 [true, true, true, true, true, true, true, true, true] [] 11
      [ve (pv q8),
       ve (iv a.k),
       ve (.bool true),
       ve (.bool true),
       ve undef,
       ve undef,
       ve undef,
       ve (.bool true),
       ve (.bool true)] hs5 (.eq (.eq (.eq (.eq (.eq (.eq (.eq (.eq (.eq (.nil)))))))))) ?_ ?_
    · skip
      refine .o1 (tk rfl rfl fun _ w hn k => ⟨_, v_field rfl (k.fx 1 h7) (fun w => rfl), rfl⟩) ?_
      refine .o1 (tk rfl rfl fun _ w hn k => ⟨_, v_load rfl (k.eq1 0 3 rfl) (l_one Tryd.isAgg3 ((hb10.new_ hn).cell 0)), rfl⟩) ?_
      refine .o1 (tk rfl rfl fun _ w hn k => ⟨_, v_bin rfl (k.eq1 1 4 rfl) rfl (fun _ => rfl) (r_eql ht14), rfl⟩) ?_
      refine .o1 (tk rfl rfl fun _ w hn k => ⟨_, v_move rfl (k.eq1 2 5 rfl), rfl⟩) ?_
      refine .o1 (sk rfl rfl rfl (fun _ _ _ k => k.eq1 3 6 rfl) (fun _ => rfl)) ?_
      refine .o1 (sk rfl rfl rfl (fun _ _ _ k => k.eq1 3 6 rfl) (fun _ => rfl)) ?_
      refine .o1 (sk rfl rfl rfl (fun _ _ _ k => k.eq1 3 6 rfl) (fun _ => rfl)) ?_
      refine .o1 (tk rfl rfl fun _ w hn k => ⟨_, v_pickT rfl (k.eq1 3 6 rfl) rfl, rfl⟩) ?_
      refine .o1 (tk rfl rfl fun _ w hn k => ⟨_, v_assign rfl (k.eq1 7 10 rfl), rfl⟩) ?_
      exact .nil
    intro a15 w16 hn17 ha18
    have hs19 := ha18.size.trans hs5
    have hd20 := ha18.defers.trans hd6
    have h21 := ha18.ge 8 2 rfl
    have hN22 := hN13.transNew hn17
    clear hs5 hd6 h7 h11 hb10 hq12 hN13 ha18 hn17
    refine st_nil ?_
    refine hK _ _ ?_
    clear hK K
    refine wp_ret (ret_k hd20 (v := .bool true) (res_t rfl h21 _) ?_)
    refine ⟨?_, hN22⟩
    show Ending.returned (.bool true) = Ending.returned (.bool (infB a.k))
    first | rfl | (simp [infB, ht14])
  have ht14d := of_decide_eq_false ht14
  refine wp_g0 [true, true, true, true, true, true, true, true, true] [] 11
    [ve (pv q8),
     ve (iv a.k),
     ve (.bool false),
     ve (.bool false),
     ve (pv q8),
     ve (iv a.k),
     ve (.bool (decide (a.k = 4))),
     ve (.bool (decide (a.k = 4))),
     ve (.bool (decide (a.k = 4)))] hs5 (.eq (.eq (.eq (.eq (.eq (.eq (.eq (.eq (.eq (.nil)))))))))) ?_ ?_
  · skip
    refine .o1 (tk rfl rfl fun _ w hn k => ⟨_, v_field rfl (k.fx 1 h7) (fun w => rfl), rfl⟩) ?_
    refine .o1 (tk rfl rfl fun _ w hn k => ⟨_, v_load rfl (k.eq1 0 3 rfl) (l_one Tryd.isAgg3 ((hb10.new_ hn).cell 0)), rfl⟩) ?_
    refine .o1 (tk rfl rfl fun _ w hn k => ⟨_, v_bin rfl (k.eq1 1 4 rfl) rfl (fun _ => rfl) (r_eql ht14), rfl⟩) ?_
    refine .o1 (tk rfl rfl fun _ w hn k => ⟨_, v_move rfl (k.eq1 2 5 rfl), rfl⟩) ?_
    refine .o1 (tg rfl rfl rfl (fun _ _ k => k.eq1 3 6 rfl) fun _ w hn k => ⟨_, v_field rfl (k.fx 1 h7) (fun w => rfl), rfl⟩) ?_
    refine .o1 (tg rfl rfl rfl (fun _ _ k => k.eq1 3 6 rfl) fun _ w hn k => ⟨_, v_load rfl (k.eq1 4 7 rfl) (l_one Tryd.isAgg3 ((hb10.new_ hn).cell 0)), rfl⟩) ?_
    refine .o1 (tg rfl rfl rfl (fun _ _ k => k.eq1 3 6 rfl) fun _ w hn k => ⟨_, v_bin rfl (k.eq1 5 8 rfl) rfl (fun _ => rfl) (r_eql rfl), rfl⟩) ?_
    refine .o1 (tk rfl rfl fun _ w hn k => ⟨_, v_pickF rfl (k.eq1 3 6 rfl) (k.eq1 6 9 rfl), rfl⟩) ?_
    refine .o1 (tk rfl rfl fun _ w hn k => ⟨_, v_assign rfl (k.eq1 7 10 rfl), rfl⟩) ?_
    exact .nil
  intro a23 w24 hn25 ha26
  have hs27 := ha26.size.trans hs5
  have hd28 := ha26.defers.trans hd6
  have h29 := ha26.ge 8 2 rfl
  have hN30 := hN13.transNew hn25
  clear hs5 hd6 h7 h11 hb10 hq12 hN13 ha26 hn25
  refine st_nil ?_
  refine hK _ _ ?_
  clear hK K
  refine wp_ret (ret_k hd28 (v := .bool (decide (a.k = 4))) (res_t rfl h29 _) ?_)
  refine ⟨?_, hN30⟩
  show Ending.returned (.bool (decide (a.k = 4))) = Ending.returned (.bool (infB a.k))
  first | rfl | (simp [infB, ht14])
set_option maxHeartbeats 4000000 in
set_option maxRecDepth 100000 in
theorem isNought_c (a : Nm) (w : World) : Calls Tryd.prog 68 #[nv a] w (IsRet (.bool (noughtB a)) w) := by
  refine enter_abs Tryd.func68 rfl fun a0 hs0 hd0 hp => ?_
  have hs0 : a0.tmps.size = 16 := hs0
  have hN0 : New w w := Upd.refl _ _
  have hp0 : a0.eval (.tmp 0) = nv a := hp 0 _ rfl
  clear hp
  refine wp_seq_k fun K hK => ?_
  refine wp_g [true, true] [] [] 16
    [IsNew w 23 [iv a.k, iv a.n],
     ve (.bool false)]
    [0] (newsCons (fun v w h => IsNew.old h) newsNil) hs0 (.nw (.eq (.nil))) ?_ (fun i h => by cases h) ?_
  · skip
    refine .o2 (step_allocN (cs := [iv a.k, iv a.n]) (t := 23) rfl (noG rfl) (fun _ w hn k => v_box rfl (k.fx 0 hp0) (fun w => rfl)) (fun q _ hq hb => ⟨q, rfl, hq, hb⟩)) ?_
    refine .o1 (tk rfl rfl fun _ w hn k => ⟨_, v_assign rfl rfl, rfl⟩) ?_
    exact .nil
  intro a1 w2 hn3 ha4
  have hs5 := ha4.size.trans hs0
  have hd6 := ha4.defers.trans hd0
  obtain ⟨q8, h7, hq9, hb10⟩ : IsNew _ _ _ _ _ := ha4.got 0 1 rfl (by kernel_rfl)
  have h11 := ha4.ge 1 2 rfl
  have hq12 := Nat.le_trans hN0.size hq9
  have hN13 := hN0.transNew hn3
  clear hs0 hd0 hp0 hq9 hN0 ha4 hn3
  refine st_nil ?_
  refine hK _ _ ?_
  clear hK K
  refine wp_seq_k fun K hK => ?_
  rcases Bool.eq_false_or_eq_true (decide (a.k = 1)) with ht14 | ht14
  · skip
    have ht14d := of_decide_eq_true ht14
    refine wp_g0 [true, true, true, true, true, true, true, true, true, true, true, true, true, true] [] 16
      [ve (pv q8),
       ve (iv a.k),
       ve (.bool true),
       ve (.bool true),
       ve undef,
       ve undef,
       ve undef,
       ve undef,
       ve undef,
       ve undef,
       ve undef,
       ve undef,
       ve (.bool true),
       ve (.bool true)] hs5 (.eq (.eq (.eq (.eq (.eq (.eq (.eq (.eq (.eq (.eq (.eq (.eq (.eq (.eq (.nil))))))))))))))) ?_ ?_
    · skip
      refine .o1 (tk rfl rfl fun _ w hn k => ⟨_, v_field rfl (k.fx 1 h7) (fun w => rfl), rfl⟩) ?_
      refine .o1 (tk rfl rfl fun _ w hn k => ⟨_, v_load rfl (k.eq1 0 3 rfl) (l_one Tryd.isAgg3 ((hb10.new_ hn).cell 0)), rfl⟩) ?_
      refine .o1 (tk rfl rfl fun _ w hn k => ⟨_, v_bin rfl (k.eq1 1 4 rfl) rfl (fun _ => rfl) (r_eql ht14), rfl⟩) ?_
      refine .o1 (tk rfl rfl fun _ w hn k => ⟨_, v_move rfl (k.eq1 2 5 rfl), rfl⟩) ?_
      refine .o1 (sk rfl rfl rfl (fun _ _ _ k => k.eq1 3 6 rfl) (fun _ => rfl)) ?_
      refine .o1 (sk rfl rfl rfl (fun _ _ _ k => k.eq1 3 6 rfl) (fun _ => rfl)) ?_
      refine .o1 (sk rfl rfl rfl (fun _ _ _ k => k.eq1 3 6 rfl) (fun _ => rfl)) ?_
      refine .o1 (sk rfl rfl rfl (fun _ _ _ k => k.eq1 3 6 rfl) (fun _ => rfl)) ?_
      refine .o1 (su rfl rfl rfl (fun _ _ _ k => k.eq1 7 10 rfl) (fun _ => rfl)) ?_
      refine .o1 (su rfl rfl rfl (fun _ _ _ k => k.eq1 7 10 rfl) (fun _ => rfl)) ?_
      refine .o1 (su rfl rfl rfl (fun _ _ _ k => k.eq1 7 10 rfl) (fun _ => rfl)) ?_
      refine .o1 (sk rfl rfl rfl (fun _ _ _ k => k.eq1 3 6 rfl) (fun _ => rfl)) ?_
      refine .o1 (tk rfl rfl fun _ w hn k => ⟨_, v_pickT rfl (k.eq1 3 6 rfl) rfl, rfl⟩) ?_
      refine .o1 (tk rfl rfl fun _ w hn k => ⟨_, v_assign rfl (k.eq1 12 15 rfl), rfl⟩) ?_
      exact .nil
    intro a15 w16 hn17 ha18
    have hs19 := ha18.size.trans hs5
    have hd20 := ha18.defers.trans hd6
    have h21 := ha18.ge 13 2 rfl
    have hN22 := hN13.transNew hn17
    clear hs5 hd6 h7 h11 hb10 hq12 hN13 ha18 hn17
    refine st_nil ?_
    refine hK _ _ ?_
    clear hK K
    refine wp_ret (ret_k hd20 (v := .bool true) (res_t rfl h21 _) ?_)
    refine ⟨?_, hN22⟩
    show Ending.returned (.bool true) = Ending.returned (.bool (noughtB a))
    first | rfl | (simp [noughtB, ht14])
  have ht14d := of_decide_eq_false ht14
  rcases Bool.eq_false_or_eq_true (decide (a.k = 0)) with ht23 | ht23
  · skip
    have ht23d := of_decide_eq_true ht23
    refine wp_g0 [true, true, true, true, true, true, true, true, true, true, true, true, true, true] [] 16
      [ve (pv q8),
       ve (iv a.k),
       ve (.bool false),
       ve (.bool false),
       ve (pv q8),
       ve (iv a.k),
       ve (.bool true),
       ve (.bool true),
       ve (.pointer (some ⟨q8, 1, none⟩)),
       ve (iv a.n),
       ve (.bool (decide (a.n = 0))),
       ve (.bool (decide (a.n = 0))),
       ve (.bool (decide (a.n = 0))),
       ve (.bool (decide (a.n = 0)))] hs5 (.eq (.eq (.eq (.eq (.eq (.eq (.eq (.eq (.eq (.eq (.eq (.eq (.eq (.eq (.nil))))))))))))))) ?_ ?_
    · skip
      refine .o1 (tk rfl rfl fun _ w hn k => ⟨_, v_field rfl (k.fx 1 h7) (fun w => rfl), rfl⟩) ?_
      refine .o1 (tk rfl rfl fun _ w hn k => ⟨_, v_load rfl (k.eq1 0 3 rfl) (l_one Tryd.isAgg3 ((hb10.new_ hn).cell 0)), rfl⟩) ?_
      refine .o1 (tk rfl rfl fun _ w hn k => ⟨_, v_bin rfl (k.eq1 1 4 rfl) rfl (fun _ => rfl) (r_eql ht14), rfl⟩) ?_
      refine .o1 (tk rfl rfl fun _ w hn k => ⟨_, v_move rfl (k.eq1 2 5 rfl), rfl⟩) ?_
      refine .o1 (tg rfl rfl rfl (fun _ _ k => k.eq1 3 6 rfl) fun _ w hn k => ⟨_, v_field rfl (k.fx 1 h7) (fun w => rfl), rfl⟩) ?_
      refine .o1 (tg rfl rfl rfl (fun _ _ k => k.eq1 3 6 rfl) fun _ w hn k => ⟨_, v_load rfl (k.eq1 4 7 rfl) (l_one Tryd.isAgg3 ((hb10.new_ hn).cell 0)), rfl⟩) ?_
      refine .o1 (tg rfl rfl rfl (fun _ _ k => k.eq1 3 6 rfl) fun _ w hn k => ⟨_, v_bin rfl (k.eq1 5 8 rfl) rfl (fun _ => rfl) (r_eql ht23), rfl⟩) ?_
      refine .o1 (tg rfl rfl rfl (fun _ _ k => k.eq1 3 6 rfl) fun _ w hn k => ⟨_, v_move rfl (k.eq1 6 9 rfl), rfl⟩) ?_
      refine .o1 (tg rfl rfl rfl (fun _ _ k => k.eq1 7 10 rfl) fun _ w hn k => ⟨_, v_field rfl (k.fx 1 h7) (fun w => rfl), rfl⟩) ?_
      refine .o1 (tg rfl rfl rfl (fun _ _ k => k.eq1 7 10 rfl) fun _ w hn k => ⟨_, v_load rfl (k.eq1 8 11 rfl) (l_one Tryd.isAgg3 ((hb10.new_ hn).cell 1)), rfl⟩) ?_
      refine .o1 (tg rfl rfl rfl (fun _ _ k => k.eq1 7 10 rfl) fun _ w hn k => ⟨_, v_bin rfl (k.eq1 9 12 rfl) rfl (fun _ => rfl) (r_eql rfl), rfl⟩) ?_
      refine .o1 (tg rfl rfl rfl (fun _ _ k => k.eq1 3 6 rfl) fun _ w hn k => ⟨_, v_pickT rfl (k.eq1 7 10 rfl) (k.eq1 10 13 rfl), rfl⟩) ?_
      refine .o1 (tk rfl rfl fun _ w hn k => ⟨_, v_pickF rfl (k.eq1 3 6 rfl) (k.eq1 11 14 rfl), rfl⟩) ?_
      refine .o1 (tk rfl rfl fun _ w hn k => ⟨_, v_assign rfl (k.eq1 12 15 rfl), rfl⟩) ?_
      exact .nil
    intro a24 w25 hn26 ha27
    have hs28 := ha27.size.trans hs5
    have hd29 := ha27.defers.trans hd6
    have h30 := ha27.ge 13 2 rfl
    have hN31 := hN13.transNew hn26
    clear hs5 hd6 h7 h11 hb10 hq12 hN13 ha27 hn26
    refine st_nil ?_
    refine hK _ _ ?_
    clear hK K
    refine wp_ret (ret_k hd29 (v := .bool (decide (a.n = 0))) (res_t rfl h30 _) ?_)
    refine ⟨?_, hN31⟩
    show Ending.returned (.bool (decide (a.n = 0))) = Ending.returned (.bool (noughtB a))
    first | rfl | (simp [noughtB, ht14, ht23])
  have ht23d := of_decide_eq_false ht23
  refine wp_g0 [true, true, true, true, true, true, true, true, true, true, true, true, true, true] [] 16
    [ve (pv q8),
     ve (iv a.k),
     ve (.bool false),
     ve (.bool false),
     ve (pv q8),
     ve (iv a.k),
     ve (.bool false),
     ve (.bool false),
     ve undef,
     ve undef,
     ve undef,
     ve (.bool false),
     ve (.bool false),
     ve (.bool false)] hs5 (.eq (.eq (.eq (.eq (.eq (.eq (.eq (.eq (.eq (.eq (.eq (.eq (.eq (.eq (.nil))))))))))))))) ?_ ?_
  · skip
    refine .o1 (tk rfl rfl fun _ w hn k => ⟨_, v_field rfl (k.fx 1 h7) (fun w => rfl), rfl⟩) ?_
    refine .o1 (tk rfl rfl fun _ w hn k => ⟨_, v_load rfl (k.eq1 0 3 rfl) (l_one Tryd.isAgg3 ((hb10.new_ hn).cell 0)), rfl⟩) ?_
    refine .o1 (tk rfl rfl fun _ w hn k => ⟨_, v_bin rfl (k.eq1 1 4 rfl) rfl (fun _ => rfl) (r_eql ht14), rfl⟩) ?_
    refine .o1 (tk rfl rfl fun _ w hn k => ⟨_, v_move rfl (k.eq1 2 5 rfl), rfl⟩) ?_
    refine .o1 (tg rfl rfl rfl (fun _ _ k => k.eq1 3 6 rfl) fun _ w hn k => ⟨_, v_field rfl (k.fx 1 h7) (fun w => rfl), rfl⟩) ?_
    refine .o1 (tg rfl rfl rfl (fun _ _ k => k.eq1 3 6 rfl) fun _ w hn k => ⟨_, v_load rfl (k.eq1 4 7 rfl) (l_one Tryd.isAgg3 ((hb10.new_ hn).cell 0)), rfl⟩) ?_
    refine .o1 (tg rfl rfl rfl (fun _ _ k => k.eq1 3 6 rfl) fun _ w hn k => ⟨_, v_bin rfl (k.eq1 5 8 rfl) rfl (fun _ => rfl) (r_eql ht23), rfl⟩) ?_
    refine .o1 (tg rfl rfl rfl (fun _ _ k => k.eq1 3 6 rfl) fun _ w hn k => ⟨_, v_move rfl (k.eq1 6 9 rfl), rfl⟩) ?_
    refine .o1 (sk rfl rfl rfl (fun _ _ _ k => k.eq1 7 10 rfl) (fun _ => rfl)) ?_
    refine .o1 (sk rfl rfl rfl (fun _ _ _ k => k.eq1 7 10 rfl) (fun _ => rfl)) ?_
    refine .o1 (sk rfl rfl rfl (fun _ _ _ k => k.eq1 7 10 rfl) (fun _ => rfl)) ?_
    refine .o1 (tg rfl rfl rfl (fun _ _ k => k.eq1 3 6 rfl) fun _ w hn k => ⟨_, v_pickF rfl (k.eq1 7 10 rfl) rfl, rfl⟩) ?_
    refine .o1 (tk rfl rfl fun _ w hn k => ⟨_, v_pickF rfl (k.eq1 3 6 rfl) (k.eq1 11 14 rfl), rfl⟩) ?_
    refine .o1 (tk rfl rfl fun _ w hn k => ⟨_, v_assign rfl (k.eq1 12 15 rfl), rfl⟩) ?_
    exact .nil
  intro a32 w33 hn34 ha35
  have hs36 := ha35.size.trans hs5
  have hd37 := ha35.defers.trans hd6
  have h38 := ha35.ge 13 2 rfl
  have hN39 := hN13.transNew hn34
  clear hs5 hd6 h7 h11 hb10 hq12 hN13 ha35 hn34
  refine st_nil ?_
  refine hK _ _ ?_
  clear hK K
  refine wp_ret (ret_k hd37 (v := .bool false) (res_t rfl h38 _) ?_)
  refine ⟨?_, hN39⟩
  show Ending.returned (.bool false) = Ending.returned (.bool (noughtB a))
  first | rfl | (simp [noughtB, ht14, ht23])
set_option maxHeartbeats 4000000 in
set_option maxRecDepth 100000 in
theorem below_c (a : Nm) (w : World) : Calls Tryd.prog 67 #[nv a] w (IsRet (.bool (belowB a)) w) := by
  refine enter_abs Tryd.func67 rfl fun a0 hs0 hd0 hp => ?_
  have hs0 : a0.tmps.size = 21 := hs0
  have hN0 : New w w := Upd.refl _ _
  have hp0 : a0.eval (.tmp 0) = nv a := hp 0 _ rfl
  clear hp
  refine wp_seq_k fun K hK => ?_
  refine wp_g [true, true] [] [] 21
    [IsNew w 23 [iv a.k, iv a.n],
     ve (.bool false)]
    [0] (newsCons (fun v w h => IsNew.old h) newsNil) hs0 (.nw (.eq (.nil))) ?_ (fun i h => by cases h) ?_
  · skip
    refine .o2 (step_allocN (cs := [iv a.k, iv a.n]) (t := 23) rfl (noG rfl) (fun _ w hn k => v_box rfl (k.fx 0 hp0) (fun w => rfl)) (fun q _ hq hb => ⟨q, rfl, hq, hb⟩)) ?_
    refine .o1 (tk rfl rfl fun _ w hn k => ⟨_, v_assign rfl rfl, rfl⟩) ?_
    exact .nil
  intro a1 w2 hn3 ha4
  have hs5 := ha4.size.trans hs0
  have hd6 := ha4.defers.trans hd0
  obtain ⟨q8, h7, hq9, hb10⟩ : IsNew _ _ _ _ _ := ha4.got 0 1 rfl (by kernel_rfl)
  have h11 := ha4.ge 1 2 rfl
  have hq12 := Nat.le_trans hN0.size hq9
  have hN13 := hN0.transNew hn3
  clear hs0 hd0 hp0 hq9 hN0 ha4 hn3
  refine st_nil ?_
  refine hK _ _ ?_
  clear hK K
  refine wp_seq_k fun K hK => ?_
  rcases Bool.eq_false_or_eq_true (decide (a.k = 1)) with ht14 | ht14
  · skip
    have ht14d := of_decide_eq_true ht14
    refine wp_g0 [true, true, true, true, true, true, true, true, true, true, true, true, true, true, true, true, true, true, true] [] 21
      [ve (pv q8),
       ve (iv a.k),
       ve (.bool true),
       ve (.bool true),
       ve undef,
       ve undef,
       ve undef,
       ve (.bool true),
       ve (.bool true),
       ve undef,
       ve undef,
       ve undef,
       ve undef,
       ve undef,
       ve undef,
       ve undef,
       ve undef,
       ve (.bool true),
       ve (.bool true)] hs5 (.eq (.eq (.eq (.eq (.eq (.eq (.eq (.eq (.eq (.eq (.eq (.eq (.eq (.eq (.eq (.eq (.eq (.eq (.eq (.nil)))))))))))))))))))) ?_ ?_
    · skip
      refine .o1 (tk rfl rfl fun _ w hn k => ⟨_, v_field rfl (k.fx 1 h7) (fun w => rfl), rfl⟩) ?_
      refine .o1 (tk rfl rfl fun _ w hn k => ⟨_, v_load rfl (k.eq1 0 3 rfl) (l_one Tryd.isAgg3 ((hb10.new_ hn).cell 0)), rfl⟩) ?_
      refine .o1 (tk rfl rfl fun _ w hn k => ⟨_, v_bin rfl (k.eq1 1 4 rfl) rfl (fun _ => rfl) (r_eql ht14), rfl⟩) ?_
      refine .o1 (tk rfl rfl fun _ w hn k => ⟨_, v_move rfl (k.eq1 2 5 rfl), rfl⟩) ?_
      refine .o1 (sk rfl rfl rfl (fun _ _ _ k => k.eq1 3 6 rfl) (fun _ => rfl)) ?_
      refine .o1 (sk rfl rfl rfl (fun _ _ _ k => k.eq1 3 6 rfl) (fun _ => rfl)) ?_
      refine .o1 (sk rfl rfl rfl (fun _ _ _ k => k.eq1 3 6 rfl) (fun _ => rfl)) ?_
      refine .o1 (tk rfl rfl fun _ w hn k => ⟨_, v_pickT rfl (k.eq1 3 6 rfl) rfl, rfl⟩) ?_
      refine .o1 (tk rfl rfl fun _ w hn k => ⟨_, v_move rfl (k.eq1 7 10 rfl), rfl⟩) ?_
      refine .o1 (sk rfl rfl rfl (fun _ _ _ k => k.eq1 8 11 rfl) (fun _ => rfl)) ?_
      refine .o1 (sk rfl rfl rfl (fun _ _ _ k => k.eq1 8 11 rfl) (fun _ => rfl)) ?_
      refine .o1 (sk rfl rfl rfl (fun _ _ _ k => k.eq1 8 11 rfl) (fun _ => rfl)) ?_
      refine .o1 (sk rfl rfl rfl (fun _ _ _ k => k.eq1 8 11 rfl) (fun _ => rfl)) ?_
      refine .o1 (su rfl rfl rfl (fun _ _ _ k => k.eq1 12 15 rfl) (fun _ => rfl)) ?_
      refine .o1 (su rfl rfl rfl (fun _ _ _ k => k.eq1 12 15 rfl) (fun _ => rfl)) ?_
      refine .o1 (su rfl rfl rfl (fun _ _ _ k => k.eq1 12 15 rfl) (fun _ => rfl)) ?_
      refine .o1 (sk rfl rfl rfl (fun _ _ _ k => k.eq1 8 11 rfl) (fun _ => rfl)) ?_
      refine .o1 (tk rfl rfl fun _ w hn k => ⟨_, v_pickT rfl (k.eq1 8 11 rfl) rfl, rfl⟩) ?_
      refine .o1 (tk rfl rfl fun _ w hn k => ⟨_, v_assign rfl (k.eq1 17 20 rfl), rfl⟩) ?_
      exact .nil
    intro a15 w16 hn17 ha18
    have hs19 := ha18.size.trans hs5
    have hd20 := ha18.defers.trans hd6
    have h21 := ha18.ge 18 2 rfl
    have hN22 := hN13.transNew hn17
    clear hs5 hd6 h7 h11 hb10 hq12 hN13 ha18 hn17
    refine st_nil ?_
    refine hK _ _ ?_
    clear hK K
    refine wp_ret (ret_k hd20 (v := .bool true) (res_t rfl h21 _) ?_)
    refine ⟨?_, hN22⟩
    show Ending.returned (.bool true) = Ending.returned (.bool (belowB a))
    first | rfl | (simp [belowB, ht14])
  have ht14d := of_decide_eq_false ht14
  rcases Bool.eq_false_or_eq_true (decide (a.k = 4)) with ht23 | ht23
  · skip
    have ht23d := of_decide_eq_true ht23
    refine wp_g0 [true, true, true, true, true, true, true, true, true, true, true, true, true, true, true, true, true, true, true] [] 21
      [ve (pv q8),
       ve (iv a.k),
       ve (.bool false),
       ve (.bool false),
       ve (pv q8),
       ve (iv a.k),
       ve (.bool true),
       ve (.bool true),
       ve (.bool true),
       ve undef,
       ve undef,
       ve undef,
       ve undef,
       ve undef,
       ve undef,
       ve undef,
       ve undef,
       ve (.bool true),
       ve (.bool true)] hs5 (.eq (.eq (.eq (.eq (.eq (.eq (.eq (.eq (.eq (.eq (.eq (.eq (.eq (.eq (.eq (.eq (.eq (.eq (.eq (.nil)))))))))))))))))))) ?_ ?_
    · skip
      refine .o1 (tk rfl rfl fun _ w hn k => ⟨_, v_field rfl (k.fx 1 h7) (fun w => rfl), rfl⟩) ?_
      refine .o1 (tk rfl rfl fun _ w hn k => ⟨_, v_load rfl (k.eq1 0 3 rfl) (l_one Tryd.isAgg3 ((hb10.new_ hn).cell 0)), rfl⟩) ?_
      refine .o1 (tk rfl rfl fun _ w hn k => ⟨_, v_bin rfl (k.eq1 1 4 rfl) rfl (fun _ => rfl) (r_eql ht14), rfl⟩) ?_
      refine .o1 (tk rfl rfl fun _ w hn k => ⟨_, v_move rfl (k.eq1 2 5 rfl), rfl⟩) ?_
      refine .o1 (tg rfl rfl rfl (fun _ _ k => k.eq1 3 6 rfl) fun _ w hn k => ⟨_, v_field rfl (k.fx 1 h7) (fun w => rfl), rfl⟩) ?_
      refine .o1 (tg rfl rfl rfl (fun _ _ k => k.eq1 3 6 rfl) fun _ w hn k => ⟨_, v_load rfl (k.eq1 4 7 rfl) (l_one Tryd.isAgg3 ((hb10.new_ hn).cell 0)), rfl⟩) ?_
      refine .o1 (tg rfl rfl rfl (fun _ _ k => k.eq1 3 6 rfl) fun _ w hn k => ⟨_, v_bin rfl (k.eq1 5 8 rfl) rfl (fun _ => rfl) (r_eql ht23), rfl⟩) ?_
      refine .o1 (tk rfl rfl fun _ w hn k => ⟨_, v_pickF rfl (k.eq1 3 6 rfl) (k.eq1 6 9 rfl), rfl⟩) ?_
      refine .o1 (tk rfl rfl fun _ w hn k => ⟨_, v_move rfl (k.eq1 7 10 rfl), rfl⟩) ?_
      refine .o1 (sk rfl rfl rfl (fun _ _ _ k => k.eq1 8 11 rfl) (fun _ => rfl)) ?_
      refine .o1 (sk rfl rfl rfl (fun _ _ _ k => k.eq1 8 11 rfl) (fun _ => rfl)) ?_
      refine .o1 (sk rfl rfl rfl (fun _ _ _ k => k.eq1 8 11 rfl) (fun _ => rfl)) ?_
      refine .o1 (sk rfl rfl rfl (fun _ _ _ k => k.eq1 8 11 rfl) (fun _ => rfl)) ?_
      refine .o1 (su rfl rfl rfl (fun _ _ _ k => k.eq1 12 15 rfl) (fun _ => rfl)) ?_
      refine .o1 (su rfl rfl rfl (fun _ _ _ k => k.eq1 12 15 rfl) (fun _ => rfl)) ?_
      refine .o1 (su rfl rfl rfl (fun _ _ _ k => k.eq1 12 15 rfl) (fun _ => rfl)) ?_
      refine .o1 (sk rfl rfl rfl (fun _ _ _ k => k.eq1 8 11 rfl) (fun _ => rfl)) ?_
      refine .o1 (tk rfl rfl fun _ w hn k => ⟨_, v_pickT rfl (k.eq1 8 11 rfl) rfl, rfl⟩) ?_
      refine .o1 (tk rfl rfl fun _ w hn k => ⟨_, v_assign rfl (k.eq1 17 20 rfl), rfl⟩) ?_
      exact .nil
    intro a24 w25 hn26 ha27
    have hs28 := ha27.size.trans hs5
    have hd29 := ha27.defers.trans hd6
    have h30 := ha27.ge 18 2 rfl
    have hN31 := hN13.transNew hn26
    clear hs5 hd6 h7 h11 hb10 hq12 hN13 ha27 hn26
    refine st_nil ?_
    refine hK _ _ ?_
    clear hK K
    refine wp_ret (ret_k hd29 (v := .bool true) (res_t rfl h30 _) ?_)
    refine ⟨?_, hN31⟩
    show Ending.returned (.bool true) = Ending.returned (.bool (belowB a))
    first | rfl | (simp [belowB, ht14, ht23])
  have ht23d := of_decide_eq_false ht23
  rcases Bool.eq_false_or_eq_true (decide (a.k = 0)) with ht32 | ht32
  · skip
    have ht32d := of_decide_eq_true ht32
    refine wp_g0 [true, true, true, true, true, true, true, true, true, true, true, true, true, true, true, true, true, true, true] [] 21
      [ve (pv q8),
       ve (iv a.k),
       ve (.bool false),
       ve (.bool false),
       ve (pv q8),
       ve (iv a.k),
       ve (.bool false),
       ve (.bool false),
       ve (.bool false),
       ve (pv q8),
       ve (iv a.k),
       ve (.bool true),
       ve (.bool true),
       ve (.pointer (some ⟨q8, 1, none⟩)),
       ve (iv a.n),
       ve (.bool (decide (a.n < 0))),
       ve (.bool (decide (a.n < 0))),
       ve (.bool (decide (a.n < 0))),
       ve (.bool (decide (a.n < 0)))] hs5 (.eq (.eq (.eq (.eq (.eq (.eq (.eq (.eq (.eq (.eq (.eq (.eq (.eq (.eq (.eq (.eq (.eq (.eq (.eq (.nil)))))))))))))))))))) ?_ ?_
    · skip
      refine .o1 (tk rfl rfl fun _ w hn k => ⟨_, v_field rfl (k.fx 1 h7) (fun w => rfl), rfl⟩) ?_
      refine .o1 (tk rfl rfl fun _ w hn k => ⟨_, v_load rfl (k.eq1 0 3 rfl) (l_one Tryd.isAgg3 ((hb10.new_ hn).cell 0)), rfl⟩) ?_
      refine .o1 (tk rfl rfl fun _ w hn k => ⟨_, v_bin rfl (k.eq1 1 4 rfl) rfl (fun _ => rfl) (r_eql ht14), rfl⟩) ?_
      refine .o1 (tk rfl rfl fun _ w hn k => ⟨_, v_move rfl (k.eq1 2 5 rfl), rfl⟩) ?_
      refine .o1 (tg rfl rfl rfl (fun _ _ k => k.eq1 3 6 rfl) fun _ w hn k => ⟨_, v_field rfl (k.fx 1 h7) (fun w => rfl), rfl⟩) ?_
      refine .o1 (tg rfl rfl rfl (fun _ _ k => k.eq1 3 6 rfl) fun _ w hn k => ⟨_, v_load rfl (k.eq1 4 7 rfl) (l_one Tryd.isAgg3 ((hb10.new_ hn).cell 0)), rfl⟩) ?_
      refine .o1 (tg rfl rfl rfl (fun _ _ k => k.eq1 3 6 rfl) fun _ w hn k => ⟨_, v_bin rfl (k.eq1 5 8 rfl) rfl (fun _ => rfl) (r_eql ht23), rfl⟩) ?_
      refine .o1 (tk rfl rfl fun _ w hn k => ⟨_, v_pickF rfl (k.eq1 3 6 rfl) (k.eq1 6 9 rfl), rfl⟩) ?_
      refine .o1 (tk rfl rfl fun _ w hn k => ⟨_, v_move rfl (k.eq1 7 10 rfl), rfl⟩) ?_
      refine .o1 (tg rfl rfl rfl (fun _ _ k => k.eq1 8 11 rfl) fun _ w hn k => ⟨_, v_field rfl (k.fx 1 h7) (fun w => rfl), rfl⟩) ?_
      refine .o1 (tg rfl rfl rfl (fun _ _ k => k.eq1 8 11 rfl) fun _ w hn k => ⟨_, v_load rfl (k.eq1 9 12 rfl) (l_one Tryd.isAgg3 ((hb10.new_ hn).cell 0)), rfl⟩) ?_
      refine .o1 (tg rfl rfl rfl (fun _ _ k => k.eq1 8 11 rfl) fun _ w hn k => ⟨_, v_bin rfl (k.eq1 10 13 rfl) rfl (fun _ => rfl) (r_eql ht32), rfl⟩) ?_
      refine .o1 (tg rfl rfl rfl (fun _ _ k => k.eq1 8 11 rfl) fun _ w hn k => ⟨_, v_move rfl (k.eq1 11 14 rfl), rfl⟩) ?_
      refine .o1 (tg rfl rfl rfl (fun _ _ k => k.eq1 12 15 rfl) fun _ w hn k => ⟨_, v_field rfl (k.fx 1 h7) (fun w => rfl), rfl⟩) ?_
      refine .o1 (tg rfl rfl rfl (fun _ _ k => k.eq1 12 15 rfl) fun _ w hn k => ⟨_, v_load rfl (k.eq1 13 16 rfl) (l_one Tryd.isAgg3 ((hb10.new_ hn).cell 1)), rfl⟩) ?_
      refine .o1 (tg rfl rfl rfl (fun _ _ k => k.eq1 12 15 rfl) fun _ w hn k => ⟨_, v_bin rfl (k.eq1 14 17 rfl) rfl (fun _ => rfl) (r_lssK rfl), rfl⟩) ?_
      refine .o1 (tg rfl rfl rfl (fun _ _ k => k.eq1 8 11 rfl) fun _ w hn k => ⟨_, v_pickT rfl (k.eq1 12 15 rfl) (k.eq1 15 18 rfl), rfl⟩) ?_
      refine .o1 (tk rfl rfl fun _ w hn k => ⟨_, v_pickF rfl (k.eq1 8 11 rfl) (k.eq1 16 19 rfl), rfl⟩) ?_
      refine .o1 (tk rfl rfl fun _ w hn k => ⟨_, v_assign rfl (k.eq1 17 20 rfl), rfl⟩) ?_
      exact .nil
    intro a33 w34 hn35 ha36
    have hs37 := ha36.size.trans hs5
    have hd38 := ha36.defers.trans hd6
    have h39 := ha36.ge 18 2 rfl
    have hN40 := hN13.transNew hn35
    clear hs5 hd6 h7 h11 hb10 hq12 hN13 ha36 hn35
    refine st_nil ?_
    refine hK _ _ ?_
    clear hK K
    refine wp_ret (ret_k hd38 (v := .bool (decide (a.n < 0))) (res_t rfl h39 _) ?_)
    refine ⟨?_, hN40⟩
    show Ending.returned (.bool (decide (a.n < 0))) = Ending.returned (.bool (belowB a))
    first | rfl | (simp [belowB, ht14, ht23, ht32])
  have ht32d := of_decide_eq_false ht32
  refine wp_g0 [true, true, true, true, true, true, true, true, true, true, true, true, true, true, true, true, true, true, true] [] 21
    [ve (pv q8),
     ve (iv a.k),
     ve (.bool false),
     ve (.bool false),
     ve (pv q8),
     ve (iv a.k),
     ve (.bool false),
     ve (.bool false),
     ve (.bool false),
     ve (pv q8),
     ve (iv a.k),
     ve (.bool false),
     ve (.bool false),
     ve undef,
     ve undef,
     ve undef,
     ve (.bool false),
     ve (.bool false),
     ve (.bool false)] hs5 (.eq (.eq (.eq (.eq (.eq (.eq (.eq (.eq (.eq (.eq (.eq (.eq (.eq (.eq (.eq (.eq (.eq (.eq (.eq (.nil)))))))))))))))))))) ?_ ?_
  · skip
    refine .o1 (tk rfl rfl fun _ w hn k => ⟨_, v_field rfl (k.fx 1 h7) (fun w => rfl), rfl⟩) ?_
    refine .o1 (tk rfl rfl fun _ w hn k => ⟨_, v_load rfl (k.eq1 0 3 rfl) (l_one Tryd.isAgg3 ((hb10.new_ hn).cell 0)), rfl⟩) ?_
    refine .o1 (tk rfl rfl fun _ w hn k => ⟨_, v_bin rfl (k.eq1 1 4 rfl) rfl (fun _ => rfl) (r_eql ht14), rfl⟩) ?_
    refine .o1 (tk rfl rfl fun _ w hn k => ⟨_, v_move rfl (k.eq1 2 5 rfl), rfl⟩) ?_
    refine .o1 (tg rfl rfl rfl (fun _ _ k => k.eq1 3 6 rfl) fun _ w hn k => ⟨_, v_field rfl (k.fx 1 h7) (fun w => rfl), rfl⟩) ?_
    refine .o1 (tg rfl rfl rfl (fun _ _ k => k.eq1 3 6 rfl) fun _ w hn k => ⟨_, v_load rfl (k.eq1 4 7 rfl) (l_one Tryd.isAgg3 ((hb10.new_ hn).cell 0)), rfl⟩) ?_
    refine .o1 (tg rfl rfl rfl (fun _ _ k => k.eq1 3 6 rfl) fun _ w hn k => ⟨_, v_bin rfl (k.eq1 5 8 rfl) rfl (fun _ => rfl) (r_eql ht23), rfl⟩) ?_
    refine .o1 (tk rfl rfl fun _ w hn k => ⟨_, v_pickF rfl (k.eq1 3 6 rfl) (k.eq1 6 9 rfl), rfl⟩) ?_
    refine .o1 (tk rfl rfl fun _ w hn k => ⟨_, v_move rfl (k.eq1 7 10 rfl), rfl⟩) ?_
    refine .o1 (tg rfl rfl rfl (fun _ _ k => k.eq1 8 11 rfl) fun _ w hn k => ⟨_, v_field rfl (k.fx 1 h7) (fun w => rfl), rfl⟩) ?_
    refine .o1 (tg rfl rfl rfl (fun _ _ k => k.eq1 8 11 rfl) fun _ w hn k => ⟨_, v_load rfl (k.eq1 9 12 rfl) (l_one Tryd.isAgg3 ((hb10.new_ hn).cell 0)), rfl⟩) ?_
    refine .o1 (tg rfl rfl rfl (fun _ _ k => k.eq1 8 11 rfl) fun _ w hn k => ⟨_, v_bin rfl (k.eq1 10 13 rfl) rfl (fun _ => rfl) (r_eql ht32), rfl⟩) ?_
    refine .o1 (tg rfl rfl rfl (fun _ _ k => k.eq1 8 11 rfl) fun _ w hn k => ⟨_, v_move rfl (k.eq1 11 14 rfl), rfl⟩) ?_
    refine .o1 (sk rfl rfl rfl (fun _ _ _ k => k.eq1 12 15 rfl) (fun _ => rfl)) ?_
    refine .o1 (sk rfl rfl rfl (fun _ _ _ k => k.eq1 12 15 rfl) (fun _ => rfl)) ?_
    refine .o1 (sk rfl rfl rfl (fun _ _ _ k => k.eq1 12 15 rfl) (fun _ => rfl)) ?_
    refine .o1 (tg rfl rfl rfl (fun _ _ k => k.eq1 8 11 rfl) fun _ w hn k => ⟨_, v_pickF rfl (k.eq1 12 15 rfl) rfl, rfl⟩) ?_
    refine .o1 (tk rfl rfl fun _ w hn k => ⟨_, v_pickF rfl (k.eq1 8 11 rfl) (k.eq1 16 19 rfl), rfl⟩) ?_
    refine .o1 (tk rfl rfl fun _ w hn k => ⟨_, v_assign rfl (k.eq1 17 20 rfl), rfl⟩) ?_
    exact .nil
  intro a41 w42 hn43 ha44
  have hs45 := ha44.size.trans hs5
  have hd46 := ha44.defers.trans hd6
  have h47 := ha44.ge 18 2 rfl
  have hN48 := hN13.transNew hn43
  clear hs5 hd6 h7 h11 hb10 hq12 hN13 ha44 hn43
  refine st_nil ?_
  refine hK _ _ ?_
  clear hK K
  refine wp_ret (ret_k hd46 (v := .bool false) (res_t rfl h47 _) ?_)
  refine ⟨?_, hN48⟩
  show Ending.returned (.bool false) = Ending.returned (.bool (belowB a))
  first | rfl | (simp [belowB, ht14, ht23, ht32])
set_option maxHeartbeats 4000000 in
set_option maxRecDepth 100000 in
theorem of_c (n : Int) (w : World) : Calls Tryd.prog 18 #[iv n] w (IsRet (.tuple #[nv ((ofM n).1), .bool ((ofM n).2)]) w) := by
  refine enter_abs Tryd.func18 rfl fun a0 hs0 hd0 hp => ?_
  have hs0 : a0.tmps.size = 13 := hs0
  have hN0 : New w w := Upd.refl _ _
  have hp0 : a0.eval (.tmp 0) = iv n := hp 0 _ rfl
  clear hp
  refine wp_seq_k fun K hK => ?_
  refine wp_g [true, true] [] [] 13
    [IsNew w 23 [iv 0, iv 0],
     ve (.bool false)]
    [0] (newsCons (fun v w h => IsNew.old h) newsNil) hs0 (.nw (.eq (.nil))) ?_ (fun i h => by cases h) ?_
  · skip
    refine .o2 (step_allocN (cs := [iv 0, iv 0]) (t := 23) rfl (noG rfl) (fun _ w hn k => rfl) (fun q _ hq hb => ⟨q, rfl, hq, hb⟩)) ?_
    refine .o1 (tk rfl rfl fun _ w hn k => ⟨_, v_assign rfl rfl, rfl⟩) ?_
    exact .nil
  intro a1 w2 hn3 ha4
  have hs5 := ha4.size.trans hs0
  have hd6 := ha4.defers.trans hd0
  have h7 := ha4.fx 0 hp0
  obtain ⟨q9, h8, hq10, hb11⟩ : IsNew _ _ _ _ _ := ha4.got 0 2 rfl (by kernel_rfl)
  have h12 := ha4.ge 1 3 rfl
  have hq13 := Nat.le_trans hN0.size hq10
  have hN14 := hN0.transNew hn3
  clear hs0 hd0 hp0 hq10 hN0 ha4 hn3
  refine st_nil ?_
  refine hK _ _ ?_
  clear hK K
  refine wp_seq_k fun K hK => ?_
  refine wp_seq_k fun K hK => ?_
  rcases Bool.eq_false_or_eq_true (decide (n < -9007199254740991)) with ht15 | ht15
  · skip
    have ht15d := of_decide_eq_true ht15
    refine wp_g0 [true, true, true, true, true, true] [] 13
      [ve (iv n),
       ve (.bool true),
       ve (.bool true),
       ve undef,
       ve undef,
       ve (.bool true)] hs5 (.eq (.eq (.eq (.eq (.eq (.eq (.nil))))))) ?_ ?_
    · skip
      refine .o1 (tk rfl rfl fun _ w hn k => ⟨_, v_move rfl (k.fx 0 h7), rfl⟩) ?_
      refine .o1 (tk rfl rfl fun _ w hn k => ⟨_, v_bin rfl (k.eq1 0 4 rfl) rfl (fun _ => rfl) (r_lssK ht15), rfl⟩) ?_
      refine .o1 (tk rfl rfl fun _ w hn k => ⟨_, v_move rfl (k.eq1 1 5 rfl), rfl⟩) ?_
      refine .o1 (sk rfl rfl rfl (fun _ _ _ k => k.eq1 2 6 rfl) (fun _ => rfl)) ?_
      refine .o1 (sk rfl rfl rfl (fun _ _ _ k => k.eq1 2 6 rfl) (fun _ => rfl)) ?_
      refine .o1 (tk rfl rfl fun _ w hn k => ⟨_, v_pickT rfl (k.eq1 2 6 rfl) rfl, rfl⟩) ?_
      exact .nil
    intro a16 w17 hn18 ha19
    have hs20 := ha19.size.trans hs5
    have hd21 := ha19.defers.trans hd6
    have h22 := ha19.fx 0 h7
    have h23 := ha19.fx 2 h8
    have h24 := ha19.fx 3 h12
    have h25 := ha19.ge 5 9 rfl
    have hb26 := hb11.new_ hn18
    have hN27 := hN14.transNew hn18
    clear hs5 hd6 h7 h8 h12 hb11 hN14 ha19 hn18
    refine st_nil ?_
    refine hK _ _ ?_
    clear hK K
    refine wp_cond_true h25 ?_
    refine wp_seq_k fun K hK => ?_
    refine wp_g0 [true, false, false] [(1, false), (2, true)] 13
      [ve (nv (Nm.mk 2 0)),
       vt,
       vt] hs20 (.eq (.tt (.tt (.nil)))) ?_ ?_
    · skip
      refine .o1 (ck rfl rfl rfl (fun _ w hn k => ⟨#[], rfl, fun _ => by kernel_rfl, nan_c  _⟩) fun _ => rfl) ?_
      refine .off ?_
      refine .off ?_
      exact .nil
    intro a28 w29 hn30 ha31
    have hs32 := ha31.size.trans hs20
    have hd33 := ha31.defers.trans hd21
    have h34 := ha31.fx 0 h22
    have h35 := ha31.fx 2 h23
    have h36 := ha31.fx 3 h24
    have h37 := ha31.ge 0 10 rfl
    have hb38 := hb26.new_ hn30
    have hN39 := hN27.transNew hn30
    clear hs20 hd21 h22 h23 h24 h25 hb26 hN27 ha31 hn30
    obtain ⟨w40, -, hst41, hb42, hu43, hf44⟩ := s_two (v0 := iv 2) (v1 := iv 0) Tryd.sizeOf23 rfl rfl rfl hb38
    refine st_act rfl rfl fun K45 hL46 => a_store' rfl h35 h37 hst41 (hL46 _ _ trivial ?_)
    have hN47 := hN39.trans hu43 (fun k hk hkb => by subst hkb; omega)
    clear hb38 hst41 K45 hL46 hN39 hu43 hf44
    refine st_take rfl rfl (y_assign (v := .bool false) rfl rfl) rfl ?_
    obtain ⟨a48, ha49⟩ : ∃ a', a' = a28.put (some 3) (.bool false) := ⟨_, rfl⟩
    have hs50 : a48.tmps.size = 13 := by rw [ha49, put_size]; exact hs32
    have hd51 : a48.defers = [] := by rw [ha49, put_defers]; exact hd33
    have h52 : a48.eval (.tmp 0) = iv n := by rw [ha49, put_ne _ _ _ _ (by decide)]; exact h34
    have h53 : a48.eval (.tmp 2) = pv q9 := by rw [ha49, put_ne _ _ _ _ (by decide)]; exact h35
    have h54 : a48.eval (.tmp 10) = nv (Nm.mk 2 0) := by rw [ha49, put_ne _ _ _ _ (by decide)]; exact h37
    have h55 : a48.eval (.tmp 3) = .bool false := by rw [ha49]; exact put_same _ _ _ (by rw [hs32]; decide)
    show stepsTo _ _ _ _ _ (a28.put (some 3) (.bool false)) _
    rw [← ha49]
    clear ha49 hs32 hd33 h34 h35 h36 h37
    refine st_nil ?_
    clear h54
    refine hK _ _ ?_
    clear hK K
    refine wp_ret (ret_k hd51 (v := .tuple #[nv (Nm.mk 2 0), .bool false]) (res_ct rfl h53 h55 (l_two Tryd.isAgg23 Tryd.sizeOf23 hb42)) ?_)
    refine ⟨?_, hN47⟩
    show Ending.returned (.tuple #[nv (Nm.mk 2 0), .bool false]) = Ending.returned (.tuple #[nv ((ofM n).1), .bool ((ofM n).2)])
    first | rfl | (simp [ofM, ht15])
  have ht15d := of_decide_eq_false ht15
  rcases Bool.eq_false_or_eq_true (decide (n ≤ 9007199254740991)) with ht56 | ht56
  · skip
    have ht56d := of_decide_eq_true ht56
    refine wp_g0 [true, true, true, true, true, true] [] 13
      [ve (iv n),
       ve (.bool false),
       ve (.bool false),
       ve (iv n),
       ve (.bool false),
       ve (.bool false)] hs5 (.eq (.eq (.eq (.eq (.eq (.eq (.nil))))))) ?_ ?_
    · skip
      refine .o1 (tk rfl rfl fun _ w hn k => ⟨_, v_move rfl (k.fx 0 h7), rfl⟩) ?_
      refine .o1 (tk rfl rfl fun _ w hn k => ⟨_, v_bin rfl (k.eq1 0 4 rfl) rfl (fun _ => rfl) (r_lssK ht15), rfl⟩) ?_
      refine .o1 (tk rfl rfl fun _ w hn k => ⟨_, v_move rfl (k.eq1 1 5 rfl), rfl⟩) ?_
      refine .o1 (tg rfl rfl rfl (fun _ _ k => k.eq1 2 6 rfl) fun _ w hn k => ⟨_, v_move rfl (k.fx 0 h7), rfl⟩) ?_
      refine .o1 (tg rfl rfl rfl (fun _ _ k => k.eq1 2 6 rfl) fun _ w hn k => ⟨_, v_bin rfl (k.eq1 3 7 rfl) rfl (fun _ => rfl) (r_gtrK ht56), rfl⟩) ?_
      refine .o1 (tk rfl rfl fun _ w hn k => ⟨_, v_pickF rfl (k.eq1 2 6 rfl) (k.eq1 4 8 rfl), rfl⟩) ?_
      exact .nil
    intro a57 w58 hn59 ha60
    have hs61 := ha60.size.trans hs5
    have hd62 := ha60.defers.trans hd6
    have h63 := ha60.fx 0 h7
    have h64 := ha60.fx 2 h8
    have h65 := ha60.fx 3 h12
    have h66 := ha60.ge 5 9 rfl
    have hb67 := hb11.new_ hn59
    have hN68 := hN14.transNew hn59
    clear hs5 hd6 h7 h8 h12 hb11 hN14 ha60 hn59
    refine st_nil ?_
    refine hK _ _ ?_
    clear hK K
    refine wp_cond_false h66 ?_
    refine wp_skip ?_
    refine hK _ _ ?_
    clear hK K
    refine wp_seq_k fun K hK => ?_
    refine wp_g0 [true, true, false, false] [(2, false), (3, true)] 13
      [ve (iv n),
       ve (nv (Nm.mk 0 n)),
       vt,
       vt] hs61 (.eq (.eq (.tt (.tt (.nil))))) ?_ ?_
    · skip
      refine .o1 (tk rfl rfl fun _ w hn k => ⟨_, v_move rfl (k.fx 0 h63), rfl⟩) ?_
      refine .o1 (ck rfl rfl rfl (fun _ w hn k => ⟨#[iv n], args1 (k.eq1 0 11 rfl), fun _ => by kernel_rfl, whole_c n _⟩) fun _ => rfl) ?_
      refine .off ?_
      refine .off ?_
      exact .nil
    intro a69 w70 hn71 ha72
    have hs73 := ha72.size.trans hs61
    have hd74 := ha72.defers.trans hd62
    have h75 := ha72.fx 2 h64
    have h76 := ha72.fx 3 h65
    have h77 := ha72.ge 1 12 rfl
    have hb78 := hb67.new_ hn71
    have hN79 := hN68.transNew hn71
    clear hs61 hd62 h63 h64 h65 h66 hb67 hN68 ha72 hn71
    obtain ⟨w80, -, hst81, hb82, hu83, hf84⟩ := s_two (v0 := iv 0) (v1 := iv n) Tryd.sizeOf23 rfl rfl rfl hb78
    refine st_act rfl rfl fun K85 hL86 => a_store' rfl h75 h77 hst81 (hL86 _ _ trivial ?_)
    have hN87 := hN79.trans hu83 (fun k hk hkb => by subst hkb; omega)
    clear hb78 hst81 K85 hL86 hN79 hu83 hf84
    refine st_take rfl rfl (y_assign (v := .bool true) rfl rfl) rfl ?_
    obtain ⟨a88, ha89⟩ : ∃ a', a' = a69.put (some 3) (.bool true) := ⟨_, rfl⟩
    have hs90 : a88.tmps.size = 13 := by rw [ha89, put_size]; exact hs73
    have hd91 : a88.defers = [] := by rw [ha89, put_defers]; exact hd74
    have h92 : a88.eval (.tmp 2) = pv q9 := by rw [ha89, put_ne _ _ _ _ (by decide)]; exact h75
    have h93 : a88.eval (.tmp 12) = nv (Nm.mk 0 n) := by rw [ha89, put_ne _ _ _ _ (by decide)]; exact h77
    have h94 : a88.eval (.tmp 3) = .bool true := by rw [ha89]; exact put_same _ _ _ (by rw [hs73]; decide)
    show stepsTo _ _ _ _ _ (a69.put (some 3) (.bool true)) _
    rw [← ha89]
    clear ha89 hs73 hd74 h75 h76 h77
    refine st_nil ?_
    clear h93
    refine hK _ _ ?_
    clear hK K
    refine wp_ret (ret_k hd91 (v := .tuple #[nv (Nm.mk 0 n), .bool true]) (res_ct rfl h92 h94 (l_two Tryd.isAgg23 Tryd.sizeOf23 hb82)) ?_)
    refine ⟨?_, hN87⟩
    show Ending.returned (.tuple #[nv (Nm.mk 0 n), .bool true]) = Ending.returned (.tuple #[nv ((ofM n).1), .bool ((ofM n).2)])
    first | rfl | (simp [ofM, ht15, ht56])
  have ht56d := of_decide_eq_false ht56
  refine wp_g0 [true, true, true, true, true, true] [] 13
    [ve (iv n),
     ve (.bool false),
     ve (.bool false),
     ve (iv n),
     ve (.bool true),
     ve (.bool true)] hs5 (.eq (.eq (.eq (.eq (.eq (.eq (.nil))))))) ?_ ?_
  · skip
    refine .o1 (tk rfl rfl fun _ w hn k => ⟨_, v_move rfl (k.fx 0 h7), rfl⟩) ?_
    refine .o1 (tk rfl rfl fun _ w hn k => ⟨_, v_bin rfl (k.eq1 0 4 rfl) rfl (fun _ => rfl) (r_lssK ht15), rfl⟩) ?_
    refine .o1 (tk rfl rfl fun _ w hn k => ⟨_, v_move rfl (k.eq1 1 5 rfl), rfl⟩) ?_
    refine .o1 (tg rfl rfl rfl (fun _ _ k => k.eq1 2 6 rfl) fun _ w hn k => ⟨_, v_move rfl (k.fx 0 h7), rfl⟩) ?_
    refine .o1 (tg rfl rfl rfl (fun _ _ k => k.eq1 2 6 rfl) fun _ w hn k => ⟨_, v_bin rfl (k.eq1 3 7 rfl) rfl (fun _ => rfl) (r_gtrK ht56), rfl⟩) ?_
    refine .o1 (tk rfl rfl fun _ w hn k => ⟨_, v_pickF rfl (k.eq1 2 6 rfl) (k.eq1 4 8 rfl), rfl⟩) ?_
    exact .nil
  intro a95 w96 hn97 ha98
  have hs99 := ha98.size.trans hs5
  have hd100 := ha98.defers.trans hd6
  have h101 := ha98.fx 0 h7
  have h102 := ha98.fx 2 h8
  have h103 := ha98.fx 3 h12
  have h104 := ha98.ge 5 9 rfl
  have hb105 := hb11.new_ hn97
  have hN106 := hN14.transNew hn97
  clear hs5 hd6 h7 h8 h12 hb11 hN14 ha98 hn97
  refine st_nil ?_
  refine hK _ _ ?_
  clear hK K
  refine wp_cond_true h104 ?_
  refine wp_seq_k fun K hK => ?_
  refine wp_g0 [true, false, false] [(1, false), (2, true)] 13
    [ve (nv (Nm.mk 2 0)),
     vt,
     vt] hs99 (.eq (.tt (.tt (.nil)))) ?_ ?_
  · skip
    refine .o1 (ck rfl rfl rfl (fun _ w hn k => ⟨#[], rfl, fun _ => by kernel_rfl, nan_c  _⟩) fun _ => rfl) ?_
    refine .off ?_
    refine .off ?_
    exact .nil
  intro a107 w108 hn109 ha110
  have hs111 := ha110.size.trans hs99
  have hd112 := ha110.defers.trans hd100
  have h113 := ha110.fx 0 h101
  have h114 := ha110.fx 2 h102
  have h115 := ha110.fx 3 h103
  have h116 := ha110.ge 0 10 rfl
  have hb117 := hb105.new_ hn109
  have hN118 := hN106.transNew hn109
  clear hs99 hd100 h101 h102 h103 h104 hb105 hN106 ha110 hn109
  obtain ⟨w119, -, hst120, hb121, hu122, hf123⟩ := s_two (v0 := iv 2) (v1 := iv 0) Tryd.sizeOf23 rfl rfl rfl hb117
  refine st_act rfl rfl fun K124 hL125 => a_store' rfl h114 h116 hst120 (hL125 _ _ trivial ?_)
  have hN126 := hN118.trans hu122 (fun k hk hkb => by subst hkb; omega)
  clear hb117 hst120 K124 hL125 hN118 hu122 hf123
  refine st_take rfl rfl (y_assign (v := .bool false) rfl rfl) rfl ?_
  obtain ⟨a127, ha128⟩ : ∃ a', a' = a107.put (some 3) (.bool false) := ⟨_, rfl⟩
  have hs129 : a127.tmps.size = 13 := by rw [ha128, put_size]; exact hs111
  have hd130 : a127.defers = [] := by rw [ha128, put_defers]; exact hd112
  have h131 : a127.eval (.tmp 0) = iv n := by rw [ha128, put_ne _ _ _ _ (by decide)]; exact h113
  have h132 : a127.eval (.tmp 2) = pv q9 := by rw [ha128, put_ne _ _ _ _ (by decide)]; exact h114
  have h133 : a127.eval (.tmp 10) = nv (Nm.mk 2 0) := by rw [ha128, put_ne _ _ _ _ (by decide)]; exact h116
  have h134 : a127.eval (.tmp 3) = .bool false := by rw [ha128]; exact put_same _ _ _ (by rw [hs111]; decide)
  show stepsTo _ _ _ _ _ (a107.put (some 3) (.bool false)) _
  rw [← ha128]
  clear ha128 hs111 hd112 h113 h114 h115 h116
  refine st_nil ?_
  clear h133
  refine hK _ _ ?_
  clear hK K
  refine wp_ret (ret_k hd130 (v := .tuple #[nv (Nm.mk 2 0), .bool false]) (res_ct rfl h132 h134 (l_two Tryd.isAgg23 Tryd.sizeOf23 hb121)) ?_)
  refine ⟨?_, hN126⟩
  show Ending.returned (.tuple #[nv (Nm.mk 2 0), .bool false]) = Ending.returned (.tuple #[nv ((ofM n).1), .bool ((ofM n).2)])
  first | rfl | (simp [ofM, ht15, ht56])
set_option maxHeartbeats 4000000 in
set_option maxRecDepth 100000 in
theorem add_c (a : Nm) (b : Nm) (w : World) : Calls Tryd.prog 26 #[nv a, nv b] w (IsRet (.tuple #[nv ((addM a b).1), .bool ((addM a b).2)]) w) := by
  refine enter_abs Tryd.func26 rfl fun a0 hs0 hd0 hp => ?_
  have hs0 : a0.tmps.size = 59 := hs0
  have hN0 : New w w := Upd.refl _ _
  have hp0 : a0.eval (.tmp 0) = nv a := hp 0 _ rfl
  have hp1 : a0.eval (.tmp 1) = nv b := hp 1 _ rfl
  clear hp
  refine wp_seq_k fun K hK => ?_
  refine wp_g [true, true, true, true] [] [] 59
    [IsNew w 23 [iv a.k, iv a.n],
     IsNew w 23 [iv b.k, iv b.n],
     IsNew w 23 [iv 0, iv 0],
     ve (.bool false)]
    [0, 1, 2] (newsCons (fun v w h => IsNew.old h) (newsCons (fun v w h => IsNew.old h) (newsCons (fun v w h => IsNew.old h) newsNil))) hs0 (.nw (.nw (.nw (.eq (.nil))))) ?_ (fun i h => by cases h) ?_
  · skip
    refine .o2 (step_allocN (cs := [iv a.k, iv a.n]) (t := 23) rfl (noG rfl) (fun _ w hn k => v_box rfl (k.fx 0 hp0) (fun w => rfl)) (fun q _ hq hb => ⟨q, rfl, hq, hb⟩)) ?_
    refine .o2 (step_allocN (cs := [iv b.k, iv b.n]) (t := 23) rfl (noG rfl) (fun _ w hn k => v_box rfl (k.fx 1 hp1) (fun w => rfl)) (fun q _ hq hb => ⟨q, rfl, hq, hb⟩)) ?_
    refine .o2 (step_allocN (cs := [iv 0, iv 0]) (t := 23) rfl (noG rfl) (fun _ w hn k => rfl) (fun q _ hq hb => ⟨q, rfl, hq, hb⟩)) ?_
    refine .o1 (tk rfl rfl fun _ w hn k => ⟨_, v_assign rfl rfl, rfl⟩) ?_
    exact .nil
  intro a1 w2 hn3 ha4
  have hs5 := ha4.size.trans hs0
  have hd6 := ha4.defers.trans hd0
  obtain ⟨q8, h7, hq9, hb10⟩ : IsNew _ _ _ _ _ := ha4.got 0 2 rfl (by kernel_rfl)
  obtain ⟨q12, h11, hq13, hb14⟩ : IsNew _ _ _ _ _ := ha4.got 1 3 rfl (by kernel_rfl)
  obtain ⟨q16, h15, hq17, hb18⟩ : IsNew _ _ _ _ _ := ha4.got 2 4 rfl (by kernel_rfl)
  have h19 := ha4.ge 3 5 rfl
  have hne20 : q8 ≠ q12 := ha4.ne 0 1 2 3 h7 h11
  have hne21 : q8 ≠ q16 := ha4.ne 0 2 2 4 h7 h15
  have hne22 : q12 ≠ q16 := ha4.ne 1 2 3 4 h11 h15
  have hq23 := Nat.le_trans hN0.size hq9
  have hq24 := Nat.le_trans hN0.size hq13
  have hq25 := Nat.le_trans hN0.size hq17
  have hN26 := hN0.transNew hn3
  clear hs0 hd0 hp0 hp1 hq9 hq13 hq17 hN0 ha4 hn3
  refine st_nil ?_
  refine hK _ _ ?_
  clear hK K
  refine wp_seq_k fun K hK => ?_
  refine wp_g0 [true, true, true, true, false, false] [(4, false), (5, false)] 59
    [ve (nv a),
     ve (nv (asM a)),
     ve (nv b),
     ve (nv (asM b)),
     vt,
     vt] hs5 (.eq (.eq (.eq (.eq (.tt (.tt (.nil))))))) ?_ ?_
  · skip
    refine .o1 (tk rfl rfl fun _ w hn k => ⟨_, v_load rfl (k.fx 2 h7) (l_two Tryd.isAgg23 Tryd.sizeOf23 (hb10.new_ hn)), rfl⟩) ?_
    refine .o1 (ck rfl rfl rfl (fun _ w hn k => ⟨#[nv a], args1 (k.eq1 0 6 rfl), fun _ => by kernel_rfl, as_c a _⟩) fun _ => rfl) ?_
    refine .o1 (tk rfl rfl fun _ w hn k => ⟨_, v_load rfl (k.fx 3 h11) (l_two Tryd.isAgg23 Tryd.sizeOf23 (hb14.new_ hn)), rfl⟩) ?_
    refine .o1 (ck rfl rfl rfl (fun _ w hn k => ⟨#[nv b], args1 (k.eq1 2 8 rfl), fun _ => by kernel_rfl, as_c b _⟩) fun _ => rfl) ?_
    refine .off ?_
    refine .off ?_
    exact .nil
  intro a27 w28 hn29 ha30
  have hs31 := ha30.size.trans hs5
  have hd32 := ha30.defers.trans hd6
  have h33 := ha30.fx 2 h7
  have h34 := ha30.fx 3 h11
  have h35 := ha30.fx 4 h15
  have h36 := ha30.fx 5 h19
  have h37 := ha30.ge 1 7 rfl
  have h38 := ha30.ge 3 9 rfl
  have hb39 := hb10.new_ hn29
  have hb40 := hb14.new_ hn29
  have hb41 := hb18.new_ hn29
  have hN42 := hN26.transNew hn29
  clear hs5 hd6 h7 h11 h15 h19 hb10 hb14 hb18 hN26 ha30 hn29
  have hbd_a := as_bd a
  have hbd_b := as_bd b
  obtain ⟨w43, -, hst44, hb45, hu46, hf47⟩ := s_two (v0 := iv ((asM a).k)) (v1 := iv ((asM a).n)) Tryd.sizeOf23 rfl rfl rfl hb39
  refine st_act rfl rfl fun K48 hL49 => a_store' rfl h33 h37 hst44 (hL49 _ _ trivial ?_)
  have hb50 := hf47 _ _ _ (fun h => hne20 h.symm) hb40
  have hb51 := hf47 _ _ _ (fun h => hne21 h.symm) hb41
  have hN52 := hN42.trans hu46 (fun k hk hkb => by subst hkb; omega)
  clear hb39 hst44 K48 hL49 hN42 hb40 hb41 hu46 hf47
  obtain ⟨w53, -, hst54, hb55, hu56, hf57⟩ := s_two (v0 := iv ((asM b).k)) (v1 := iv ((asM b).n)) Tryd.sizeOf23 rfl rfl rfl hb50
  refine st_act rfl rfl fun K58 hL59 => a_store' rfl h34 h38 hst54 (hL59 _ _ trivial ?_)
  have hb60 := hf57 _ _ _ (hne20) hb45
  have hb61 := hf57 _ _ _ (fun h => hne22 h.symm) hb51
  have hN62 := hN52.trans hu56 (fun k hk hkb => by subst hkb; omega)
  clear hb50 hst54 K58 hL59 hN52 hb45 hb51 hu56 hf57
  refine st_nil ?_
  clear h37 h38
  refine hK _ _ ?_
  clear hK K
  refine wp_seq_k fun K hK => ?_
  refine wp_block ?_
  refine wp_seq_k fun K hK => ?_
  rcases Bool.eq_false_or_eq_true (decide (((asM a).k) = 2)) with ht63 | ht63
  · skip
    have ht63d := of_decide_eq_true ht63
    refine wp_g0 [true, true, true, true, true, true, true, true, true, true, true, true, true, true, true, true, true, true, true, true, true, true] [] 59
      [ve (nv (asM a)),
       ve (.bool true),
       ve (.bool true),
       ve undef,
       ve undef,
       ve (.bool true),
       ve (.bool true),
       ve undef,
       ve undef,
       ve undef,
       ve undef,
       ve undef,
       ve undef,
       ve undef,
       ve undef,
       ve undef,
       ve undef,
       ve undef,
       ve undef,
       ve undef,
       ve (.bool true),
       ve (.bool true)] hs31 (.eq (.eq (.eq (.eq (.eq (.eq (.eq (.eq (.eq (.eq (.eq (.eq (.eq (.eq (.eq (.eq (.eq (.eq (.eq (.eq (.eq (.eq (.nil))))))))))))))))))))))) ?_ ?_
    · skip
      refine .o1 (tk rfl rfl fun _ w hn k => ⟨_, v_load rfl (k.fx 2 h33) (l_two Tryd.isAgg23 Tryd.sizeOf23 (hb60.new_ hn)), rfl⟩) ?_
      refine .o1 (ck rfl rfl rfl (fun _ w hn k => ⟨#[nv (asM a)], args1 (k.eq1 0 11 rfl), fun _ => by kernel_rfl, isNaN_c (asM a) _⟩) fun _ => congrArg Value.bool ht63) ?_
      refine .o1 (tk rfl rfl fun _ w hn k => ⟨_, v_move rfl (k.eq1 1 12 rfl), rfl⟩) ?_
      refine .o1 (sk rfl rfl rfl (fun _ _ _ k => k.eq1 2 13 rfl) (fun _ => rfl)) ?_
      refine .o1 (sk rfl rfl rfl (fun _ _ _ k => k.eq1 2 13 rfl) (fun _ => rfl)) ?_
      refine .o1 (tk rfl rfl fun _ w hn k => ⟨_, v_pickT rfl (k.eq1 2 13 rfl) rfl, rfl⟩) ?_
      refine .o1 (tk rfl rfl fun _ w hn k => ⟨_, v_move rfl (k.eq1 5 16 rfl), rfl⟩) ?_
      refine .o1 (sk rfl rfl rfl (fun _ _ _ k => k.eq1 6 17 rfl) (fun _ => rfl)) ?_
      refine .o1 (sk rfl rfl rfl (fun _ _ _ k => k.eq1 6 17 rfl) (fun _ => rfl)) ?_
      refine .o1 (sk rfl rfl rfl (fun _ _ _ k => k.eq1 6 17 rfl) (fun _ => rfl)) ?_
      refine .o1 (su rfl rfl rfl (fun _ _ _ k => k.eq1 9 20 rfl) (fun _ => rfl)) ?_
      refine .o1 (su rfl rfl rfl (fun _ _ _ k => k.eq1 9 20 rfl) (fun _ => rfl)) ?_
      refine .o1 (sk rfl rfl rfl (fun _ _ _ k => k.eq1 6 17 rfl) (fun _ => rfl)) ?_
      refine .o1 (sk rfl rfl rfl (fun _ _ _ k => k.eq1 6 17 rfl) (fun _ => rfl)) ?_
      refine .o1 (su rfl rfl rfl (fun _ _ _ k => k.eq1 13 24 rfl) (fun _ => rfl)) ?_
      refine .o1 (su rfl rfl rfl (fun _ _ _ k => k.eq1 13 24 rfl) (fun _ => rfl)) ?_
      refine .o1 (su rfl rfl rfl (fun _ _ _ k => k.eq1 13 24 rfl) (fun _ => rfl)) ?_
      refine .o1 (su rfl rfl rfl (fun _ _ _ k => k.eq1 13 24 rfl) (fun _ => rfl)) ?_
      refine .o1 (su rfl rfl rfl (fun _ _ _ k => k.eq1 13 24 rfl) (fun _ => rfl)) ?_
      refine .o1 (sk rfl rfl rfl (fun _ _ _ k => k.eq1 6 17 rfl) (fun _ => rfl)) ?_
      refine .o1 (tk rfl rfl fun _ w hn k => ⟨_, v_pickT rfl (k.eq1 6 17 rfl) rfl, rfl⟩) ?_
      refine .o1 (tk rfl rfl fun _ w hn k => ⟨_, v_assign rfl (k.eq1 20 31 rfl), rfl⟩) ?_
      exact .nil
    intro a64 w65 hn66 ha67
    have hs68 := ha67.size.trans hs31
    have hd69 := ha67.defers.trans hd32
    have h70 := ha67.fx 2 h33
    have h71 := ha67.fx 3 h34
    have h72 := ha67.fx 4 h35
    have h73 := ha67.fx 5 h36
    have h74 := ha67.ge 21 10 rfl
    have hb75 := hb60.new_ hn66
    have hb76 := hb55.new_ hn66
    have hb77 := hb61.new_ hn66
    have hN78 := hN62.transNew hn66
    clear hs31 hd32 h33 h34 h35 h36 hb60 hb55 hb61 hN62 ha67 hn66
    refine st_nil ?_
    refine hK _ _ ?_
    clear hK K
    refine wp_cond_true h74 ?_
    refine wp_seq_k fun K hK => ?_
    refine wp_g0 [true, false, false] [(1, false), (2, true)] 59
      [ve (nv (Nm.mk 2 0)),
       vt,
       vt] hs68 (.eq (.tt (.tt (.nil)))) ?_ ?_
    · skip
      refine .o1 (ck rfl rfl rfl (fun _ w hn k => ⟨#[], rfl, fun _ => by kernel_rfl, nan_c  _⟩) fun _ => rfl) ?_
      refine .off ?_
      refine .off ?_
      exact .nil
    intro a79 w80 hn81 ha82
    have hs83 := ha82.size.trans hs68
    have hd84 := ha82.defers.trans hd69
    have h85 := ha82.fx 2 h70
    have h86 := ha82.fx 3 h71
    have h87 := ha82.fx 4 h72
    have h88 := ha82.fx 5 h73
    have h89 := ha82.ge 0 32 rfl
    have hb90 := hb75.new_ hn81
    have hb91 := hb76.new_ hn81
    have hb92 := hb77.new_ hn81
    have hN93 := hN78.transNew hn81
    clear hs68 hd69 h70 h71 h72 h73 h74 hb75 hb76 hb77 hN78 ha82 hn81
    obtain ⟨w94, -, hst95, hb96, hu97, hf98⟩ := s_two (v0 := iv 2) (v1 := iv 0) Tryd.sizeOf23 rfl rfl rfl hb92
    refine st_act rfl rfl fun K99 hL100 => a_store' rfl h87 h89 hst95 (hL100 _ _ trivial ?_)
    have hb101 := hf98 _ _ _ (hne21) hb90
    have hb102 := hf98 _ _ _ (hne22) hb91
    have hN103 := hN93.trans hu97 (fun k hk hkb => by subst hkb; omega)
    clear hb92 hst95 K99 hL100 hN93 hb90 hb91 hu97 hf98
    refine st_take rfl rfl (y_assign (v := .bool true) rfl rfl) rfl ?_
    obtain ⟨a104, ha105⟩ : ∃ a', a' = a79.put (some 5) (.bool true) := ⟨_, rfl⟩
    have hs106 : a104.tmps.size = 59 := by rw [ha105, put_size]; exact hs83
    have hd107 : a104.defers = [] := by rw [ha105, put_defers]; exact hd84
    have h108 : a104.eval (.tmp 2) = pv q8 := by rw [ha105, put_ne _ _ _ _ (by decide)]; exact h85
    have h109 : a104.eval (.tmp 3) = pv q12 := by rw [ha105, put_ne _ _ _ _ (by decide)]; exact h86
    have h110 : a104.eval (.tmp 4) = pv q16 := by rw [ha105, put_ne _ _ _ _ (by decide)]; exact h87
    have h111 : a104.eval (.tmp 32) = nv (Nm.mk 2 0) := by rw [ha105, put_ne _ _ _ _ (by decide)]; exact h89
    have h112 : a104.eval (.tmp 5) = .bool true := by rw [ha105]; exact put_same _ _ _ (by rw [hs83]; decide)
    show stepsTo _ _ _ _ _ (a79.put (some 5) (.bool true)) _
    rw [← ha105]
    clear ha105 hs83 hd84 h85 h86 h87 h88 h89
    refine st_nil ?_
    clear h111
    refine hK _ _ ?_
    clear hK K
    refine wp_ret (ret_k hd107 (v := .tuple #[nv (Nm.mk 2 0), .bool true]) (res_ct rfl h110 h112 (l_two Tryd.isAgg23 Tryd.sizeOf23 hb96)) ?_)
    refine ⟨?_, hN103⟩
    show Ending.returned (.tuple #[nv (Nm.mk 2 0), .bool true]) = Ending.returned (.tuple #[nv ((addM a b).1), .bool ((addM a b).2)])
    first | rfl | (simp [addM, addA, ht63])
  have ht63d := of_decide_eq_false ht63
  rcases Bool.eq_false_or_eq_true (decide (((asM b).k) = 2)) with ht113 | ht113
  · skip
    have ht113d := of_decide_eq_true ht113
    refine wp_g0 [true, true, true, true, true, true, true, true, true, true, true, true, true, true, true, true, true, true, true, true, true, true] [] 59
      [ve (nv (asM a)),
       ve (.bool false),
       ve (.bool false),
       ve (nv (asM b)),
       ve (.bool true),
       ve (.bool true),
       ve (.bool true),
       ve undef,
       ve undef,
       ve undef,
       ve undef,
       ve undef,
       ve undef,
       ve undef,
       ve undef,
       ve undef,
       ve undef,
       ve undef,
       ve undef,
       ve undef,
       ve (.bool true),
       ve (.bool true)] hs31 (.eq (.eq (.eq (.eq (.eq (.eq (.eq (.eq (.eq (.eq (.eq (.eq (.eq (.eq (.eq (.eq (.eq (.eq (.eq (.eq (.eq (.eq (.nil))))))))))))))))))))))) ?_ ?_
    · skip
      refine .o1 (tk rfl rfl fun _ w hn k => ⟨_, v_load rfl (k.fx 2 h33) (l_two Tryd.isAgg23 Tryd.sizeOf23 (hb60.new_ hn)), rfl⟩) ?_
      refine .o1 (ck rfl rfl rfl (fun _ w hn k => ⟨#[nv (asM a)], args1 (k.eq1 0 11 rfl), fun _ => by kernel_rfl, isNaN_c (asM a) _⟩) fun _ => congrArg Value.bool ht63) ?_
      refine .o1 (tk rfl rfl fun _ w hn k => ⟨_, v_move rfl (k.eq1 1 12 rfl), rfl⟩) ?_
      refine .o1 (tg rfl rfl rfl (fun _ _ k => k.eq1 2 13 rfl) fun _ w hn k => ⟨_, v_load rfl (k.fx 3 h34) (l_two Tryd.isAgg23 Tryd.sizeOf23 (hb55.new_ hn)), rfl⟩) ?_
      refine .o1 (cg rfl rfl rfl (fun _ _ k => k.eq1 2 13 rfl) rfl (fun _ w hn k => ⟨#[nv (asM b)], args1 (k.eq1 3 14 rfl), fun _ => by kernel_rfl, isNaN_c (asM b) _⟩) fun _ => congrArg Value.bool ht113) ?_
      refine .o1 (tk rfl rfl fun _ w hn k => ⟨_, v_pickF rfl (k.eq1 2 13 rfl) (k.eq1 4 15 rfl), rfl⟩) ?_
      refine .o1 (tk rfl rfl fun _ w hn k => ⟨_, v_move rfl (k.eq1 5 16 rfl), rfl⟩) ?_
      refine .o1 (sk rfl rfl rfl (fun _ _ _ k => k.eq1 6 17 rfl) (fun _ => rfl)) ?_
      refine .o1 (sk rfl rfl rfl (fun _ _ _ k => k.eq1 6 17 rfl) (fun _ => rfl)) ?_
      refine .o1 (sk rfl rfl rfl (fun _ _ _ k => k.eq1 6 17 rfl) (fun _ => rfl)) ?_
      refine .o1 (su rfl rfl rfl (fun _ _ _ k => k.eq1 9 20 rfl) (fun _ => rfl)) ?_
      refine .o1 (su rfl rfl rfl (fun _ _ _ k => k.eq1 9 20 rfl) (fun _ => rfl)) ?_
      refine .o1 (sk rfl rfl rfl (fun _ _ _ k => k.eq1 6 17 rfl) (fun _ => rfl)) ?_
      refine .o1 (sk rfl rfl rfl (fun _ _ _ k => k.eq1 6 17 rfl) (fun _ => rfl)) ?_
      refine .o1 (su rfl rfl rfl (fun _ _ _ k => k.eq1 13 24 rfl) (fun _ => rfl)) ?_
      refine .o1 (su rfl rfl rfl (fun _ _ _ k => k.eq1 13 24 rfl) (fun _ => rfl)) ?_
      refine .o1 (su rfl rfl rfl (fun _ _ _ k => k.eq1 13 24 rfl) (fun _ => rfl)) ?_
      refine .o1 (su rfl rfl rfl (fun _ _ _ k => k.eq1 13 24 rfl) (fun _ => rfl)) ?_
      refine .o1 (su rfl rfl rfl (fun _ _ _ k => k.eq1 13 24 rfl) (fun _ => rfl)) ?_
      refine .o1 (sk rfl rfl rfl (fun _ _ _ k => k.eq1 6 17 rfl) (fun _ => rfl)) ?_
      refine .o1 (tk rfl rfl fun _ w hn k => ⟨_, v_pickT rfl (k.eq1 6 17 rfl) rfl, rfl⟩) ?_
      refine .o1 (tk rfl rfl fun _ w hn k => ⟨_, v_assign rfl (k.eq1 20 31 rfl), rfl⟩) ?_
      exact .nil
    intro a114 w115 hn116 ha117
    have hs118 := ha117.size.trans hs31
    have hd119 := ha117.defers.trans hd32
    have h120 := ha117.fx 2 h33
    have h121 := ha117.fx 3 h34
    have h122 := ha117.fx 4 h35
    have h123 := ha117.fx 5 h36
    have h124 := ha117.ge 21 10 rfl
    have hb125 := hb60.new_ hn116
    have hb126 := hb55.new_ hn116
    have hb127 := hb61.new_ hn116
    have hN128 := hN62.transNew hn116
    clear hs31 hd32 h33 h34 h35 h36 hb60 hb55 hb61 hN62 ha117 hn116
    refine st_nil ?_
    refine hK _ _ ?_
    clear hK K
    refine wp_cond_true h124 ?_
    refine wp_seq_k fun K hK => ?_
    refine wp_g0 [true, false, false] [(1, false), (2, true)] 59
      [ve (nv (Nm.mk 2 0)),
       vt,
       vt] hs118 (.eq (.tt (.tt (.nil)))) ?_ ?_
    · skip
      refine .o1 (ck rfl rfl rfl (fun _ w hn k => ⟨#[], rfl, fun _ => by kernel_rfl, nan_c  _⟩) fun _ => rfl) ?_
      refine .off ?_
      refine .off ?_
      exact .nil
    intro a129 w130 hn131 ha132
    have hs133 := ha132.size.trans hs118
    have hd134 := ha132.defers.trans hd119
    have h135 := ha132.fx 2 h120
    have h136 := ha132.fx 3 h121
    have h137 := ha132.fx 4 h122
    have h138 := ha132.fx 5 h123
    have h139 := ha132.ge 0 32 rfl
    have hb140 := hb125.new_ hn131
    have hb141 := hb126.new_ hn131
    have hb142 := hb127.new_ hn131
    have hN143 := hN128.transNew hn131
    clear hs118 hd119 h120 h121 h122 h123 h124 hb125 hb126 hb127 hN128 ha132 hn131
    obtain ⟨w144, -, hst145, hb146, hu147, hf148⟩ := s_two (v0 := iv 2) (v1 := iv 0) Tryd.sizeOf23 rfl rfl rfl hb142
    refine st_act rfl rfl fun K149 hL150 => a_store' rfl h137 h139 hst145 (hL150 _ _ trivial ?_)
    have hb151 := hf148 _ _ _ (hne21) hb140
    have hb152 := hf148 _ _ _ (hne22) hb141
    have hN153 := hN143.trans hu147 (fun k hk hkb => by subst hkb; omega)
    clear hb142 hst145 K149 hL150 hN143 hb140 hb141 hu147 hf148
    refine st_take rfl rfl (y_assign (v := .bool true) rfl rfl) rfl ?_
    obtain ⟨a154, ha155⟩ : ∃ a', a' = a129.put (some 5) (.bool true) := ⟨_, rfl⟩
    have hs156 : a154.tmps.size = 59 := by rw [ha155, put_size]; exact hs133
    have hd157 : a154.defers = [] := by rw [ha155, put_defers]; exact hd134
    have h158 : a154.eval (.tmp 2) = pv q8 := by rw [ha155, put_ne _ _ _ _ (by decide)]; exact h135
    have h159 : a154.eval (.tmp 3) = pv q12 := by rw [ha155, put_ne _ _ _ _ (by decide)]; exact h136
    have h160 : a154.eval (.tmp 4) = pv q16 := by rw [ha155, put_ne _ _ _ _ (by decide)]; exact h137
    have h161 : a154.eval (.tmp 32) = nv (Nm.mk 2 0) := by rw [ha155, put_ne _ _ _ _ (by decide)]; exact h139
    have h162 : a154.eval (.tmp 5) = .bool true := by rw [ha155]; exact put_same _ _ _ (by rw [hs133]; decide)
    show stepsTo _ _ _ _ _ (a129.put (some 5) (.bool true)) _
    rw [← ha155]
    clear ha155 hs133 hd134 h135 h136 h137 h138 h139
    refine st_nil ?_
    clear h161
    refine hK _ _ ?_
    clear hK K
    refine wp_ret (ret_k hd157 (v := .tuple #[nv (Nm.mk 2 0), .bool true]) (res_ct rfl h160 h162 (l_two Tryd.isAgg23 Tryd.sizeOf23 hb146)) ?_)
    refine ⟨?_, hN153⟩
    show Ending.returned (.tuple #[nv (Nm.mk 2 0), .bool true]) = Ending.returned (.tuple #[nv ((addM a b).1), .bool ((addM a b).2)])
    first | rfl | (simp [addM, addA, ht63, ht113])
  have ht113d := of_decide_eq_false ht113
  rcases Bool.eq_false_or_eq_true (infB ((asM a).k)) with ht163 | ht163
  · skip
    rcases Bool.eq_false_or_eq_true (infB ((asM b).k)) with ht164 | ht164
    · skip
      rcases Bool.eq_false_or_eq_true (decide (((asM a).k) = ((asM b).k))) with ht165 | ht165
      · skip
        have ht165d := of_decide_eq_true ht165
        refine wp_g0 [true, true, true, true, true, true, true, true, true, true, true, true, true, true, true, true, true, true, true, true, true, true] [] 59
          [ve (nv (asM a)),
           ve (.bool false),
           ve (.bool false),
           ve (nv (asM b)),
           ve (.bool false),
           ve (.bool false),
           ve (.bool false),
           ve (nv (asM a)),
           ve (.bool true),
           ve (.bool true),
           ve (nv (asM b)),
           ve (.bool true),
           ve (.bool true),
           ve (.bool true),
           ve (pv q8),
           ve (iv ((asM a).k)),
           ve (pv q12),
           ve (iv ((asM b).k)),
           ve (.bool false),
           ve (.bool false),
           ve (.bool false),
           ve (.bool false)] hs31 (.eq (.eq (.eq (.eq (.eq (.eq (.eq (.eq (.eq (.eq (.eq (.eq (.eq (.eq (.eq (.eq (.eq (.eq (.eq (.eq (.eq (.eq (.nil))))))))))))))))))))))) ?_ ?_
        · skip
          refine .o1 (tk rfl rfl fun _ w hn k => ⟨_, v_load rfl (k.fx 2 h33) (l_two Tryd.isAgg23 Tryd.sizeOf23 (hb60.new_ hn)), rfl⟩) ?_
          refine .o1 (ck rfl rfl rfl (fun _ w hn k => ⟨#[nv (asM a)], args1 (k.eq1 0 11 rfl), fun _ => by kernel_rfl, isNaN_c (asM a) _⟩) fun _ => congrArg Value.bool ht63) ?_
          refine .o1 (tk rfl rfl fun _ w hn k => ⟨_, v_move rfl (k.eq1 1 12 rfl), rfl⟩) ?_
          refine .o1 (tg rfl rfl rfl (fun _ _ k => k.eq1 2 13 rfl) fun _ w hn k => ⟨_, v_load rfl (k.fx 3 h34) (l_two Tryd.isAgg23 Tryd.sizeOf23 (hb55.new_ hn)), rfl⟩) ?_
          refine .o1 (cg rfl rfl rfl (fun _ _ k => k.eq1 2 13 rfl) rfl (fun _ w hn k => ⟨#[nv (asM b)], args1 (k.eq1 3 14 rfl), fun _ => by kernel_rfl, isNaN_c (asM b) _⟩) fun _ => congrArg Value.bool ht113) ?_
          refine .o1 (tk rfl rfl fun _ w hn k => ⟨_, v_pickF rfl (k.eq1 2 13 rfl) (k.eq1 4 15 rfl), rfl⟩) ?_
          refine .o1 (tk rfl rfl fun _ w hn k => ⟨_, v_move rfl (k.eq1 5 16 rfl), rfl⟩) ?_
          refine .o1 (tg rfl rfl rfl (fun _ _ k => k.eq1 6 17 rfl) fun _ w hn k => ⟨_, v_load rfl (k.fx 2 h33) (l_two Tryd.isAgg23 Tryd.sizeOf23 (hb60.new_ hn)), rfl⟩) ?_
          refine .o1 (cg rfl rfl rfl (fun _ _ k => k.eq1 6 17 rfl) rfl (fun _ w hn k => ⟨#[nv (asM a)], args1 (k.eq1 7 18 rfl), fun _ => by kernel_rfl, isInf_c (asM a) _⟩) fun _ => congrArg Value.bool ht163) ?_
          refine .o1 (tg rfl rfl rfl (fun _ _ k => k.eq1 6 17 rfl) fun _ w hn k => ⟨_, v_move rfl (k.eq1 8 19 rfl), rfl⟩) ?_
          refine .o1 (tg rfl rfl rfl (fun _ _ k => k.eq1 9 20 rfl) fun _ w hn k => ⟨_, v_load rfl (k.fx 3 h34) (l_two Tryd.isAgg23 Tryd.sizeOf23 (hb55.new_ hn)), rfl⟩) ?_
          refine .o1 (cg rfl rfl rfl (fun _ _ k => k.eq1 9 20 rfl) rfl (fun _ w hn k => ⟨#[nv (asM b)], args1 (k.eq1 10 21 rfl), fun _ => by kernel_rfl, isInf_c (asM b) _⟩) fun _ => congrArg Value.bool ht164) ?_
          refine .o1 (tg rfl rfl rfl (fun _ _ k => k.eq1 6 17 rfl) fun _ w hn k => ⟨_, v_pickT rfl (k.eq1 9 20 rfl) (k.eq1 11 22 rfl), rfl⟩) ?_
          refine .o1 (tg rfl rfl rfl (fun _ _ k => k.eq1 6 17 rfl) fun _ w hn k => ⟨_, v_move rfl (k.eq1 12 23 rfl), rfl⟩) ?_
          refine .o1 (tg rfl rfl rfl (fun _ _ k => k.eq1 13 24 rfl) fun _ w hn k => ⟨_, v_field rfl (k.fx 2 h33) (fun w => rfl), rfl⟩) ?_
          refine .o1 (tg rfl rfl rfl (fun _ _ k => k.eq1 13 24 rfl) fun _ w hn k => ⟨_, v_load rfl (k.eq1 14 25 rfl) (l_one Tryd.isAgg3 ((hb60.new_ hn).cell 0)), rfl⟩) ?_
          refine .o1 (tg rfl rfl rfl (fun _ _ k => k.eq1 13 24 rfl) fun _ w hn k => ⟨_, v_field rfl (k.fx 3 h34) (fun w => rfl), rfl⟩) ?_
          refine .o1 (tg rfl rfl rfl (fun _ _ k => k.eq1 13 24 rfl) fun _ w hn k => ⟨_, v_load rfl (k.eq1 16 27 rfl) (l_one Tryd.isAgg3 ((hb55.new_ hn).cell 0)), rfl⟩) ?_
          refine .o1 (tg rfl rfl rfl (fun _ _ k => k.eq1 13 24 rfl) fun _ w hn k => ⟨_, v_bin rfl (k.eq1 15 26 rfl) (k.eq1 17 28 rfl) (fun _ => rfl) (r_neq ht165), rfl⟩) ?_
          refine .o1 (tg rfl rfl rfl (fun _ _ k => k.eq1 6 17 rfl) fun _ w hn k => ⟨_, v_pickT rfl (k.eq1 13 24 rfl) (k.eq1 18 29 rfl), rfl⟩) ?_
          refine .o1 (tk rfl rfl fun _ w hn k => ⟨_, v_pickF rfl (k.eq1 6 17 rfl) (k.eq1 19 30 rfl), rfl⟩) ?_
          refine .o1 (tk rfl rfl fun _ w hn k => ⟨_, v_assign rfl (k.eq1 20 31 rfl), rfl⟩) ?_
          exact .nil
        intro a166 w167 hn168 ha169
        have hs170 := ha169.size.trans hs31
        have hd171 := ha169.defers.trans hd32
        have h172 := ha169.fx 2 h33
        have h173 := ha169.fx 3 h34
        have h174 := ha169.fx 4 h35
        have h175 := ha169.fx 5 h36
        have h176 := ha169.ge 21 10 rfl
        have hb177 := hb60.new_ hn168
        have hb178 := hb55.new_ hn168
        have hb179 := hb61.new_ hn168
        have hN180 := hN62.transNew hn168
        clear hs31 hd32 h33 h34 h35 h36 hb60 hb55 hb61 hN62 ha169 hn168
        refine st_nil ?_
        refine hK _ _ ?_
        clear hK K
        refine wp_cond_false h176 ?_
        refine wp_seq_k fun K hK => ?_
        refine wp_g0 [true, true, true] [] 59
          [ve (nv (asM a)),
           ve (.bool true),
           ve (.bool true)] hs170 (.eq (.eq (.eq (.nil)))) ?_ ?_
        · skip
          refine .o1 (tk rfl rfl fun _ w hn k => ⟨_, v_load rfl (k.fx 2 h172) (l_two Tryd.isAgg23 Tryd.sizeOf23 (hb177.new_ hn)), rfl⟩) ?_
          refine .o1 (ck rfl rfl rfl (fun _ w hn k => ⟨#[nv (asM a)], args1 (k.eq1 0 34 rfl), fun _ => by kernel_rfl, isInf_c (asM a) _⟩) fun _ => congrArg Value.bool ht163) ?_
          refine .o1 (tk rfl rfl fun _ w hn k => ⟨_, v_assign rfl (k.eq1 1 35 rfl), rfl⟩) ?_
          exact .nil
        intro a181 w182 hn183 ha184
        have hs185 := ha184.size.trans hs170
        have hd186 := ha184.defers.trans hd171
        have h187 := ha184.fx 2 h172
        have h188 := ha184.fx 3 h173
        have h189 := ha184.fx 4 h174
        have h190 := ha184.fx 5 h175
        have h191 := ha184.ge 2 33 rfl
        have hb192 := hb177.new_ hn183
        have hb193 := hb178.new_ hn183
        have hb194 := hb179.new_ hn183
        have hN195 := hN180.transNew hn183
        clear hs170 hd171 h172 h173 h174 h175 h176 hb177 hb178 hb179 hN180 ha184 hn183
        refine st_nil ?_
        refine hK _ _ ?_
        clear hK K
        refine wp_cond_true h191 ?_
        refine wp_seq_k fun K hK => ?_
        refine wp_g0 [true, false, false] [(1, false), (2, true)] 59
          [ve (nv (asM a)),
           vt,
           vt] hs185 (.eq (.tt (.tt (.nil)))) ?_ ?_
        · skip
          refine .o1 (tk rfl rfl fun _ w hn k => ⟨_, v_load rfl (k.fx 2 h187) (l_two Tryd.isAgg23 Tryd.sizeOf23 (hb192.new_ hn)), rfl⟩) ?_
          refine .off ?_
          refine .off ?_
          exact .nil
        intro a196 w197 hn198 ha199
        have hs200 := ha199.size.trans hs185
        have hd201 := ha199.defers.trans hd186
        have h202 := ha199.fx 2 h187
        have h203 := ha199.fx 3 h188
        have h204 := ha199.fx 4 h189
        have h205 := ha199.fx 5 h190
        have h206 := ha199.ge 0 36 rfl
        have hb207 := hb192.new_ hn198
        have hb208 := hb193.new_ hn198
        have hb209 := hb194.new_ hn198
        have hN210 := hN195.transNew hn198
        clear hs185 hd186 h187 h188 h189 h190 h191 hb192 hb193 hb194 hN195 ha199 hn198
        obtain ⟨w211, -, hst212, hb213, hu214, hf215⟩ := s_two (v0 := iv ((asM a).k)) (v1 := iv ((asM a).n)) Tryd.sizeOf23 rfl rfl rfl hb209
        refine st_act rfl rfl fun K216 hL217 => a_store' rfl h204 h206 hst212 (hL217 _ _ trivial ?_)
        have hb218 := hf215 _ _ _ (hne21) hb207
        have hb219 := hf215 _ _ _ (hne22) hb208
        have hN220 := hN210.trans hu214 (fun k hk hkb => by subst hkb; omega)
        clear hb209 hst212 K216 hL217 hN210 hb207 hb208 hu214 hf215
        refine st_take rfl rfl (y_assign (v := .bool true) rfl rfl) rfl ?_
        obtain ⟨a221, ha222⟩ : ∃ a', a' = a196.put (some 5) (.bool true) := ⟨_, rfl⟩
        have hs223 : a221.tmps.size = 59 := by rw [ha222, put_size]; exact hs200
        have hd224 : a221.defers = [] := by rw [ha222, put_defers]; exact hd201
        have h225 : a221.eval (.tmp 2) = pv q8 := by rw [ha222, put_ne _ _ _ _ (by decide)]; exact h202
        have h226 : a221.eval (.tmp 3) = pv q12 := by rw [ha222, put_ne _ _ _ _ (by decide)]; exact h203
        have h227 : a221.eval (.tmp 4) = pv q16 := by rw [ha222, put_ne _ _ _ _ (by decide)]; exact h204
        have h228 : a221.eval (.tmp 36) = nv (asM a) := by rw [ha222, put_ne _ _ _ _ (by decide)]; exact h206
        have h229 : a221.eval (.tmp 5) = .bool true := by rw [ha222]; exact put_same _ _ _ (by rw [hs200]; decide)
        show stepsTo _ _ _ _ _ (a196.put (some 5) (.bool true)) _
        rw [← ha222]
        clear ha222 hs200 hd201 h202 h203 h204 h205 h206
        refine st_nil ?_
        clear h228
        refine hK _ _ ?_
        clear hK K
        refine wp_ret (ret_k hd224 (v := .tuple #[nv (asM a), .bool true]) (res_ct rfl h227 h229 (l_two Tryd.isAgg23 Tryd.sizeOf23 hb213)) ?_)
        refine ⟨?_, hN220⟩
        show Ending.returned (.tuple #[nv (asM a), .bool true]) = Ending.returned (.tuple #[nv ((addM a b).1), .bool ((addM a b).2)])
        first | rfl | (simp [addM, addA, ht63, ht113, ht163, ht164, ht165])
      have ht165d := of_decide_eq_false ht165
      refine wp_g0 [true, true, true, true, true, true, true, true, true, true, true, true, true, true, true, true, true, true, true, true, true, true] [] 59
        [ve (nv (asM a)),
         ve (.bool false),
         ve (.bool false),
         ve (nv (asM b)),
         ve (.bool false),
         ve (.bool false),
         ve (.bool false),
         ve (nv (asM a)),
         ve (.bool true),
         ve (.bool true),
         ve (nv (asM b)),
         ve (.bool true),
         ve (.bool true),
         ve (.bool true),
         ve (pv q8),
         ve (iv ((asM a).k)),
         ve (pv q12),
         ve (iv ((asM b).k)),
         ve (.bool true),
         ve (.bool true),
         ve (.bool true),
         ve (.bool true)] hs31 (.eq (.eq (.eq (.eq (.eq (.eq (.eq (.eq (.eq (.eq (.eq (.eq (.eq (.eq (.eq (.eq (.eq (.eq (.eq (.eq (.eq (.eq (.nil))))))))))))))))))))))) ?_ ?_
      · skip
        refine .o1 (tk rfl rfl fun _ w hn k => ⟨_, v_load rfl (k.fx 2 h33) (l_two Tryd.isAgg23 Tryd.sizeOf23 (hb60.new_ hn)), rfl⟩) ?_
        refine .o1 (ck rfl rfl rfl (fun _ w hn k => ⟨#[nv (asM a)], args1 (k.eq1 0 11 rfl), fun _ => by kernel_rfl, isNaN_c (asM a) _⟩) fun _ => congrArg Value.bool ht63) ?_
        refine .o1 (tk rfl rfl fun _ w hn k => ⟨_, v_move rfl (k.eq1 1 12 rfl), rfl⟩) ?_
        refine .o1 (tg rfl rfl rfl (fun _ _ k => k.eq1 2 13 rfl) fun _ w hn k => ⟨_, v_load rfl (k.fx 3 h34) (l_two Tryd.isAgg23 Tryd.sizeOf23 (hb55.new_ hn)), rfl⟩) ?_
        refine .o1 (cg rfl rfl rfl (fun _ _ k => k.eq1 2 13 rfl) rfl (fun _ w hn k => ⟨#[nv (asM b)], args1 (k.eq1 3 14 rfl), fun _ => by kernel_rfl, isNaN_c (asM b) _⟩) fun _ => congrArg Value.bool ht113) ?_
        refine .o1 (tk rfl rfl fun _ w hn k => ⟨_, v_pickF rfl (k.eq1 2 13 rfl) (k.eq1 4 15 rfl), rfl⟩) ?_
        refine .o1 (tk rfl rfl fun _ w hn k => ⟨_, v_move rfl (k.eq1 5 16 rfl), rfl⟩) ?_
        refine .o1 (tg rfl rfl rfl (fun _ _ k => k.eq1 6 17 rfl) fun _ w hn k => ⟨_, v_load rfl (k.fx 2 h33) (l_two Tryd.isAgg23 Tryd.sizeOf23 (hb60.new_ hn)), rfl⟩) ?_
        refine .o1 (cg rfl rfl rfl (fun _ _ k => k.eq1 6 17 rfl) rfl (fun _ w hn k => ⟨#[nv (asM a)], args1 (k.eq1 7 18 rfl), fun _ => by kernel_rfl, isInf_c (asM a) _⟩) fun _ => congrArg Value.bool ht163) ?_
        refine .o1 (tg rfl rfl rfl (fun _ _ k => k.eq1 6 17 rfl) fun _ w hn k => ⟨_, v_move rfl (k.eq1 8 19 rfl), rfl⟩) ?_
        refine .o1 (tg rfl rfl rfl (fun _ _ k => k.eq1 9 20 rfl) fun _ w hn k => ⟨_, v_load rfl (k.fx 3 h34) (l_two Tryd.isAgg23 Tryd.sizeOf23 (hb55.new_ hn)), rfl⟩) ?_
        refine .o1 (cg rfl rfl rfl (fun _ _ k => k.eq1 9 20 rfl) rfl (fun _ w hn k => ⟨#[nv (asM b)], args1 (k.eq1 10 21 rfl), fun _ => by kernel_rfl, isInf_c (asM b) _⟩) fun _ => congrArg Value.bool ht164) ?_
        refine .o1 (tg rfl rfl rfl (fun _ _ k => k.eq1 6 17 rfl) fun _ w hn k => ⟨_, v_pickT rfl (k.eq1 9 20 rfl) (k.eq1 11 22 rfl), rfl⟩) ?_
        refine .o1 (tg rfl rfl rfl (fun _ _ k => k.eq1 6 17 rfl) fun _ w hn k => ⟨_, v_move rfl (k.eq1 12 23 rfl), rfl⟩) ?_
        refine .o1 (tg rfl rfl rfl (fun _ _ k => k.eq1 13 24 rfl) fun _ w hn k => ⟨_, v_field rfl (k.fx 2 h33) (fun w => rfl), rfl⟩) ?_
        refine .o1 (tg rfl rfl rfl (fun _ _ k => k.eq1 13 24 rfl) fun _ w hn k => ⟨_, v_load rfl (k.eq1 14 25 rfl) (l_one Tryd.isAgg3 ((hb60.new_ hn).cell 0)), rfl⟩) ?_
        refine .o1 (tg rfl rfl rfl (fun _ _ k => k.eq1 13 24 rfl) fun _ w hn k => ⟨_, v_field rfl (k.fx 3 h34) (fun w => rfl), rfl⟩) ?_
        refine .o1 (tg rfl rfl rfl (fun _ _ k => k.eq1 13 24 rfl) fun _ w hn k => ⟨_, v_load rfl (k.eq1 16 27 rfl) (l_one Tryd.isAgg3 ((hb55.new_ hn).cell 0)), rfl⟩) ?_
        refine .o1 (tg rfl rfl rfl (fun _ _ k => k.eq1 13 24 rfl) fun _ w hn k => ⟨_, v_bin rfl (k.eq1 15 26 rfl) (k.eq1 17 28 rfl) (fun _ => rfl) (r_neq ht165), rfl⟩) ?_
        refine .o1 (tg rfl rfl rfl (fun _ _ k => k.eq1 6 17 rfl) fun _ w hn k => ⟨_, v_pickT rfl (k.eq1 13 24 rfl) (k.eq1 18 29 rfl), rfl⟩) ?_
        refine .o1 (tk rfl rfl fun _ w hn k => ⟨_, v_pickF rfl (k.eq1 6 17 rfl) (k.eq1 19 30 rfl), rfl⟩) ?_
        refine .o1 (tk rfl rfl fun _ w hn k => ⟨_, v_assign rfl (k.eq1 20 31 rfl), rfl⟩) ?_
        exact .nil
      intro a230 w231 hn232 ha233
      have hs234 := ha233.size.trans hs31
      have hd235 := ha233.defers.trans hd32
      have h236 := ha233.fx 2 h33
      have h237 := ha233.fx 3 h34
      have h238 := ha233.fx 4 h35
      have h239 := ha233.fx 5 h36
      have h240 := ha233.ge 21 10 rfl
      have hb241 := hb60.new_ hn232
      have hb242 := hb55.new_ hn232
      have hb243 := hb61.new_ hn232
      have hN244 := hN62.transNew hn232
      clear hs31 hd32 h33 h34 h35 h36 hb60 hb55 hb61 hN62 ha233 hn232
      refine st_nil ?_
      refine hK _ _ ?_
      clear hK K
      refine wp_cond_true h240 ?_
      refine wp_seq_k fun K hK => ?_
      refine wp_g0 [true, false, false] [(1, false), (2, true)] 59
        [ve (nv (Nm.mk 2 0)),
         vt,
         vt] hs234 (.eq (.tt (.tt (.nil)))) ?_ ?_
      · skip
        refine .o1 (ck rfl rfl rfl (fun _ w hn k => ⟨#[], rfl, fun _ => by kernel_rfl, nan_c  _⟩) fun _ => rfl) ?_
        refine .off ?_
        refine .off ?_
        exact .nil
      intro a245 w246 hn247 ha248
      have hs249 := ha248.size.trans hs234
      have hd250 := ha248.defers.trans hd235
      have h251 := ha248.fx 2 h236
      have h252 := ha248.fx 3 h237
      have h253 := ha248.fx 4 h238
      have h254 := ha248.fx 5 h239
      have h255 := ha248.ge 0 32 rfl
      have hb256 := hb241.new_ hn247
      have hb257 := hb242.new_ hn247
      have hb258 := hb243.new_ hn247
      have hN259 := hN244.transNew hn247
      clear hs234 hd235 h236 h237 h238 h239 h240 hb241 hb242 hb243 hN244 ha248 hn247
      obtain ⟨w260, -, hst261, hb262, hu263, hf264⟩ := s_two (v0 := iv 2) (v1 := iv 0) Tryd.sizeOf23 rfl rfl rfl hb258
      refine st_act rfl rfl fun K265 hL266 => a_store' rfl h253 h255 hst261 (hL266 _ _ trivial ?_)
      have hb267 := hf264 _ _ _ (hne21) hb256
      have hb268 := hf264 _ _ _ (hne22) hb257
      have hN269 := hN259.trans hu263 (fun k hk hkb => by subst hkb; omega)
      clear hb258 hst261 K265 hL266 hN259 hb256 hb257 hu263 hf264
      refine st_take rfl rfl (y_assign (v := .bool true) rfl rfl) rfl ?_
      obtain ⟨a270, ha271⟩ : ∃ a', a' = a245.put (some 5) (.bool true) := ⟨_, rfl⟩
      have hs272 : a270.tmps.size = 59 := by rw [ha271, put_size]; exact hs249
      have hd273 : a270.defers = [] := by rw [ha271, put_defers]; exact hd250
      have h274 : a270.eval (.tmp 2) = pv q8 := by rw [ha271, put_ne _ _ _ _ (by decide)]; exact h251
      have h275 : a270.eval (.tmp 3) = pv q12 := by rw [ha271, put_ne _ _ _ _ (by decide)]; exact h252
      have h276 : a270.eval (.tmp 4) = pv q16 := by rw [ha271, put_ne _ _ _ _ (by decide)]; exact h253
      have h277 : a270.eval (.tmp 32) = nv (Nm.mk 2 0) := by rw [ha271, put_ne _ _ _ _ (by decide)]; exact h255
      have h278 : a270.eval (.tmp 5) = .bool true := by rw [ha271]; exact put_same _ _ _ (by rw [hs249]; decide)
      show stepsTo _ _ _ _ _ (a245.put (some 5) (.bool true)) _
      rw [← ha271]
      clear ha271 hs249 hd250 h251 h252 h253 h254 h255
      refine st_nil ?_
      clear h277
      refine hK _ _ ?_
      clear hK K
      refine wp_ret (ret_k hd273 (v := .tuple #[nv (Nm.mk 2 0), .bool true]) (res_ct rfl h276 h278 (l_two Tryd.isAgg23 Tryd.sizeOf23 hb262)) ?_)
      refine ⟨?_, hN269⟩
      show Ending.returned (.tuple #[nv (Nm.mk 2 0), .bool true]) = Ending.returned (.tuple #[nv ((addM a b).1), .bool ((addM a b).2)])
      first | rfl | (simp [addM, addA, ht63, ht113, ht163, ht164, ht165])
    refine wp_g0 [true, true, true, true, true, true, true, true, true, true, true, true, true, true, true, true, true, true, true, true, true, true] [] 59
      [ve (nv (asM a)),
       ve (.bool false),
       ve (.bool false),
       ve (nv (asM b)),
       ve (.bool false),
       ve (.bool false),
       ve (.bool false),
       ve (nv (asM a)),
       ve (.bool true),
       ve (.bool true),
       ve (nv (asM b)),
       ve (.bool false),
       ve (.bool false),
       ve (.bool false),
       ve undef,
       ve undef,
       ve undef,
       ve undef,
       ve undef,
       ve (.bool false),
       ve (.bool false),
       ve (.bool false)] hs31 (.eq (.eq (.eq (.eq (.eq (.eq (.eq (.eq (.eq (.eq (.eq (.eq (.eq (.eq (.eq (.eq (.eq (.eq (.eq (.eq (.eq (.eq (.nil))))))))))))))))))))))) ?_ ?_
    · skip
      refine .o1 (tk rfl rfl fun _ w hn k => ⟨_, v_load rfl (k.fx 2 h33) (l_two Tryd.isAgg23 Tryd.sizeOf23 (hb60.new_ hn)), rfl⟩) ?_
      refine .o1 (ck rfl rfl rfl (fun _ w hn k => ⟨#[nv (asM a)], args1 (k.eq1 0 11 rfl), fun _ => by kernel_rfl, isNaN_c (asM a) _⟩) fun _ => congrArg Value.bool ht63) ?_
      refine .o1 (tk rfl rfl fun _ w hn k => ⟨_, v_move rfl (k.eq1 1 12 rfl), rfl⟩) ?_
      refine .o1 (tg rfl rfl rfl (fun _ _ k => k.eq1 2 13 rfl) fun _ w hn k => ⟨_, v_load rfl (k.fx 3 h34) (l_two Tryd.isAgg23 Tryd.sizeOf23 (hb55.new_ hn)), rfl⟩) ?_
      refine .o1 (cg rfl rfl rfl (fun _ _ k => k.eq1 2 13 rfl) rfl (fun _ w hn k => ⟨#[nv (asM b)], args1 (k.eq1 3 14 rfl), fun _ => by kernel_rfl, isNaN_c (asM b) _⟩) fun _ => congrArg Value.bool ht113) ?_
      refine .o1 (tk rfl rfl fun _ w hn k => ⟨_, v_pickF rfl (k.eq1 2 13 rfl) (k.eq1 4 15 rfl), rfl⟩) ?_
      refine .o1 (tk rfl rfl fun _ w hn k => ⟨_, v_move rfl (k.eq1 5 16 rfl), rfl⟩) ?_
      refine .o1 (tg rfl rfl rfl (fun _ _ k => k.eq1 6 17 rfl) fun _ w hn k => ⟨_, v_load rfl (k.fx 2 h33) (l_two Tryd.isAgg23 Tryd.sizeOf23 (hb60.new_ hn)), rfl⟩) ?_
      refine .o1 (cg rfl rfl rfl (fun _ _ k => k.eq1 6 17 rfl) rfl (fun _ w hn k => ⟨#[nv (asM a)], args1 (k.eq1 7 18 rfl), fun _ => by kernel_rfl, isInf_c (asM a) _⟩) fun _ => congrArg Value.bool ht163) ?_
      refine .o1 (tg rfl rfl rfl (fun _ _ k => k.eq1 6 17 rfl) fun _ w hn k => ⟨_, v_move rfl (k.eq1 8 19 rfl), rfl⟩) ?_
      refine .o1 (tg rfl rfl rfl (fun _ _ k => k.eq1 9 20 rfl) fun _ w hn k => ⟨_, v_load rfl (k.fx 3 h34) (l_two Tryd.isAgg23 Tryd.sizeOf23 (hb55.new_ hn)), rfl⟩) ?_
      refine .o1 (cg rfl rfl rfl (fun _ _ k => k.eq1 9 20 rfl) rfl (fun _ w hn k => ⟨#[nv (asM b)], args1 (k.eq1 10 21 rfl), fun _ => by kernel_rfl, isInf_c (asM b) _⟩) fun _ => congrArg Value.bool ht164) ?_
      refine .o1 (tg rfl rfl rfl (fun _ _ k => k.eq1 6 17 rfl) fun _ w hn k => ⟨_, v_pickT rfl (k.eq1 9 20 rfl) (k.eq1 11 22 rfl), rfl⟩) ?_
      refine .o1 (tg rfl rfl rfl (fun _ _ k => k.eq1 6 17 rfl) fun _ w hn k => ⟨_, v_move rfl (k.eq1 12 23 rfl), rfl⟩) ?_
      refine .o1 (sk rfl rfl rfl (fun _ _ _ k => k.eq1 13 24 rfl) (fun _ => rfl)) ?_
      refine .o1 (sk rfl rfl rfl (fun _ _ _ k => k.eq1 13 24 rfl) (fun _ => rfl)) ?_
      refine .o1 (sk rfl rfl rfl (fun _ _ _ k => k.eq1 13 24 rfl) (fun _ => rfl)) ?_
      refine .o1 (sk rfl rfl rfl (fun _ _ _ k => k.eq1 13 24 rfl) (fun _ => rfl)) ?_
      refine .o1 (sk rfl rfl rfl (fun _ _ _ k => k.eq1 13 24 rfl) (fun _ => rfl)) ?_
      refine .o1 (tg rfl rfl rfl (fun _ _ k => k.eq1 6 17 rfl) fun _ w hn k => ⟨_, v_pickF rfl (k.eq1 13 24 rfl) rfl, rfl⟩) ?_
      refine .o1 (tk rfl rfl fun _ w hn k => ⟨_, v_pickF rfl (k.eq1 6 17 rfl) (k.eq1 19 30 rfl), rfl⟩) ?_
      refine .o1 (tk rfl rfl fun _ w hn k => ⟨_, v_assign rfl (k.eq1 20 31 rfl), rfl⟩) ?_
      exact .nil
    intro a279 w280 hn281 ha282
    have hs283 := ha282.size.trans hs31
    have hd284 := ha282.defers.trans hd32
    have h285 := ha282.fx 2 h33
    have h286 := ha282.fx 3 h34
    have h287 := ha282.fx 4 h35
    have h288 := ha282.fx 5 h36
    have h289 := ha282.ge 21 10 rfl
    have hb290 := hb60.new_ hn281
    have hb291 := hb55.new_ hn281
    have hb292 := hb61.new_ hn281
    have hN293 := hN62.transNew hn281
    clear hs31 hd32 h33 h34 h35 h36 hb60 hb55 hb61 hN62 ha282 hn281
    refine st_nil ?_
    refine hK _ _ ?_
    clear hK K
    refine wp_cond_false h289 ?_
    refine wp_seq_k fun K hK => ?_
    refine wp_g0 [true, true, true] [] 59
      [ve (nv (asM a)),
       ve (.bool true),
       ve (.bool true)] hs283 (.eq (.eq (.eq (.nil)))) ?_ ?_
    · skip
      refine .o1 (tk rfl rfl fun _ w hn k => ⟨_, v_load rfl (k.fx 2 h285) (l_two Tryd.isAgg23 Tryd.sizeOf23 (hb290.new_ hn)), rfl⟩) ?_
      refine .o1 (ck rfl rfl rfl (fun _ w hn k => ⟨#[nv (asM a)], args1 (k.eq1 0 34 rfl), fun _ => by kernel_rfl, isInf_c (asM a) _⟩) fun _ => congrArg Value.bool ht163) ?_
      refine .o1 (tk rfl rfl fun _ w hn k => ⟨_, v_assign rfl (k.eq1 1 35 rfl), rfl⟩) ?_
      exact .nil
    intro a294 w295 hn296 ha297
    have hs298 := ha297.size.trans hs283
    have hd299 := ha297.defers.trans hd284
    have h300 := ha297.fx 2 h285
    have h301 := ha297.fx 3 h286
    have h302 := ha297.fx 4 h287
    have h303 := ha297.fx 5 h288
    have h304 := ha297.ge 2 33 rfl
    have hb305 := hb290.new_ hn296
    have hb306 := hb291.new_ hn296
    have hb307 := hb292.new_ hn296
    have hN308 := hN293.transNew hn296
    clear hs283 hd284 h285 h286 h287 h288 h289 hb290 hb291 hb292 hN293 ha297 hn296
    refine st_nil ?_
    refine hK _ _ ?_
    clear hK K
    refine wp_cond_true h304 ?_
    refine wp_seq_k fun K hK => ?_
    refine wp_g0 [true, false, false] [(1, false), (2, true)] 59
      [ve (nv (asM a)),
       vt,
       vt] hs298 (.eq (.tt (.tt (.nil)))) ?_ ?_
    · skip
      refine .o1 (tk rfl rfl fun _ w hn k => ⟨_, v_load rfl (k.fx 2 h300) (l_two Tryd.isAgg23 Tryd.sizeOf23 (hb305.new_ hn)), rfl⟩) ?_
      refine .off ?_
      refine .off ?_
      exact .nil
    intro a309 w310 hn311 ha312
    have hs313 := ha312.size.trans hs298
    have hd314 := ha312.defers.trans hd299
    have h315 := ha312.fx 2 h300
    have h316 := ha312.fx 3 h301
    have h317 := ha312.fx 4 h302
    have h318 := ha312.fx 5 h303
    have h319 := ha312.ge 0 36 rfl
    have hb320 := hb305.new_ hn311
    have hb321 := hb306.new_ hn311
    have hb322 := hb307.new_ hn311
    have hN323 := hN308.transNew hn311
    clear hs298 hd299 h300 h301 h302 h303 h304 hb305 hb306 hb307 hN308 ha312 hn311
    obtain ⟨w324, -, hst325, hb326, hu327, hf328⟩ := s_two (v0 := iv ((asM a).k)) (v1 := iv ((asM a).n)) Tryd.sizeOf23 rfl rfl rfl hb322
    refine st_act rfl rfl fun K329 hL330 => a_store' rfl h317 h319 hst325 (hL330 _ _ trivial ?_)
    have hb331 := hf328 _ _ _ (hne21) hb320
    have hb332 := hf328 _ _ _ (hne22) hb321
    have hN333 := hN323.trans hu327 (fun k hk hkb => by subst hkb; omega)
    clear hb322 hst325 K329 hL330 hN323 hb320 hb321 hu327 hf328
    refine st_take rfl rfl (y_assign (v := .bool true) rfl rfl) rfl ?_
    obtain ⟨a334, ha335⟩ : ∃ a', a' = a309.put (some 5) (.bool true) := ⟨_, rfl⟩
    have hs336 : a334.tmps.size = 59 := by rw [ha335, put_size]; exact hs313
    have hd337 : a334.defers = [] := by rw [ha335, put_defers]; exact hd314
    have h338 : a334.eval (.tmp 2) = pv q8 := by rw [ha335, put_ne _ _ _ _ (by decide)]; exact h315
    have h339 : a334.eval (.tmp 3) = pv q12 := by rw [ha335, put_ne _ _ _ _ (by decide)]; exact h316
    have h340 : a334.eval (.tmp 4) = pv q16 := by rw [ha335, put_ne _ _ _ _ (by decide)]; exact h317
    have h341 : a334.eval (.tmp 36) = nv (asM a) := by rw [ha335, put_ne _ _ _ _ (by decide)]; exact h319
    have h342 : a334.eval (.tmp 5) = .bool true := by rw [ha335]; exact put_same _ _ _ (by rw [hs313]; decide)
    show stepsTo _ _ _ _ _ (a309.put (some 5) (.bool true)) _
    rw [← ha335]
    clear ha335 hs313 hd314 h315 h316 h317 h318 h319
    refine st_nil ?_
    clear h341
    refine hK _ _ ?_
    clear hK K
    refine wp_ret (ret_k hd337 (v := .tuple #[nv (asM a), .bool true]) (res_ct rfl h340 h342 (l_two Tryd.isAgg23 Tryd.sizeOf23 hb326)) ?_)
    refine ⟨?_, hN333⟩
    show Ending.returned (.tuple #[nv (asM a), .bool true]) = Ending.returned (.tuple #[nv ((addM a b).1), .bool ((addM a b).2)])
    first | rfl | (simp [addM, addA, ht63, ht113, ht163, ht164])
  refine wp_g0 [true, true, true, true, true, true, true, true, true, true, true, true, true, true, true, true, true, true, true, true, true, true] [] 59
    [ve (nv (asM a)),
     ve (.bool false),
     ve (.bool false),
     ve (nv (asM b)),
     ve (.bool false),
     ve (.bool false),
     ve (.bool false),
     ve (nv (asM a)),
     ve (.bool false),
     ve (.bool false),
     ve undef,
     ve undef,
     ve (.bool false),
     ve (.bool false),
     ve undef,
     ve undef,
     ve undef,
     ve undef,
     ve undef,
     ve (.bool false),
     ve (.bool false),
     ve (.bool false)] hs31 (.eq (.eq (.eq (.eq (.eq (.eq (.eq (.eq (.eq (.eq (.eq (.eq (.eq (.eq (.eq (.eq (.eq (.eq (.eq (.eq (.eq (.eq (.nil))))))))))))))))))))))) ?_ ?_
  · skip
    refine .o1 (tk rfl rfl fun _ w hn k => ⟨_, v_load rfl (k.fx 2 h33) (l_two Tryd.isAgg23 Tryd.sizeOf23 (hb60.new_ hn)), rfl⟩) ?_
    refine .o1 (ck rfl rfl rfl (fun _ w hn k => ⟨#[nv (asM a)], args1 (k.eq1 0 11 rfl), fun _ => by kernel_rfl, isNaN_c (asM a) _⟩) fun _ => congrArg Value.bool ht63) ?_
    refine .o1 (tk rfl rfl fun _ w hn k => ⟨_, v_move rfl (k.eq1 1 12 rfl), rfl⟩) ?_
    refine .o1 (tg rfl rfl rfl (fun _ _ k => k.eq1 2 13 rfl) fun _ w hn k => ⟨_, v_load rfl (k.fx 3 h34) (l_two Tryd.isAgg23 Tryd.sizeOf23 (hb55.new_ hn)), rfl⟩) ?_
    refine .o1 (cg rfl rfl rfl (fun _ _ k => k.eq1 2 13 rfl) rfl (fun _ w hn k => ⟨#[nv (asM b)], args1 (k.eq1 3 14 rfl), fun _ => by kernel_rfl, isNaN_c (asM b) _⟩) fun _ => congrArg Value.bool ht113) ?_
    refine .o1 (tk rfl rfl fun _ w hn k => ⟨_, v_pickF rfl (k.eq1 2 13 rfl) (k.eq1 4 15 rfl), rfl⟩) ?_
    refine .o1 (tk rfl rfl fun _ w hn k => ⟨_, v_move rfl (k.eq1 5 16 rfl), rfl⟩) ?_
    refine .o1 (tg rfl rfl rfl (fun _ _ k => k.eq1 6 17 rfl) fun _ w hn k => ⟨_, v_load rfl (k.fx 2 h33) (l_two Tryd.isAgg23 Tryd.sizeOf23 (hb60.new_ hn)), rfl⟩) ?_
    refine .o1 (cg rfl rfl rfl (fun _ _ k => k.eq1 6 17 rfl) rfl (fun _ w hn k => ⟨#[nv (asM a)], args1 (k.eq1 7 18 rfl), fun _ => by kernel_rfl, isInf_c (asM a) _⟩) fun _ => congrArg Value.bool ht163) ?_
    refine .o1 (tg rfl rfl rfl (fun _ _ k => k.eq1 6 17 rfl) fun _ w hn k => ⟨_, v_move rfl (k.eq1 8 19 rfl), rfl⟩) ?_
    refine .o1 (sk rfl rfl rfl (fun _ _ _ k => k.eq1 9 20 rfl) (fun _ => rfl)) ?_
    refine .o1 (sk rfl rfl rfl (fun _ _ _ k => k.eq1 9 20 rfl) (fun _ => rfl)) ?_
    refine .o1 (tg rfl rfl rfl (fun _ _ k => k.eq1 6 17 rfl) fun _ w hn k => ⟨_, v_pickF rfl (k.eq1 9 20 rfl) rfl, rfl⟩) ?_
    refine .o1 (tg rfl rfl rfl (fun _ _ k => k.eq1 6 17 rfl) fun _ w hn k => ⟨_, v_move rfl (k.eq1 12 23 rfl), rfl⟩) ?_
    refine .o1 (sk rfl rfl rfl (fun _ _ _ k => k.eq1 13 24 rfl) (fun _ => rfl)) ?_
    refine .o1 (sk rfl rfl rfl (fun _ _ _ k => k.eq1 13 24 rfl) (fun _ => rfl)) ?_
    refine .o1 (sk rfl rfl rfl (fun _ _ _ k => k.eq1 13 24 rfl) (fun _ => rfl)) ?_
    refine .o1 (sk rfl rfl rfl (fun _ _ _ k => k.eq1 13 24 rfl) (fun _ => rfl)) ?_
    refine .o1 (sk rfl rfl rfl (fun _ _ _ k => k.eq1 13 24 rfl) (fun _ => rfl)) ?_
    refine .o1 (tg rfl rfl rfl (fun _ _ k => k.eq1 6 17 rfl) fun _ w hn k => ⟨_, v_pickF rfl (k.eq1 13 24 rfl) rfl, rfl⟩) ?_
    refine .o1 (tk rfl rfl fun _ w hn k => ⟨_, v_pickF rfl (k.eq1 6 17 rfl) (k.eq1 19 30 rfl), rfl⟩) ?_
    refine .o1 (tk rfl rfl fun _ w hn k => ⟨_, v_assign rfl (k.eq1 20 31 rfl), rfl⟩) ?_
    exact .nil
  intro a343 w344 hn345 ha346
  have hs347 := ha346.size.trans hs31
  have hd348 := ha346.defers.trans hd32
  have h349 := ha346.fx 2 h33
  have h350 := ha346.fx 3 h34
  have h351 := ha346.fx 4 h35
  have h352 := ha346.fx 5 h36
  have h353 := ha346.ge 21 10 rfl
  have hb354 := hb60.new_ hn345
  have hb355 := hb55.new_ hn345
  have hb356 := hb61.new_ hn345
  have hN357 := hN62.transNew hn345
  clear hs31 hd32 h33 h34 h35 h36 hb60 hb55 hb61 hN62 ha346 hn345
  refine st_nil ?_
  refine hK _ _ ?_
  clear hK K
  refine wp_cond_false h353 ?_
  refine wp_seq_k fun K hK => ?_
  refine wp_g0 [true, true, true] [] 59
    [ve (nv (asM a)),
     ve (.bool false),
     ve (.bool false)] hs347 (.eq (.eq (.eq (.nil)))) ?_ ?_
  · skip
    refine .o1 (tk rfl rfl fun _ w hn k => ⟨_, v_load rfl (k.fx 2 h349) (l_two Tryd.isAgg23 Tryd.sizeOf23 (hb354.new_ hn)), rfl⟩) ?_
    refine .o1 (ck rfl rfl rfl (fun _ w hn k => ⟨#[nv (asM a)], args1 (k.eq1 0 34 rfl), fun _ => by kernel_rfl, isInf_c (asM a) _⟩) fun _ => congrArg Value.bool ht163) ?_
    refine .o1 (tk rfl rfl fun _ w hn k => ⟨_, v_assign rfl (k.eq1 1 35 rfl), rfl⟩) ?_
    exact .nil
  intro a358 w359 hn360 ha361
  have hs362 := ha361.size.trans hs347
  have hd363 := ha361.defers.trans hd348
  have h364 := ha361.fx 2 h349
  have h365 := ha361.fx 3 h350
  have h366 := ha361.fx 4 h351
  have h367 := ha361.fx 5 h352
  have h368 := ha361.ge 2 33 rfl
  have hb369 := hb354.new_ hn360
  have hb370 := hb355.new_ hn360
  have hb371 := hb356.new_ hn360
  have hN372 := hN357.transNew hn360
  clear hs347 hd348 h349 h350 h351 h352 h353 hb354 hb355 hb356 hN357 ha361 hn360
  refine st_nil ?_
  refine hK _ _ ?_
  clear hK K
  refine wp_cond_false h368 ?_
  refine wp_seq_k fun K hK => ?_
  refine wp_g0 [true, true, true] [] 59
    [ve (nv (asM b)),
     ve (.bool (infB ((asM b).k))),
     ve (.bool (infB ((asM b).k)))] hs362 (.eq (.eq (.eq (.nil)))) ?_ ?_
  · skip
    refine .o1 (tk rfl rfl fun _ w hn k => ⟨_, v_load rfl (k.fx 3 h365) (l_two Tryd.isAgg23 Tryd.sizeOf23 (hb370.new_ hn)), rfl⟩) ?_
    refine .o1 (ck rfl rfl rfl (fun _ w hn k => ⟨#[nv (asM b)], args1 (k.eq1 0 38 rfl), fun _ => by kernel_rfl, isInf_c (asM b) _⟩) fun _ => rfl) ?_
    refine .o1 (tk rfl rfl fun _ w hn k => ⟨_, v_assign rfl (k.eq1 1 39 rfl), rfl⟩) ?_
    exact .nil
  intro a373 w374 hn375 ha376
  have hs377 := ha376.size.trans hs362
  have hd378 := ha376.defers.trans hd363
  have h379 := ha376.fx 2 h364
  have h380 := ha376.fx 3 h365
  have h381 := ha376.fx 4 h366
  have h382 := ha376.fx 5 h367
  have h383 := ha376.ge 2 37 rfl
  have hb384 := hb369.new_ hn375
  have hb385 := hb370.new_ hn375
  have hb386 := hb371.new_ hn375
  have hN387 := hN372.transNew hn375
  clear hs362 hd363 h364 h365 h366 h367 h368 hb369 hb370 hb371 hN372 ha376 hn375
  refine st_nil ?_
  refine hK _ _ ?_
  clear hK K
  rcases Bool.eq_false_or_eq_true (infB ((asM b).k)) with ht388 | ht388
  · skip
    have hv389 : a373.eval (.tmp 37) = .bool true := h383.trans (congrArg Value.bool ht388)
    clear h383
    refine wp_cond_true hv389 ?_
    refine wp_seq_k fun K hK => ?_
    refine wp_g0 [true, false, false] [(1, false), (2, true)] 59
      [ve (nv (asM b)),
       vt,
       vt] hs377 (.eq (.tt (.tt (.nil)))) ?_ ?_
    · skip
      refine .o1 (tk rfl rfl fun _ w hn k => ⟨_, v_load rfl (k.fx 3 h380) (l_two Tryd.isAgg23 Tryd.sizeOf23 (hb385.new_ hn)), rfl⟩) ?_
      refine .off ?_
      refine .off ?_
      exact .nil
    intro a390 w391 hn392 ha393
    have hs394 := ha393.size.trans hs377
    have hd395 := ha393.defers.trans hd378
    have h396 := ha393.fx 2 h379
    have h397 := ha393.fx 3 h380
    have h398 := ha393.fx 4 h381
    have h399 := ha393.fx 5 h382
    have h400 := ha393.ge 0 40 rfl
    have hb401 := hb384.new_ hn392
    have hb402 := hb385.new_ hn392
    have hb403 := hb386.new_ hn392
    have hN404 := hN387.transNew hn392
    clear hs377 hd378 h379 h380 h381 h382 hv389 hb384 hb385 hb386 hN387 ha393 hn392
    obtain ⟨w405, -, hst406, hb407, hu408, hf409⟩ := s_two (v0 := iv ((asM b).k)) (v1 := iv ((asM b).n)) Tryd.sizeOf23 rfl rfl rfl hb403
    refine st_act rfl rfl fun K410 hL411 => a_store' rfl h398 h400 hst406 (hL411 _ _ trivial ?_)
    have hb412 := hf409 _ _ _ (hne21) hb401
    have hb413 := hf409 _ _ _ (hne22) hb402
    have hN414 := hN404.trans hu408 (fun k hk hkb => by subst hkb; omega)
    clear hb403 hst406 K410 hL411 hN404 hb401 hb402 hu408 hf409
    refine st_take rfl rfl (y_assign (v := .bool true) rfl rfl) rfl ?_
    obtain ⟨a415, ha416⟩ : ∃ a', a' = a390.put (some 5) (.bool true) := ⟨_, rfl⟩
    have hs417 : a415.tmps.size = 59 := by rw [ha416, put_size]; exact hs394
    have hd418 : a415.defers = [] := by rw [ha416, put_defers]; exact hd395
    have h419 : a415.eval (.tmp 2) = pv q8 := by rw [ha416, put_ne _ _ _ _ (by decide)]; exact h396
    have h420 : a415.eval (.tmp 3) = pv q12 := by rw [ha416, put_ne _ _ _ _ (by decide)]; exact h397
    have h421 : a415.eval (.tmp 4) = pv q16 := by rw [ha416, put_ne _ _ _ _ (by decide)]; exact h398
    have h422 : a415.eval (.tmp 40) = nv (asM b) := by rw [ha416, put_ne _ _ _ _ (by decide)]; exact h400
    have h423 : a415.eval (.tmp 5) = .bool true := by rw [ha416]; exact put_same _ _ _ (by rw [hs394]; decide)
    show stepsTo _ _ _ _ _ (a390.put (some 5) (.bool true)) _
    rw [← ha416]
    clear ha416 hs394 hd395 h396 h397 h398 h399 h400
    refine st_nil ?_
    clear h422
    refine hK _ _ ?_
    clear hK K
    refine wp_ret (ret_k hd418 (v := .tuple #[nv (asM b), .bool true]) (res_ct rfl h421 h423 (l_two Tryd.isAgg23 Tryd.sizeOf23 hb407)) ?_)
    refine ⟨?_, hN414⟩
    show Ending.returned (.tuple #[nv (asM b), .bool true]) = Ending.returned (.tuple #[nv ((addM a b).1), .bool ((addM a b).2)])
    first | rfl | (simp [addM, addA, ht63, ht113, ht163, ht388])
  have hv424 : a373.eval (.tmp 37) = .bool false := h383.trans (congrArg Value.bool ht388)
  clear h383
  refine wp_cond_false hv424 ?_
  refine wp_seq_k fun K hK => ?_
  rcases Bool.eq_false_or_eq_true (decide (((asM a).k) = 1)) with ht425 | ht425
  · skip
    have ht425d := of_decide_eq_true ht425
    refine wp_g0 [true, true, true, true, true, true, true, true, true] [] 59
      [ve (pv q8),
       ve (iv ((asM a).k)),
       ve (.bool true),
       ve (.bool true),
       ve (pv q12),
       ve (iv ((asM b).k)),
       ve (.bool (decide (((asM b).k) = 1))),
       ve (.bool (decide (((asM b).k) = 1))),
       ve (.bool (decide (((asM b).k) = 1)))] hs377 (.eq (.eq (.eq (.eq (.eq (.eq (.eq (.eq (.eq (.nil)))))))))) ?_ ?_
    · skip
      refine .o1 (tk rfl rfl fun _ w hn k => ⟨_, v_field rfl (k.fx 2 h379) (fun w => rfl), rfl⟩) ?_
      refine .o1 (tk rfl rfl fun _ w hn k => ⟨_, v_load rfl (k.eq1 0 42 rfl) (l_one Tryd.isAgg3 ((hb384.new_ hn).cell 0)), rfl⟩) ?_
      refine .o1 (tk rfl rfl fun _ w hn k => ⟨_, v_bin rfl (k.eq1 1 43 rfl) rfl (fun _ => rfl) (r_eql ht425), rfl⟩) ?_
      refine .o1 (tk rfl rfl fun _ w hn k => ⟨_, v_move rfl (k.eq1 2 44 rfl), rfl⟩) ?_
      refine .o1 (tg rfl rfl rfl (fun _ _ k => k.eq1 3 45 rfl) fun _ w hn k => ⟨_, v_field rfl (k.fx 3 h380) (fun w => rfl), rfl⟩) ?_
      refine .o1 (tg rfl rfl rfl (fun _ _ k => k.eq1 3 45 rfl) fun _ w hn k => ⟨_, v_load rfl (k.eq1 4 46 rfl) (l_one Tryd.isAgg3 ((hb385.new_ hn).cell 0)), rfl⟩) ?_
      refine .o1 (tg rfl rfl rfl (fun _ _ k => k.eq1 3 45 rfl) fun _ w hn k => ⟨_, v_bin rfl (k.eq1 5 47 rfl) rfl (fun _ => rfl) (r_eql rfl), rfl⟩) ?_
      refine .o1 (tk rfl rfl fun _ w hn k => ⟨_, v_pickT rfl (k.eq1 3 45 rfl) (k.eq1 6 48 rfl), rfl⟩) ?_
      refine .o1 (tk rfl rfl fun _ w hn k => ⟨_, v_assign rfl (k.eq1 7 49 rfl), rfl⟩) ?_
      exact .nil
    intro a426 w427 hn428 ha429
    have hs430 := ha429.size.trans hs377
    have hd431 := ha429.defers.trans hd378
    have h432 := ha429.fx 2 h379
    have h433 := ha429.fx 3 h380
    have h434 := ha429.fx 4 h381
    have h435 := ha429.fx 5 h382
    have h436 := ha429.ge 8 41 rfl
    have hb437 := hb384.new_ hn428
    have hb438 := hb385.new_ hn428
    have hb439 := hb386.new_ hn428
    have hN440 := hN387.transNew hn428
    clear hs377 hd378 h379 h380 h381 h382 hv424 hb384 hb385 hb386 hN387 ha429 hn428
    refine st_nil ?_
    refine hK _ _ ?_
    clear hK K
    rcases Bool.eq_false_or_eq_true (decide (((asM b).k) = 1)) with ht441 | ht441
    · skip
      have ht441d := of_decide_eq_true ht441
      have hv442 : a426.eval (.tmp 41) = .bool true := h436.trans (congrArg Value.bool ht441)
      clear h436
      refine wp_cond_true hv442 ?_
      refine wp_seq_k fun K hK => ?_
      refine wp_g0 [true, false, false] [(1, false), (2, true)] 59
        [ve (nv (asM a)),
         vt,
         vt] hs430 (.eq (.tt (.tt (.nil)))) ?_ ?_
      · skip
        refine .o1 (tk rfl rfl fun _ w hn k => ⟨_, v_load rfl (k.fx 2 h432) (l_two Tryd.isAgg23 Tryd.sizeOf23 (hb437.new_ hn)), rfl⟩) ?_
        refine .off ?_
        refine .off ?_
        exact .nil
      intro a443 w444 hn445 ha446
      have hs447 := ha446.size.trans hs430
      have hd448 := ha446.defers.trans hd431
      have h449 := ha446.fx 2 h432
      have h450 := ha446.fx 3 h433
      have h451 := ha446.fx 4 h434
      have h452 := ha446.fx 5 h435
      have h453 := ha446.ge 0 50 rfl
      have hb454 := hb437.new_ hn445
      have hb455 := hb438.new_ hn445
      have hb456 := hb439.new_ hn445
      have hN457 := hN440.transNew hn445
      clear hs430 hd431 h432 h433 h434 h435 hv442 hb437 hb438 hb439 hN440 ha446 hn445
      obtain ⟨w458, -, hst459, hb460, hu461, hf462⟩ := s_two (v0 := iv ((asM a).k)) (v1 := iv ((asM a).n)) Tryd.sizeOf23 rfl rfl rfl hb456
      refine st_act rfl rfl fun K463 hL464 => a_store' rfl h451 h453 hst459 (hL464 _ _ trivial ?_)
      have hb465 := hf462 _ _ _ (hne21) hb454
      have hb466 := hf462 _ _ _ (hne22) hb455
      have hN467 := hN457.trans hu461 (fun k hk hkb => by subst hkb; omega)
      clear hb456 hst459 K463 hL464 hN457 hb454 hb455 hu461 hf462
      refine st_take rfl rfl (y_assign (v := .bool true) rfl rfl) rfl ?_
      obtain ⟨a468, ha469⟩ : ∃ a', a' = a443.put (some 5) (.bool true) := ⟨_, rfl⟩
      have hs470 : a468.tmps.size = 59 := by rw [ha469, put_size]; exact hs447
      have hd471 : a468.defers = [] := by rw [ha469, put_defers]; exact hd448
      have h472 : a468.eval (.tmp 2) = pv q8 := by rw [ha469, put_ne _ _ _ _ (by decide)]; exact h449
      have h473 : a468.eval (.tmp 3) = pv q12 := by rw [ha469, put_ne _ _ _ _ (by decide)]; exact h450
      have h474 : a468.eval (.tmp 4) = pv q16 := by rw [ha469, put_ne _ _ _ _ (by decide)]; exact h451
      have h475 : a468.eval (.tmp 50) = nv (asM a) := by rw [ha469, put_ne _ _ _ _ (by decide)]; exact h453
      have h476 : a468.eval (.tmp 5) = .bool true := by rw [ha469]; exact put_same _ _ _ (by rw [hs447]; decide)
      show stepsTo _ _ _ _ _ (a443.put (some 5) (.bool true)) _
      rw [← ha469]
      clear ha469 hs447 hd448 h449 h450 h451 h452 h453
      refine st_nil ?_
      clear h475
      refine hK _ _ ?_
      clear hK K
      refine wp_ret (ret_k hd471 (v := .tuple #[nv (asM a), .bool true]) (res_ct rfl h474 h476 (l_two Tryd.isAgg23 Tryd.sizeOf23 hb460)) ?_)
      refine ⟨?_, hN467⟩
      show Ending.returned (.tuple #[nv (asM a), .bool true]) = Ending.returned (.tuple #[nv ((addM a b).1), .bool ((addM a b).2)])
      first | rfl | (simp [addM, addA, ht63, ht113, ht163, ht388, ht425, ht441])
    have ht441d := of_decide_eq_false ht441
    have hv477 : a426.eval (.tmp 41) = .bool false := h436.trans (congrArg Value.bool ht441)
    clear h436
    refine wp_cond_false hv477 ?_
    refine wp_skip ?_
    refine hK _ _ ?_
    clear hK K
    refine wp_seq_k fun K hK => ?_
    refine wp_g0 [true, true, true, true, true, true, true, true, false, false] [(8, false), (9, true)] 59
      [ve (.pointer (some ⟨q8, 1, none⟩)),
       ve (iv ((asM a).n)),
       ve (.pointer (some ⟨q12, 1, none⟩)),
       ve (iv ((asM b).n)),
       ve (iv (((asM a).n) + ((asM b).n))),
       ve (.tuple #[nv ((ofM (((asM a).n) + ((asM b).n))).1), .bool ((ofM (((asM a).n) + ((asM b).n))).2)]),
       ve (nv ((ofM (((asM a).n) + ((asM b).n))).1)),
       ve (.bool ((ofM (((asM a).n) + ((asM b).n))).2)),
       vt,
       vt] hs430 (.eq (.eq (.eq (.eq (.eq (.eq (.eq (.eq (.tt (.tt (.nil))))))))))) ?_ ?_
    · skip
      refine .o1 (tk rfl rfl fun _ w hn k => ⟨_, v_field rfl (k.fx 2 h432) (fun w => rfl), rfl⟩) ?_
      refine .o1 (tk rfl rfl fun _ w hn k => ⟨_, v_load rfl (k.eq1 0 51 rfl) (l_one Tryd.isAgg3 ((hb437.new_ hn).cell 1)), rfl⟩) ?_
      refine .o1 (tk rfl rfl fun _ w hn k => ⟨_, v_field rfl (k.fx 3 h433) (fun w => rfl), rfl⟩) ?_
      refine .o1 (tk rfl rfl fun _ w hn k => ⟨_, v_load rfl (k.eq1 2 53 rfl) (l_one Tryd.isAgg3 ((hb438.new_ hn).cell 1)), rfl⟩) ?_
      refine .o1 (tk rfl rfl fun _ w hn k => ⟨_, v_bin rfl (k.eq1 1 52 rfl) (k.eq1 3 54 rfl) (fun _ => rfl) (r_add rfl (by omega)), rfl⟩) ?_
      refine .o1 (ck rfl rfl rfl (fun _ w hn k => ⟨#[iv (((asM a).n) + ((asM b).n))], args1 (k.eq1 4 55 rfl), fun _ => by kernel_rfl, of_c (((asM a).n) + ((asM b).n)) _⟩) fun _ => rfl) ?_
      refine .o1 (tk rfl rfl fun _ w hn k => ⟨_, v_extract rfl (k.eq1 5 56 rfl) rfl, rfl⟩) ?_
      refine .o1 (tk rfl rfl fun _ w hn k => ⟨_, v_extract rfl (k.eq1 5 56 rfl) rfl, rfl⟩) ?_
      refine .off ?_
      refine .off ?_
      exact .nil
    intro a478 w479 hn480 ha481
    have hs482 := ha481.size.trans hs430
    have hd483 := ha481.defers.trans hd431
    have h484 := ha481.fx 4 h434
    have h485 := ha481.fx 5 h435
    have h486 := ha481.ge 6 57 rfl
    have h487 := ha481.ge 7 58 rfl
    have hb488 := hb439.new_ hn480
    have hN489 := hN440.transNew hn480
    clear hs430 hd431 h432 h433 h434 h435 hv477 hb437 hq23 hb438 hq24 hb439 hN440 ha481 hn480
    obtain ⟨w490, -, hst491, hb492, hu493, hf494⟩ := s_two (v0 := iv ((ofM (((asM a).n) + ((asM b).n))).1.k)) (v1 := iv ((ofM (((asM a).n) + ((asM b).n))).1.n)) Tryd.sizeOf23 rfl rfl rfl hb488
    refine st_act rfl rfl fun K495 hL496 => a_store' rfl h484 h486 hst491 (hL496 _ _ trivial ?_)
    have hN497 := hN489.trans hu493 (fun k hk hkb => by subst hkb; omega)
    clear hb488 hst491 K495 hL496 hN489 hu493 hf494
    refine st_take rfl rfl (y_assign (v := .bool ((ofM (((asM a).n) + ((asM b).n))).2)) rfl h487) rfl ?_
    obtain ⟨a498, ha499⟩ : ∃ a', a' = a478.put (some 5) (.bool ((ofM (((asM a).n) + ((asM b).n))).2)) := ⟨_, rfl⟩
    have hs500 : a498.tmps.size = 59 := by rw [ha499, put_size]; exact hs482
    have hd501 : a498.defers = [] := by rw [ha499, put_defers]; exact hd483
    have h502 : a498.eval (.tmp 4) = pv q16 := by rw [ha499, put_ne _ _ _ _ (by decide)]; exact h484
    have h503 : a498.eval (.tmp 57) = nv ((ofM (((asM a).n) + ((asM b).n))).1) := by rw [ha499, put_ne _ _ _ _ (by decide)]; exact h486
    have h504 : a498.eval (.tmp 58) = .bool ((ofM (((asM a).n) + ((asM b).n))).2) := by rw [ha499, put_ne _ _ _ _ (by decide)]; exact h487
    have h505 : a498.eval (.tmp 5) = .bool ((ofM (((asM a).n) + ((asM b).n))).2) := by rw [ha499]; exact put_same _ _ _ (by rw [hs482]; decide)
    show stepsTo _ _ _ _ _ (a478.put (some 5) (.bool ((ofM (((asM a).n) + ((asM b).n))).2))) _
    rw [← ha499]
    clear ha499 hs482 hd483 h484 h485 h486 h487
    refine st_nil ?_
    clear h503 h504
    refine hK _ _ ?_
    clear hK K
    refine wp_ret (ret_k hd501 (v := .tuple #[nv ((ofM (((asM a).n) + ((asM b).n))).1), .bool ((ofM (((asM a).n) + ((asM b).n))).2)]) (res_ct rfl h502 h505 (l_two Tryd.isAgg23 Tryd.sizeOf23 hb492)) ?_)
    refine ⟨?_, hN497⟩
    show Ending.returned (.tuple #[nv ((ofM (((asM a).n) + ((asM b).n))).1), .bool ((ofM (((asM a).n) + ((asM b).n))).2)]) = Ending.returned (.tuple #[nv ((addM a b).1), .bool ((addM a b).2)])
    first | rfl | (simp [addM, addA, ht63, ht113, ht163, ht388, ht425, ht441])
  have ht425d := of_decide_eq_false ht425
  refine wp_g0 [true, true, true, true, true, true, true, true, true] [] 59
    [ve (pv q8),
     ve (iv ((asM a).k)),
     ve (.bool false),
     ve (.bool false),
     ve undef,
     ve undef,
     ve undef,
     ve (.bool false),
     ve (.bool false)] hs377 (.eq (.eq (.eq (.eq (.eq (.eq (.eq (.eq (.eq (.nil)))))))))) ?_ ?_
  · skip
    refine .o1 (tk rfl rfl fun _ w hn k => ⟨_, v_field rfl (k.fx 2 h379) (fun w => rfl), rfl⟩) ?_
    refine .o1 (tk rfl rfl fun _ w hn k => ⟨_, v_load rfl (k.eq1 0 42 rfl) (l_one Tryd.isAgg3 ((hb384.new_ hn).cell 0)), rfl⟩) ?_
    refine .o1 (tk rfl rfl fun _ w hn k => ⟨_, v_bin rfl (k.eq1 1 43 rfl) rfl (fun _ => rfl) (r_eql ht425), rfl⟩) ?_
    refine .o1 (tk rfl rfl fun _ w hn k => ⟨_, v_move rfl (k.eq1 2 44 rfl), rfl⟩) ?_
    refine .o1 (sk rfl rfl rfl (fun _ _ _ k => k.eq1 3 45 rfl) (fun _ => rfl)) ?_
    refine .o1 (sk rfl rfl rfl (fun _ _ _ k => k.eq1 3 45 rfl) (fun _ => rfl)) ?_
    refine .o1 (sk rfl rfl rfl (fun _ _ _ k => k.eq1 3 45 rfl) (fun _ => rfl)) ?_
    refine .o1 (tk rfl rfl fun _ w hn k => ⟨_, v_pickF rfl (k.eq1 3 45 rfl) rfl, rfl⟩) ?_
    refine .o1 (tk rfl rfl fun _ w hn k => ⟨_, v_assign rfl (k.eq1 7 49 rfl), rfl⟩) ?_
    exact .nil
  intro a506 w507 hn508 ha509
  have hs510 := ha509.size.trans hs377
  have hd511 := ha509.defers.trans hd378
  have h512 := ha509.fx 2 h379
  have h513 := ha509.fx 3 h380
  have h514 := ha509.fx 4 h381
  have h515 := ha509.fx 5 h382
  have h516 := ha509.ge 8 41 rfl
  have hb517 := hb384.new_ hn508
  have hb518 := hb385.new_ hn508
  have hb519 := hb386.new_ hn508
  have hN520 := hN387.transNew hn508
  clear hs377 hd378 h379 h380 h381 h382 hv424 hb384 hb385 hb386 hN387 ha509 hn508
  refine st_nil ?_
  refine hK _ _ ?_
  clear hK K
  refine wp_cond_false h516 ?_
  refine wp_skip ?_
  refine hK _ _ ?_
  clear hK K
  refine wp_seq_k fun K hK => ?_
  refine wp_g0 [true, true, true, true, true, true, true, true, false, false] [(8, false), (9, true)] 59
    [ve (.pointer (some ⟨q8, 1, none⟩)),
     ve (iv ((asM a).n)),
     ve (.pointer (some ⟨q12, 1, none⟩)),
     ve (iv ((asM b).n)),
     ve (iv (((asM a).n) + ((asM b).n))),
     ve (.tuple #[nv ((ofM (((asM a).n) + ((asM b).n))).1), .bool ((ofM (((asM a).n) + ((asM b).n))).2)]),
     ve (nv ((ofM (((asM a).n) + ((asM b).n))).1)),
     ve (.bool ((ofM (((asM a).n) + ((asM b).n))).2)),
     vt,
     vt] hs510 (.eq (.eq (.eq (.eq (.eq (.eq (.eq (.eq (.tt (.tt (.nil))))))))))) ?_ ?_
  · skip
    refine .o1 (tk rfl rfl fun _ w hn k => ⟨_, v_field rfl (k.fx 2 h512) (fun w => rfl), rfl⟩) ?_
    refine .o1 (tk rfl rfl fun _ w hn k => ⟨_, v_load rfl (k.eq1 0 51 rfl) (l_one Tryd.isAgg3 ((hb517.new_ hn).cell 1)), rfl⟩) ?_
    refine .o1 (tk rfl rfl fun _ w hn k => ⟨_, v_field rfl (k.fx 3 h513) (fun w => rfl), rfl⟩) ?_
    refine .o1 (tk rfl rfl fun _ w hn k => ⟨_, v_load rfl (k.eq1 2 53 rfl) (l_one Tryd.isAgg3 ((hb518.new_ hn).cell 1)), rfl⟩) ?_
    refine .o1 (tk rfl rfl fun _ w hn k => ⟨_, v_bin rfl (k.eq1 1 52 rfl) (k.eq1 3 54 rfl) (fun _ => rfl) (r_add rfl (by omega)), rfl⟩) ?_
    refine .o1 (ck rfl rfl rfl (fun _ w hn k => ⟨#[iv (((asM a).n) + ((asM b).n))], args1 (k.eq1 4 55 rfl), fun _ => by kernel_rfl, of_c (((asM a).n) + ((asM b).n)) _⟩) fun _ => rfl) ?_
    refine .o1 (tk rfl rfl fun _ w hn k => ⟨_, v_extract rfl (k.eq1 5 56 rfl) rfl, rfl⟩) ?_
    refine .o1 (tk rfl rfl fun _ w hn k => ⟨_, v_extract rfl (k.eq1 5 56 rfl) rfl, rfl⟩) ?_
    refine .off ?_
    refine .off ?_
    exact .nil
  intro a521 w522 hn523 ha524
  have hs525 := ha524.size.trans hs510
  have hd526 := ha524.defers.trans hd511
  have h527 := ha524.fx 4 h514
  have h528 := ha524.fx 5 h515
  have h529 := ha524.ge 6 57 rfl
  have h530 := ha524.ge 7 58 rfl
  have hb531 := hb519.new_ hn523
  have hN532 := hN520.transNew hn523
  clear hs510 hd511 h512 h513 h514 h515 h516 hb517 hq23 hb518 hq24 hb519 hN520 ha524 hn523
  obtain ⟨w533, -, hst534, hb535, hu536, hf537⟩ := s_two (v0 := iv ((ofM (((asM a).n) + ((asM b).n))).1.k)) (v1 := iv ((ofM (((asM a).n) + ((asM b).n))).1.n)) Tryd.sizeOf23 rfl rfl rfl hb531
  refine st_act rfl rfl fun K538 hL539 => a_store' rfl h527 h529 hst534 (hL539 _ _ trivial ?_)
  have hN540 := hN532.trans hu536 (fun k hk hkb => by subst hkb; omega)
  clear hb531 hst534 K538 hL539 hN532 hu536 hf537
  refine st_take rfl rfl (y_assign (v := .bool ((ofM (((asM a).n) + ((asM b).n))).2)) rfl h530) rfl ?_
  obtain ⟨a541, ha542⟩ : ∃ a', a' = a521.put (some 5) (.bool ((ofM (((asM a).n) + ((asM b).n))).2)) := ⟨_, rfl⟩
  have hs543 : a541.tmps.size = 59 := by rw [ha542, put_size]; exact hs525
  have hd544 : a541.defers = [] := by rw [ha542, put_defers]; exact hd526
  have h545 : a541.eval (.tmp 4) = pv q16 := by rw [ha542, put_ne _ _ _ _ (by decide)]; exact h527
  have h546 : a541.eval (.tmp 57) = nv ((ofM (((asM a).n) + ((asM b).n))).1) := by rw [ha542, put_ne _ _ _ _ (by decide)]; exact h529
  have h547 : a541.eval (.tmp 58) = .bool ((ofM (((asM a).n) + ((asM b).n))).2) := by rw [ha542, put_ne _ _ _ _ (by decide)]; exact h530
  have h548 : a541.eval (.tmp 5) = .bool ((ofM (((asM a).n) + ((asM b).n))).2) := by rw [ha542]; exact put_same _ _ _ (by rw [hs525]; decide)
  show stepsTo _ _ _ _ _ (a521.put (some 5) (.bool ((ofM (((asM a).n) + ((asM b).n))).2))) _
  rw [← ha542]
  clear ha542 hs525 hd526 h527 h528 h529 h530
  refine st_nil ?_
  clear h546 h547
  refine hK _ _ ?_
  clear hK K
  refine wp_ret (ret_k hd544 (v := .tuple #[nv ((ofM (((asM a).n) + ((asM b).n))).1), .bool ((ofM (((asM a).n) + ((asM b).n))).2)]) (res_ct rfl h545 h548 (l_two Tryd.isAgg23 Tryd.sizeOf23 hb535)) ?_)
  refine ⟨?_, hN540⟩
  show Ending.returned (.tuple #[nv ((ofM (((asM a).n) + ((asM b).n))).1), .bool ((ofM (((asM a).n) + ((asM b).n))).2)]) = Ending.returned (.tuple #[nv ((addM a b).1), .bool ((addM a b).2)])
  first | rfl | (simp [addM, addA, ht63, ht113, ht163, ht388, ht425])
set_option maxHeartbeats 4000000 in
set_option maxRecDepth 100000 in
theorem neg_c (a : Nm) (w : World) : Calls Tryd.prog 48 #[nv a] w (IsRet (nv (negM a)) w) := by
  refine enter_abs Tryd.func48 rfl fun a0 hs0 hd0 hp => ?_
  have hs0 : a0.tmps.size = 28 := hs0
  have hN0 : New w w := Upd.refl _ _
  have hp0 : a0.eval (.tmp 0) = nv a := hp 0 _ rfl
  clear hp
  refine wp_seq_k fun K hK => ?_
  refine wp_g [true, true] [] [] 28
    [IsNew w 23 [iv a.k, iv a.n],
     IsNew w 23 [iv 0, iv 0]]
    [0, 1] (newsCons (fun v w h => IsNew.old h) (newsCons (fun v w h => IsNew.old h) newsNil)) hs0 (.nw (.nw (.nil))) ?_ (fun i h => by cases h) ?_
  · skip
    refine .o2 (step_allocN (cs := [iv a.k, iv a.n]) (t := 23) rfl (noG rfl) (fun _ w hn k => v_box rfl (k.fx 0 hp0) (fun w => rfl)) (fun q _ hq hb => ⟨q, rfl, hq, hb⟩)) ?_
    refine .o2 (step_allocN (cs := [iv 0, iv 0]) (t := 23) rfl (noG rfl) (fun _ w hn k => rfl) (fun q _ hq hb => ⟨q, rfl, hq, hb⟩)) ?_
    exact .nil
  intro a1 w2 hn3 ha4
  have hs5 := ha4.size.trans hs0
  have hd6 := ha4.defers.trans hd0
  obtain ⟨q8, h7, hq9, hb10⟩ : IsNew _ _ _ _ _ := ha4.got 0 1 rfl (by kernel_rfl)
  obtain ⟨q12, h11, hq13, hb14⟩ : IsNew _ _ _ _ _ := ha4.got 1 2 rfl (by kernel_rfl)
  have hne15 : q8 ≠ q12 := ha4.ne 0 1 1 2 h7 h11
  have hq16 := Nat.le_trans hN0.size hq9
  have hq17 := Nat.le_trans hN0.size hq13
  have hN18 := hN0.transNew hn3
  clear hs0 hd0 hp0 hq9 hq13 hN0 ha4 hn3
  refine st_nil ?_
  refine hK _ _ ?_
  clear hK K
  refine wp_seq_k fun K hK => ?_
  refine wp_g0 [true, true, false] [(2, false)] 28
    [ve (nv a),
     ve (nv (asM a)),
     vt] hs5 (.eq (.eq (.tt (.nil)))) ?_ ?_
  · skip
    refine .o1 (tk rfl rfl fun _ w hn k => ⟨_, v_load rfl (k.fx 1 h7) (l_two Tryd.isAgg23 Tryd.sizeOf23 (hb10.new_ hn)), rfl⟩) ?_
    refine .o1 (ck rfl rfl rfl (fun _ w hn k => ⟨#[nv a], args1 (k.eq1 0 3 rfl), fun _ => by kernel_rfl, as_c a _⟩) fun _ => rfl) ?_
    refine .off ?_
    exact .nil
  intro a19 w20 hn21 ha22
  have hs23 := ha22.size.trans hs5
  have hd24 := ha22.defers.trans hd6
  have h25 := ha22.fx 1 h7
  have h26 := ha22.fx 2 h11
  have h27 := ha22.ge 1 4 rfl
  have hb28 := hb10.new_ hn21
  have hb29 := hb14.new_ hn21
  have hN30 := hN18.transNew hn21
  clear hs5 hd6 h7 h11 hb10 hb14 hN18 ha22 hn21
  have hbd_a := as_bd a
  obtain ⟨w31, -, hst32, hb33, hu34, hf35⟩ := s_two (v0 := iv ((asM a).k)) (v1 := iv ((asM a).n)) Tryd.sizeOf23 rfl rfl rfl hb28
  refine st_act rfl rfl fun K36 hL37 => a_store' rfl h25 h27 hst32 (hL37 _ _ trivial ?_)
  have hb38 := hf35 _ _ _ (fun h => hne15 h.symm) hb29
  have hN39 := hN30.trans hu34 (fun k hk hkb => by subst hkb; omega)
  clear hb28 hst32 K36 hL37 hN30 hb29 hu34 hf35
  refine st_nil ?_
  clear h27
  refine hK _ _ ?_
  clear hK K
  refine wp_seq_k fun K hK => ?_
  refine wp_seq_k fun K hK => ?_
  refine wp_g0 [true, true] [] 28
    [ve (pv q8),
     ve (iv ((asM a).k))] hs23 (.eq (.eq (.nil))) ?_ ?_
  · skip
    refine .o1 (tk rfl rfl fun _ w hn k => ⟨_, v_field rfl (k.fx 1 h25) (fun w => rfl), rfl⟩) ?_
    refine .o1 (tk rfl rfl fun _ w hn k => ⟨_, v_load rfl (k.eq1 0 5 rfl) (l_one Tryd.isAgg3 ((hb33.new_ hn).cell 0)), rfl⟩) ?_
    exact .nil
  intro a40 w41 hn42 ha43
  have hs44 := ha43.size.trans hs23
  have hd45 := ha43.defers.trans hd24
  have h46 := ha43.fx 1 h25
  have h47 := ha43.fx 2 h26
  have h48 := ha43.ge 1 6 rfl
  have hb49 := hb33.new_ hn42
  have hb50 := hb38.new_ hn42
  have hN51 := hN39.transNew hn42
  clear hs23 hd24 h25 h26 hb33 hb38 hN39 ha43 hn42
  refine st_nil ?_
  refine hK _ _ ?_
  clear hK K
  refine wp_block ?_
  refine wp_seq_k fun K hK => ?_
  refine wp_g0 [true, true] [] 28
    [ve (.bool (decide (((asM a).k) = 2))),
     ve (.bool (decide (((asM a).k) = 2)))] hs44 (.eq (.eq (.nil))) ?_ ?_
  · skip
    refine .o1 (tk rfl rfl fun _ w hn k => ⟨_, v_bin rfl (k.fx 6 h48) rfl (fun _ => rfl) (r_eql rfl), rfl⟩) ?_
    refine .o1 (tk rfl rfl fun _ w hn k => ⟨_, v_assign rfl (k.eq1 0 8 rfl), rfl⟩) ?_
    exact .nil
  intro a52 w53 hn54 ha55
  have hs56 := ha55.size.trans hs44
  have hd57 := ha55.defers.trans hd45
  have h58 := ha55.fx 1 h46
  have h59 := ha55.fx 2 h47
  have h60 := ha55.fx 6 h48
  have h61 := ha55.ge 1 7 rfl
  have hb62 := hb49.new_ hn54
  have hb63 := hb50.new_ hn54
  have hN64 := hN51.transNew hn54
  clear hs44 hd45 h46 h47 h48 hb49 hb50 hN51 ha55 hn54
  refine st_nil ?_
  refine hK _ _ ?_
  clear hK K
  rcases Bool.eq_false_or_eq_true (decide (((asM a).k) = 2)) with ht65 | ht65
  · skip
    have ht65d := of_decide_eq_true ht65
    have hv66 : a52.eval (.tmp 7) = .bool true := h61.trans (congrArg Value.bool ht65)
    clear h61
    refine wp_cond_true hv66 ?_
    refine wp_seq_k fun K hK => ?_
    refine wp_g0 [true, false] [(1, false)] 28
      [ve (nv (asM a)),
       vt] hs56 (.eq (.tt (.nil))) ?_ ?_
    · skip
      refine .o1 (tk rfl rfl fun _ w hn k => ⟨_, v_load rfl (k.fx 1 h58) (l_two Tryd.isAgg23 Tryd.sizeOf23 (hb62.new_ hn)), rfl⟩) ?_
      refine .off ?_
      exact .nil
    intro a67 w68 hn69 ha70
    have hs71 := ha70.size.trans hs56
    have hd72 := ha70.defers.trans hd57
    have h73 := ha70.fx 1 h58
    have h74 := ha70.fx 2 h59
    have h75 := ha70.ge 0 9 rfl
    have hb76 := hb62.new_ hn69
    have hb77 := hb63.new_ hn69
    have hN78 := hN64.transNew hn69
    clear hs56 hd57 h58 h59 h60 hv66 hb62 hb63 hN64 ha70 hn69
    obtain ⟨w79, -, hst80, hb81, hu82, hf83⟩ := s_two (v0 := iv ((asM a).k)) (v1 := iv ((asM a).n)) Tryd.sizeOf23 rfl rfl rfl hb77
    refine st_act rfl rfl fun K84 hL85 => a_store' rfl h74 h75 hst80 (hL85 _ _ trivial ?_)
    have hb86 := hf83 _ _ _ (hne15) hb76
    have hN87 := hN78.trans hu82 (fun k hk hkb => by subst hkb; omega)
    clear hb77 hst80 K84 hL85 hN78 hb76 hu82 hf83
    refine st_nil ?_
    clear h75
    refine hK _ _ ?_
    clear hK K
    refine wp_ret (ret_k hd72 (v := nv (asM a)) (res_c rfl h74 (l_two Tryd.isAgg23 Tryd.sizeOf23 hb81)) ?_)
    refine ⟨?_, hN87⟩
    show Ending.returned (nv (asM a)) = Ending.returned (nv (negM a))
    first | rfl | (simp [negM, negA, infM, ht65])
  have ht65d := of_decide_eq_false ht65
  have hv88 : a52.eval (.tmp 7) = .bool false := h61.trans (congrArg Value.bool ht65)
  clear h61
  refine wp_cond_false hv88 ?_
  refine wp_seq_k fun K hK => ?_
  refine wp_seq_k fun K hK => ?_
  refine wp_g0 [true, true] [] 28
    [ve (.bool (decide (((asM a).k) = 3))),
     ve (.bool (decide (((asM a).k) = 3)))] hs56 (.eq (.eq (.nil))) ?_ ?_
  · skip
    refine .o1 (tk rfl rfl fun _ w hn k => ⟨_, v_bin rfl (k.fx 6 h60) rfl (fun _ => rfl) (r_eql rfl), rfl⟩) ?_
    refine .o1 (tk rfl rfl fun _ w hn k => ⟨_, v_assign rfl (k.eq1 0 11 rfl), rfl⟩) ?_
    exact .nil
  intro a89 w90 hn91 ha92
  have hs93 := ha92.size.trans hs56
  have hd94 := ha92.defers.trans hd57
  have h95 := ha92.fx 1 h58
  have h96 := ha92.fx 2 h59
  have h97 := ha92.fx 6 h60
  have h98 := ha92.ge 1 10 rfl
  have hb99 := hb62.new_ hn91
  have hb100 := hb63.new_ hn91
  have hN101 := hN64.transNew hn91
  clear hs56 hd57 h58 h59 h60 hv88 hb62 hb63 hN64 ha92 hn91
  refine st_nil ?_
  refine hK _ _ ?_
  clear hK K
  rcases Bool.eq_false_or_eq_true (decide (((asM a).k) = 3)) with ht102 | ht102
  · skip
    have ht102d := of_decide_eq_true ht102
    have hv103 : a89.eval (.tmp 10) = .bool true := h98.trans (congrArg Value.bool ht102)
    clear h98
    refine wp_cond_true hv103 ?_
    refine wp_skip ?_
    refine hK _ _ ?_
    clear hK K
    refine wp_cond_true hv103 ?_
    refine wp_seq_k fun K hK => ?_
    refine wp_g0 [true, true, true, true, false] [(4, false)] 28
      [ve (pv q8),
       ve (iv ((asM a).k)),
       ve (.bool true),
       ve (nv (Nm.mk 4 0)),
       vt] hs93 (.eq (.eq (.eq (.eq (.tt (.nil)))))) ?_ ?_
    · skip
      refine .o1 (tk rfl rfl fun _ w hn k => ⟨_, v_field rfl (k.fx 1 h95) (fun w => rfl), rfl⟩) ?_
      refine .o1 (tk rfl rfl fun _ w hn k => ⟨_, v_load rfl (k.eq1 0 13 rfl) (l_one Tryd.isAgg3 ((hb99.new_ hn).cell 0)), rfl⟩) ?_
      refine .o1 (tk rfl rfl fun _ w hn k => ⟨_, v_bin rfl (k.eq1 1 14 rfl) rfl (fun _ => rfl) (r_eql ht102), rfl⟩) ?_
      refine .o1 (ck rfl rfl rfl (fun _ w hn k => ⟨#[.bool true], args1 (k.eq1 2 15 rfl), fun _ => by kernel_rfl, inf_c true _⟩) fun _ => rfl) ?_
      refine .off ?_
      exact .nil
    intro a104 w105 hn106 ha107
    have hs108 := ha107.size.trans hs93
    have hd109 := ha107.defers.trans hd94
    have h110 := ha107.fx 1 h95
    have h111 := ha107.fx 2 h96
    have h112 := ha107.ge 3 16 rfl
    have hb113 := hb99.new_ hn106
    have hb114 := hb100.new_ hn106
    have hN115 := hN101.transNew hn106
    clear hs93 hd94 h95 h96 h97 hv103 hb99 hb100 hN101 ha107 hn106
    obtain ⟨w116, -, hst117, hb118, hu119, hf120⟩ := s_two (v0 := iv 4) (v1 := iv 0) Tryd.sizeOf23 rfl rfl rfl hb114
    refine st_act rfl rfl fun K121 hL122 => a_store' rfl h111 h112 hst117 (hL122 _ _ trivial ?_)
    have hb123 := hf120 _ _ _ (hne15) hb113
    have hN124 := hN115.trans hu119 (fun k hk hkb => by subst hkb; omega)
    clear hb114 hst117 K121 hL122 hN115 hb113 hu119 hf120
    refine st_nil ?_
    clear h112
    refine hK _ _ ?_
    clear hK K
    refine wp_ret (ret_k hd109 (v := nv (Nm.mk 4 0)) (res_c rfl h111 (l_two Tryd.isAgg23 Tryd.sizeOf23 hb118)) ?_)
    refine ⟨?_, hN124⟩
    show Ending.returned (nv (Nm.mk 4 0)) = Ending.returned (nv (negM a))
    first | rfl | (simp [negM, negA, infM, ht65, ht102])
  have ht102d := of_decide_eq_false ht102
  have hv125 : a89.eval (.tmp 10) = .bool false := h98.trans (congrArg Value.bool ht102)
  clear h98
  refine wp_cond_false hv125 ?_
  refine wp_g0 [true, true] [] 28
    [ve (.bool (decide (((asM a).k) = 4))),
     ve (.bool (decide (((asM a).k) = 4)))] hs93 (.eq (.eq (.nil))) ?_ ?_
  · skip
    refine .o1 (tk rfl rfl fun _ w hn k => ⟨_, v_bin rfl (k.fx 6 h97) rfl (fun _ => rfl) (r_eql rfl), rfl⟩) ?_
    refine .o1 (tk rfl rfl fun _ w hn k => ⟨_, v_assign rfl (k.eq1 0 12 rfl), rfl⟩) ?_
    exact .nil
  intro a126 w127 hn128 ha129
  have hs130 := ha129.size.trans hs93
  have hd131 := ha129.defers.trans hd94
  have h132 := ha129.fx 1 h95
  have h133 := ha129.fx 2 h96
  have h134 := ha129.fx 6 h97
  have h135 := ha129.ge 1 10 rfl
  have hb136 := hb99.new_ hn128
  have hb137 := hb100.new_ hn128
  have hN138 := hN101.transNew hn128
  clear hs93 hd94 h95 h96 h97 hv125 hb99 hb100 hN101 ha129 hn128
  refine st_nil ?_
  refine hK _ _ ?_
  clear hK K
  rcases Bool.eq_false_or_eq_true (decide (((asM a).k) = 4)) with ht139 | ht139
  · skip
    have ht139d := of_decide_eq_true ht139
    have hv140 : a126.eval (.tmp 10) = .bool true := h135.trans (congrArg Value.bool ht139)
    clear h135
    refine wp_cond_true hv140 ?_
    refine wp_seq_k fun K hK => ?_
    refine wp_g0 [true, true, true, true, false] [(4, false)] 28
      [ve (pv q8),
       ve (iv ((asM a).k)),
       ve (.bool false),
       ve (nv (Nm.mk 3 0)),
       vt] hs130 (.eq (.eq (.eq (.eq (.tt (.nil)))))) ?_ ?_
    · skip
      refine .o1 (tk rfl rfl fun _ w hn k => ⟨_, v_field rfl (k.fx 1 h132) (fun w => rfl), rfl⟩) ?_
      refine .o1 (tk rfl rfl fun _ w hn k => ⟨_, v_load rfl (k.eq1 0 13 rfl) (l_one Tryd.isAgg3 ((hb136.new_ hn).cell 0)), rfl⟩) ?_
      refine .o1 (tk rfl rfl fun _ w hn k => ⟨_, v_bin rfl (k.eq1 1 14 rfl) rfl (fun _ => rfl) (r_eql ht102), rfl⟩) ?_
      refine .o1 (ck rfl rfl rfl (fun _ w hn k => ⟨#[.bool false], args1 (k.eq1 2 15 rfl), fun _ => by kernel_rfl, inf_c false _⟩) fun _ => rfl) ?_
      refine .off ?_
      exact .nil
    intro a141 w142 hn143 ha144
    have hs145 := ha144.size.trans hs130
    have hd146 := ha144.defers.trans hd131
    have h147 := ha144.fx 1 h132
    have h148 := ha144.fx 2 h133
    have h149 := ha144.ge 3 16 rfl
    have hb150 := hb136.new_ hn143
    have hb151 := hb137.new_ hn143
    have hN152 := hN138.transNew hn143
    clear hs130 hd131 h132 h133 h134 hv140 hb136 hb137 hN138 ha144 hn143
    obtain ⟨w153, -, hst154, hb155, hu156, hf157⟩ := s_two (v0 := iv 3) (v1 := iv 0) Tryd.sizeOf23 rfl rfl rfl hb151
    refine st_act rfl rfl fun K158 hL159 => a_store' rfl h148 h149 hst154 (hL159 _ _ trivial ?_)
    have hb160 := hf157 _ _ _ (hne15) hb150
    have hN161 := hN152.trans hu156 (fun k hk hkb => by subst hkb; omega)
    clear hb151 hst154 K158 hL159 hN152 hb150 hu156 hf157
    refine st_nil ?_
    clear h149
    refine hK _ _ ?_
    clear hK K
    refine wp_ret (ret_k hd146 (v := nv (Nm.mk 3 0)) (res_c rfl h148 (l_two Tryd.isAgg23 Tryd.sizeOf23 hb155)) ?_)
    refine ⟨?_, hN161⟩
    show Ending.returned (nv (Nm.mk 3 0)) = Ending.returned (nv (negM a))
    first | rfl | (simp [negM, negA, infM, ht65, ht102, ht139])
  have ht139d := of_decide_eq_false ht139
  have hv162 : a126.eval (.tmp 10) = .bool false := h135.trans (congrArg Value.bool ht139)
  clear h135
  refine wp_cond_false hv162 ?_
  refine wp_seq_k fun K hK => ?_
  refine wp_g0 [true, true] [] 28
    [ve (.bool (decide (((asM a).k) = 1))),
     ve (.bool (decide (((asM a).k) = 1)))] hs130 (.eq (.eq (.nil))) ?_ ?_
  · skip
    refine .o1 (tk rfl rfl fun _ w hn k => ⟨_, v_bin rfl (k.fx 6 h134) rfl (fun _ => rfl) (r_eql rfl), rfl⟩) ?_
    refine .o1 (tk rfl rfl fun _ w hn k => ⟨_, v_assign rfl (k.eq1 0 18 rfl), rfl⟩) ?_
    exact .nil
  intro a163 w164 hn165 ha166
  have hs167 := ha166.size.trans hs130
  have hd168 := ha166.defers.trans hd131
  have h169 := ha166.fx 1 h132
  have h170 := ha166.fx 2 h133
  have h171 := ha166.ge 1 17 rfl
  have hb172 := hb136.new_ hn165
  have hb173 := hb137.new_ hn165
  have hN174 := hN138.transNew hn165
  clear hs130 hd131 h132 h133 h134 hv162 hb136 hb137 hN138 ha166 hn165
  refine st_nil ?_
  refine hK _ _ ?_
  clear hK K
  rcases Bool.eq_false_or_eq_true (decide (((asM a).k) = 1)) with ht175 | ht175
  · skip
    have ht175d := of_decide_eq_true ht175
    have hv176 : a163.eval (.tmp 17) = .bool true := h171.trans (congrArg Value.bool ht175)
    clear h171
    refine wp_cond_true hv176 ?_
    refine wp_seq_k fun K hK => ?_
    refine wp_g0 [true, false] [(1, false)] 28
      [ve (nv (Nm.mk 0 0)),
       vt] hs167 (.eq (.tt (.nil))) ?_ ?_
    · skip
      refine .o1 (ck rfl rfl rfl (fun _ w hn k => ⟨#[iv 0], args1 rfl, fun _ => by kernel_rfl, whole_c 0 _⟩) fun _ => rfl) ?_
      refine .off ?_
      exact .nil
    intro a177 w178 hn179 ha180
    have hs181 := ha180.size.trans hs167
    have hd182 := ha180.defers.trans hd168
    have h183 := ha180.fx 1 h169
    have h184 := ha180.fx 2 h170
    have h185 := ha180.ge 0 19 rfl
    have hb186 := hb172.new_ hn179
    have hb187 := hb173.new_ hn179
    have hN188 := hN174.transNew hn179
    clear hs167 hd168 h169 h170 hv176 hb172 hb173 hN174 ha180 hn179
    obtain ⟨w189, -, hst190, hb191, hu192, hf193⟩ := s_two (v0 := iv 0) (v1 := iv 0) Tryd.sizeOf23 rfl rfl rfl hb187
    refine st_act rfl rfl fun K194 hL195 => a_store' rfl h184 h185 hst190 (hL195 _ _ trivial ?_)
    have hb196 := hf193 _ _ _ (hne15) hb186
    have hN197 := hN188.trans hu192 (fun k hk hkb => by subst hkb; omega)
    clear hb187 hst190 K194 hL195 hN188 hb186 hu192 hf193
    refine st_nil ?_
    clear h185
    refine hK _ _ ?_
    clear hK K
    refine wp_ret (ret_k hd182 (v := nv (Nm.mk 0 0)) (res_c rfl h184 (l_two Tryd.isAgg23 Tryd.sizeOf23 hb191)) ?_)
    refine ⟨?_, hN197⟩
    show Ending.returned (nv (Nm.mk 0 0)) = Ending.returned (nv (negM a))
    first | rfl | (simp [negM, negA, infM, ht65, ht102, ht139, ht175])
  have ht175d := of_decide_eq_false ht175
  have hv198 : a163.eval (.tmp 17) = .bool false := h171.trans (congrArg Value.bool ht175)
  clear h171
  refine wp_cond_false hv198 ?_
  refine wp_skip ?_
  refine hK _ _ ?_
  clear hK K
  refine wp_seq_k fun K hK => ?_
  refine wp_seq_k fun K hK => ?_
  refine wp_g0 [true, true, true] [] 28
    [ve (.pointer (some ⟨q8, 1, none⟩)),
     ve (iv ((asM a).n)),
     ve (.bool (decide (((asM a).n) = 0)))] hs167 (.eq (.eq (.eq (.nil)))) ?_ ?_
  · skip
    refine .o1 (tk rfl rfl fun _ w hn k => ⟨_, v_field rfl (k.fx 1 h169) (fun w => rfl), rfl⟩) ?_
    refine .o1 (tk rfl rfl fun _ w hn k => ⟨_, v_load rfl (k.eq1 0 20 rfl) (l_one Tryd.isAgg3 ((hb172.new_ hn).cell 1)), rfl⟩) ?_
    refine .o1 (tk rfl rfl fun _ w hn k => ⟨_, v_bin rfl (k.eq1 1 21 rfl) rfl (fun _ => rfl) (r_eql rfl), rfl⟩) ?_
    exact .nil
  intro a199 w200 hn201 ha202
  have hs203 := ha202.size.trans hs167
  have hd204 := ha202.defers.trans hd168
  have h205 := ha202.fx 1 h169
  have h206 := ha202.fx 2 h170
  have h207 := ha202.ge 2 22 rfl
  have hb208 := hb172.new_ hn201
  have hb209 := hb173.new_ hn201
  have hN210 := hN174.transNew hn201
  clear hs167 hd168 h169 h170 hv198 hb172 hb173 hN174 ha202 hn201
  refine st_nil ?_
  refine hK _ _ ?_
  clear hK K
  rcases Bool.eq_false_or_eq_true (decide (((asM a).n) = 0)) with ht211 | ht211
  · skip
    have ht211d := of_decide_eq_true ht211
    have hv212 : a199.eval (.tmp 22) = .bool true := h207.trans (congrArg Value.bool ht211)
    clear h207
    refine wp_cond_true hv212 ?_
    refine wp_seq_k fun K hK => ?_
    refine wp_g0 [true, false] [(1, false)] 28
      [ve (nv (Nm.mk 1 0)),
       vt] hs203 (.eq (.tt (.nil))) ?_ ?_
    · skip
      refine .o1 (ck rfl rfl rfl (fun _ w hn k => ⟨#[.bool true], args1 rfl, fun _ => by kernel_rfl, nought_c true _⟩) fun _ => rfl) ?_
      refine .off ?_
      exact .nil
    intro a213 w214 hn215 ha216
    have hs217 := ha216.size.trans hs203
    have hd218 := ha216.defers.trans hd204
    have h219 := ha216.fx 1 h205
    have h220 := ha216.fx 2 h206
    have h221 := ha216.ge 0 23 rfl
    have hb222 := hb208.new_ hn215
    have hb223 := hb209.new_ hn215
    have hN224 := hN210.transNew hn215
    clear hs203 hd204 h205 h206 hv212 hb208 hb209 hN210 ha216 hn215
    obtain ⟨w225, -, hst226, hb227, hu228, hf229⟩ := s_two (v0 := iv 1) (v1 := iv 0) Tryd.sizeOf23 rfl rfl rfl hb223
    refine st_act rfl rfl fun K230 hL231 => a_store' rfl h220 h221 hst226 (hL231 _ _ trivial ?_)
    have hb232 := hf229 _ _ _ (hne15) hb222
    have hN233 := hN224.trans hu228 (fun k hk hkb => by subst hkb; omega)
    clear hb223 hst226 K230 hL231 hN224 hb222 hu228 hf229
    refine st_nil ?_
    clear h221
    refine hK _ _ ?_
    clear hK K
    refine wp_ret (ret_k hd218 (v := nv (Nm.mk 1 0)) (res_c rfl h220 (l_two Tryd.isAgg23 Tryd.sizeOf23 hb227)) ?_)
    refine ⟨?_, hN233⟩
    show Ending.returned (nv (Nm.mk 1 0)) = Ending.returned (nv (negM a))
    first | rfl | (simp [negM, negA, infM, ht65, ht102, ht139, ht175, ht211])
  have ht211d := of_decide_eq_false ht211
  have hv234 : a199.eval (.tmp 22) = .bool false := h207.trans (congrArg Value.bool ht211)
  clear h207
  refine wp_cond_false hv234 ?_
  refine wp_skip ?_
  refine hK _ _ ?_
  clear hK K
  refine wp_seq_k fun K hK => ?_
  refine wp_g0 [true, true, true, true, false] [(4, false)] 28
    [ve (.pointer (some ⟨q8, 1, none⟩)),
     ve (iv ((asM a).n)),
     ve (iv (-((asM a).n))),
     ve (nv (Nm.mk 0 (-((asM a).n)))),
     vt] hs203 (.eq (.eq (.eq (.eq (.tt (.nil)))))) ?_ ?_
  · skip
    refine .o1 (tk rfl rfl fun _ w hn k => ⟨_, v_field rfl (k.fx 1 h205) (fun w => rfl), rfl⟩) ?_
    refine .o1 (tk rfl rfl fun _ w hn k => ⟨_, v_load rfl (k.eq1 0 24 rfl) (l_one Tryd.isAgg3 ((hb208.new_ hn).cell 1)), rfl⟩) ?_
    refine .o1 (tk rfl rfl fun _ w hn k => ⟨_, v_neg rfl (k.eq1 1 25 rfl) (by omega), rfl⟩) ?_
    refine .o1 (ck rfl rfl rfl (fun _ w hn k => ⟨#[iv (-((asM a).n))], args1 (k.eq1 2 26 rfl), fun _ => by kernel_rfl, whole_c (-((asM a).n)) _⟩) fun _ => rfl) ?_
    refine .off ?_
    exact .nil
  intro a235 w236 hn237 ha238
  have hs239 := ha238.size.trans hs203
  have hd240 := ha238.defers.trans hd204
  have h241 := ha238.fx 2 h206
  have h242 := ha238.ge 3 27 rfl
  have hb243 := hb209.new_ hn237
  have hN244 := hN210.transNew hn237
  clear hs203 hd204 h205 h206 hv234 hb208 hq16 hb209 hN210 ha238 hn237
  obtain ⟨w245, -, hst246, hb247, hu248, hf249⟩ := s_two (v0 := iv 0) (v1 := iv (-((asM a).n))) Tryd.sizeOf23 rfl rfl rfl hb243
  refine st_act rfl rfl fun K250 hL251 => a_store' rfl h241 h242 hst246 (hL251 _ _ trivial ?_)
  have hN252 := hN244.trans hu248 (fun k hk hkb => by subst hkb; omega)
  clear hb243 hst246 K250 hL251 hN244 hu248 hf249
  refine st_nil ?_
  clear h242
  refine hK _ _ ?_
  clear hK K
  refine wp_ret (ret_k hd240 (v := nv (Nm.mk 0 (-((asM a).n)))) (res_c rfl h241 (l_two Tryd.isAgg23 Tryd.sizeOf23 hb247)) ?_)
  refine ⟨?_, hN252⟩
  show Ending.returned (nv (Nm.mk 0 (-((asM a).n)))) = Ending.returned (nv (negM a))
  first | rfl | (simp [negM, negA, infM, ht65, ht102, ht139, ht175, ht211])
set_option maxHeartbeats 4000000 in
set_option maxRecDepth 100000 in
theorem sub_c (a : Nm) (b : Nm) (w : World) : Calls Tryd.prog 39 #[nv a, nv b] w (IsRet (.tuple #[nv ((addM a (negM b)).1), .bool ((addM a (negM b)).2)]) w) := by
  refine enter_abs Tryd.func39 rfl fun a0 hs0 hd0 hp => ?_
  have hs0 : a0.tmps.size = 12 := hs0
  have hN0 : New w w := Upd.refl _ _
  have hp0 : a0.eval (.tmp 0) = nv a := hp 0 _ rfl
  have hp1 : a0.eval (.tmp 1) = nv b := hp 1 _ rfl
  clear hp
  refine wp_seq_k fun K hK => ?_
  refine wp_g [true, true, true, true] [] [] 12
    [IsNew w 23 [iv a.k, iv a.n],
     IsNew w 23 [iv b.k, iv b.n],
     IsNew w 23 [iv 0, iv 0],
     ve (.bool false)]
    [0, 1, 2] (newsCons (fun v w h => IsNew.old h) (newsCons (fun v w h => IsNew.old h) (newsCons (fun v w h => IsNew.old h) newsNil))) hs0 (.nw (.nw (.nw (.eq (.nil))))) ?_ (fun i h => by cases h) ?_
  · skip
    refine .o2 (step_allocN (cs := [iv a.k, iv a.n]) (t := 23) rfl (noG rfl) (fun _ w hn k => v_box rfl (k.fx 0 hp0) (fun w => rfl)) (fun q _ hq hb => ⟨q, rfl, hq, hb⟩)) ?_
    refine .o2 (step_allocN (cs := [iv b.k, iv b.n]) (t := 23) rfl (noG rfl) (fun _ w hn k => v_box rfl (k.fx 1 hp1) (fun w => rfl)) (fun q _ hq hb => ⟨q, rfl, hq, hb⟩)) ?_
    refine .o2 (step_allocN (cs := [iv 0, iv 0]) (t := 23) rfl (noG rfl) (fun _ w hn k => rfl) (fun q _ hq hb => ⟨q, rfl, hq, hb⟩)) ?_
    refine .o1 (tk rfl rfl fun _ w hn k => ⟨_, v_assign rfl rfl, rfl⟩) ?_
    exact .nil
  intro a1 w2 hn3 ha4
  have hs5 := ha4.size.trans hs0
  have hd6 := ha4.defers.trans hd0
  obtain ⟨q8, h7, hq9, hb10⟩ : IsNew _ _ _ _ _ := ha4.got 0 2 rfl (by kernel_rfl)
  obtain ⟨q12, h11, hq13, hb14⟩ : IsNew _ _ _ _ _ := ha4.got 1 3 rfl (by kernel_rfl)
  obtain ⟨q16, h15, hq17, hb18⟩ : IsNew _ _ _ _ _ := ha4.got 2 4 rfl (by kernel_rfl)
  have h19 := ha4.ge 3 5 rfl
  have hne20 : q8 ≠ q16 := ha4.ne 0 2 2 4 h7 h15
  have hne21 : q12 ≠ q16 := ha4.ne 1 2 3 4 h11 h15
  have hq22 := Nat.le_trans hN0.size hq9
  have hq23 := Nat.le_trans hN0.size hq13
  have hq24 := Nat.le_trans hN0.size hq17
  have hN25 := hN0.transNew hn3
  clear hs0 hd0 hp0 hp1 hq9 hq13 hq17 hN0 ha4 hn3
  refine st_nil ?_
  refine hK _ _ ?_
  clear hK K
  refine wp_seq_k fun K hK => ?_
  refine wp_g0 [true, true, true, true, true, true, false, false] [(6, false), (7, true)] 12
    [ve (nv a),
     ve (nv b),
     ve (nv (negM b)),
     ve (.tuple #[nv ((addM a (negM b)).1), .bool ((addM a (negM b)).2)]),
     ve (nv ((addM a (negM b)).1)),
     ve (.bool ((addM a (negM b)).2)),
     vt,
     vt] hs5 (.eq (.eq (.eq (.eq (.eq (.eq (.tt (.tt (.nil))))))))) ?_ ?_
  · skip
    refine .o1 (tk rfl rfl fun _ w hn k => ⟨_, v_load rfl (k.fx 2 h7) (l_two Tryd.isAgg23 Tryd.sizeOf23 (hb10.new_ hn)), rfl⟩) ?_
    refine .o1 (tk rfl rfl fun _ w hn k => ⟨_, v_load rfl (k.fx 3 h11) (l_two Tryd.isAgg23 Tryd.sizeOf23 (hb14.new_ hn)), rfl⟩) ?_
    refine .o1 (ck rfl rfl rfl (fun _ w hn k => ⟨#[nv b], args1 (k.eq1 1 7 rfl), fun _ => by kernel_rfl, neg_c b _⟩) fun _ => rfl) ?_
    refine .o1 (ck rfl rfl rfl (fun _ w hn k => ⟨#[nv a, nv (negM b)], args2 (k.eq1 0 6 rfl) (k.eq1 2 8 rfl), fun _ => by kernel_rfl, add_c a (negM b) _⟩) fun _ => rfl) ?_
    refine .o1 (tk rfl rfl fun _ w hn k => ⟨_, v_extract rfl (k.eq1 3 9 rfl) rfl, rfl⟩) ?_
    refine .o1 (tk rfl rfl fun _ w hn k => ⟨_, v_extract rfl (k.eq1 3 9 rfl) rfl, rfl⟩) ?_
    refine .off ?_
    refine .off ?_
    exact .nil
  intro a26 w27 hn28 ha29
  have hs30 := ha29.size.trans hs5
  have hd31 := ha29.defers.trans hd6
  have h32 := ha29.fx 4 h15
  have h33 := ha29.fx 5 h19
  have h34 := ha29.ge 4 10 rfl
  have h35 := ha29.ge 5 11 rfl
  have hb36 := hb18.new_ hn28
  have hN37 := hN25.transNew hn28
  clear hs5 hd6 h7 h11 h15 h19 hb10 hq22 hb14 hq23 hb18 hN25 ha29 hn28
  obtain ⟨w38, -, hst39, hb40, hu41, hf42⟩ := s_two (v0 := iv ((addM a (negM b)).1.k)) (v1 := iv ((addM a (negM b)).1.n)) Tryd.sizeOf23 rfl rfl rfl hb36
  refine st_act rfl rfl fun K43 hL44 => a_store' rfl h32 h34 hst39 (hL44 _ _ trivial ?_)
  have hN45 := hN37.trans hu41 (fun k hk hkb => by subst hkb; omega)
  clear hb36 hst39 K43 hL44 hN37 hu41 hf42
  refine st_take rfl rfl (y_assign (v := .bool ((addM a (negM b)).2)) rfl h35) rfl ?_
  obtain ⟨a46, ha47⟩ : ∃ a', a' = a26.put (some 5) (.bool ((addM a (negM b)).2)) := ⟨_, rfl⟩
  have hs48 : a46.tmps.size = 12 := by rw [ha47, put_size]; exact hs30
  have hd49 : a46.defers = [] := by rw [ha47, put_defers]; exact hd31
  have h50 : a46.eval (.tmp 4) = pv q16 := by rw [ha47, put_ne _ _ _ _ (by decide)]; exact h32
  have h51 : a46.eval (.tmp 10) = nv ((addM a (negM b)).1) := by rw [ha47, put_ne _ _ _ _ (by decide)]; exact h34
  have h52 : a46.eval (.tmp 11) = .bool ((addM a (negM b)).2) := by rw [ha47, put_ne _ _ _ _ (by decide)]; exact h35
  have h53 : a46.eval (.tmp 5) = .bool ((addM a (negM b)).2) := by rw [ha47]; exact put_same _ _ _ (by rw [hs30]; decide)
  show stepsTo _ _ _ _ _ (a26.put (some 5) (.bool ((addM a (negM b)).2))) _
  rw [← ha47]
  clear ha47 hs30 hd31 h32 h33 h34 h35
  refine st_nil ?_
  clear h51 h52
  refine hK _ _ ?_
  clear hK K
  refine wp_ret (ret_k hd49 (v := .tuple #[nv ((addM a (negM b)).1), .bool ((addM a (negM b)).2)]) (res_ct rfl h50 h53 (l_two Tryd.isAgg23 Tryd.sizeOf23 hb40)) ?_)
  refine ⟨?_, hN45⟩
  rfl
end Go.Proofs.YtldakajmhfdfgaaDoor
