/- Package num: products, quotients, rests, order, 32 bits, indices. -/
import Derived.Test.YtldakajmhfdfgaaDoorNumBa
namespace Go.Proofs.YtldakajmhfdfgaaDoor
open Go.RowKit
set_option linter.unusedSimpArgs false
set_option linter.unusedVariables false
set_option maxHeartbeats 8000000 in
set_option maxRecDepth 100000 in
theorem rem_c (a : Nm) (b : Nm) (w : World) : Calls Tryd.prog 46 #[nv a, nv b] w (IsRet (nv (remM a b)) w) := by
  refine enter_abs Tryd.func46 rfl fun a0 hs0 hd0 hp => ?_
  have hs0 : a0.tmps.size = 52 := hs0
  have hN0 : New w w := Upd.refl _ _
  have hp0 : a0.eval (.tmp 0) = nv a := hp 0 _ rfl
  have hp1 : a0.eval (.tmp 1) = nv b := hp 1 _ rfl
  clear hp
  refine wp_seq_k fun K hK => ?_
  refine wp_g [true, true, true] [] [] 52
    [IsNew w 23 [iv a.k, iv a.n],
     IsNew w 23 [iv b.k, iv b.n],
     IsNew w 23 [iv 0, iv 0]]
    [0, 1, 2] (newsCons (fun v w h => IsNew.old h) (newsCons (fun v w h => IsNew.old h) (newsCons (fun v w h => IsNew.old h) newsNil))) hs0 (.nw (.nw (.nw (.nil)))) ?_ (fun i h => by cases h) ?_
  · skip
    refine .o2 (step_allocN (cs := [iv a.k, iv a.n]) (t := 23) rfl (noG rfl) (fun _ w hn k => v_box rfl (k.fx 0 hp0) (fun w => rfl)) (fun q _ hq hb => ⟨q, rfl, hq, hb⟩)) ?_
    refine .o2 (step_allocN (cs := [iv b.k, iv b.n]) (t := 23) rfl (noG rfl) (fun _ w hn k => v_box rfl (k.fx 1 hp1) (fun w => rfl)) (fun q _ hq hb => ⟨q, rfl, hq, hb⟩)) ?_
    refine .o2 (step_allocN (cs := [iv 0, iv 0]) (t := 23) rfl (noG rfl) (fun _ w hn k => rfl) (fun q _ hq hb => ⟨q, rfl, hq, hb⟩)) ?_
    exact .nil
  intro a1 w2 hn3 ha4
  have hs5 := ha4.size.trans hs0
  have hd6 := ha4.defers.trans hd0
  obtain ⟨q8, h7, hq9, hb10⟩ : IsNew _ _ _ _ _ := ha4.got 0 2 rfl (by kernel_rfl)
  obtain ⟨q12, h11, hq13, hb14⟩ : IsNew _ _ _ _ _ := ha4.got 1 3 rfl (by kernel_rfl)
  obtain ⟨q16, h15, hq17, hb18⟩ : IsNew _ _ _ _ _ := ha4.got 2 4 rfl (by kernel_rfl)
  have hne19 : q8 ≠ q12 := ha4.ne 0 1 2 3 h7 h11
  have hne20 : q8 ≠ q16 := ha4.ne 0 2 2 4 h7 h15
  have hne21 : q12 ≠ q16 := ha4.ne 1 2 3 4 h11 h15
  have hq22 := Nat.le_trans hN0.size hq9
  have hq23 := Nat.le_trans hN0.size hq13
  have hq24 := Nat.le_trans hN0.size hq17
  have hN25 := hN0.transNew hn3
  clear hs0 hd0 hp0 hp1 hq9 hq13 hq17 hN0 ha4 hn3
  refine st_nil ?_
  refine hK _ _ ?_
  clear hK K
  refine wp_seq_k fun K hK => ?_
  refine wp_g0 [true, true, true, true, false, false] [(4, false), (5, false)] 52
    [ve (nv a),
     ve (nv (asM a)),
     ve (nv b),
     ve (nv (asM b)),
     vt,
     vt] hs5 (.eq (.eq (.eq (.eq (.tt (.tt (.nil))))))) ?_ ?_
  · skip
    refine .o1 (tk rfl rfl fun _ w hn k => ⟨_, v_load rfl (k.fx 2 h7) (l_two Tryd.isAgg23 Tryd.sizeOf23 (hb10.new_ hn)), rfl⟩) ?_
    refine .o1 (ck rfl rfl rfl (fun _ w hn k => ⟨#[nv a], args1 (k.eq1 0 6 rfl), fun _ => by kernel_rfl, as_c a _⟩) fun _ => rfl) ?_
    refine .o1 (tk rfl rfl fun _ w hn k => ⟨_, v_load rfl (k.fx 3 h11) (l_two Tryd.isAgg23 Tryd.sizeOf23 (hb14.new_ hn)), rfl⟩) ?_
    refine .o1 (ck rfl rfl rfl (fun _ w hn k => ⟨#[nv b], args1 (k.eq1 2 8 rfl), fun _ => by kernel_rfl, as_c b _⟩) fun _ => rfl) ?_
    refine .off ?_
    refine .off ?_
    exact .nil
  intro a26 w27 hn28 ha29
  have hs30 := ha29.size.trans hs5
  have hd31 := ha29.defers.trans hd6
  have h32 := ha29.fx 2 h7
  have h33 := ha29.fx 3 h11
  have h34 := ha29.fx 4 h15
  have h35 := ha29.ge 1 7 rfl
  have h36 := ha29.ge 3 9 rfl
  have hb37 := hb10.new_ hn28
  have hb38 := hb14.new_ hn28
  have hb39 := hb18.new_ hn28
  have hN40 := hN25.transNew hn28
  clear hs5 hd6 h7 h11 h15 hb10 hb14 hb18 hN25 ha29 hn28
  have hbd_a := as_bd a
  have hbd_b := as_bd b
  obtain ⟨w41, -, hst42, hb43, hu44, hf45⟩ := s_two (v0 := iv ((asM a).k)) (v1 := iv ((asM a).n)) Tryd.sizeOf23 rfl rfl rfl hb37
  refine st_act rfl rfl fun K46 hL47 => a_store' rfl h32 h35 hst42 (hL47 _ _ trivial ?_)
  have hb48 := hf45 _ _ _ (fun h => hne19 h.symm) hb38
  have hb49 := hf45 _ _ _ (fun h => hne20 h.symm) hb39
  have hN50 := hN40.trans hu44 (fun k hk hkb => by subst hkb; omega)
  clear hb37 hst42 K46 hL47 hN40 hb38 hb39 hu44 hf45
  obtain ⟨w51, -, hst52, hb53, hu54, hf55⟩ := s_two (v0 := iv ((asM b).k)) (v1 := iv ((asM b).n)) Tryd.sizeOf23 rfl rfl rfl hb48
  refine st_act rfl rfl fun K56 hL57 => a_store' rfl h33 h36 hst52 (hL57 _ _ trivial ?_)
  have hb58 := hf55 _ _ _ (hne19) hb43
  have hb59 := hf55 _ _ _ (fun h => hne21 h.symm) hb49
  have hN60 := hN50.trans hu54 (fun k hk hkb => by subst hkb; omega)
  clear hb48 hst52 K56 hL57 hN50 hb43 hb49 hu54 hf55
  refine st_nil ?_
  clear h35 h36
  refine hK _ _ ?_
  clear hK K
  refine wp_seq_k fun K hK => ?_
  refine wp_block ?_
  refine wp_seq_k fun K hK => ?_
  rcases Bool.eq_false_or_eq_true (decide (((asM a).k) = 2)) with ht61 | ht61
  · skip
    have ht61d := of_decide_eq_true ht61
    refine wp_g0 [true, true, true, true, true, true, true, true, true, true, true, true, true, true, true] [] 52
      [ve (nv (asM a)),
       ve (.bool true),
       ve (.bool true),
       ve undef,
       ve undef,
       ve (.bool true),
       ve (.bool true),
       ve undef,
       ve undef,
       ve (.bool true),
       ve (.bool true),
       ve undef,
       ve undef,
       ve (.bool true),
       ve (.bool true)] hs30 (.eq (.eq (.eq (.eq (.eq (.eq (.eq (.eq (.eq (.eq (.eq (.eq (.eq (.eq (.eq (.nil)))))))))))))))) ?_ ?_
    · skip
      refine .o1 (tk rfl rfl fun _ w hn k => ⟨_, v_load rfl (k.fx 2 h32) (l_two Tryd.isAgg23 Tryd.sizeOf23 (hb58.new_ hn)), rfl⟩) ?_
      refine .o1 (ck rfl rfl rfl (fun _ w hn k => ⟨#[nv (asM a)], args1 (k.eq1 0 11 rfl), fun _ => by kernel_rfl, isNaN_c (asM a) _⟩) fun _ => congrArg Value.bool ht61) ?_
      refine .o1 (tk rfl rfl fun _ w hn k => ⟨_, v_move rfl (k.eq1 1 12 rfl), rfl⟩) ?_
      refine .o1 (sk rfl rfl rfl (fun _ _ _ k => k.eq1 2 13 rfl) (fun _ => rfl)) ?_
      refine .o1 (sk rfl rfl rfl (fun _ _ _ k => k.eq1 2 13 rfl) (fun _ => rfl)) ?_
      refine .o1 (tk rfl rfl fun _ w hn k => ⟨_, v_pickT rfl (k.eq1 2 13 rfl) rfl, rfl⟩) ?_
      refine .o1 (tk rfl rfl fun _ w hn k => ⟨_, v_move rfl (k.eq1 5 16 rfl), rfl⟩) ?_
      refine .o1 (sk rfl rfl rfl (fun _ _ _ k => k.eq1 6 17 rfl) (fun _ => rfl)) ?_
      refine .o1 (sk rfl rfl rfl (fun _ _ _ k => k.eq1 6 17 rfl) (fun _ => rfl)) ?_
      refine .o1 (tk rfl rfl fun _ w hn k => ⟨_, v_pickT rfl (k.eq1 6 17 rfl) rfl, rfl⟩) ?_
      refine .o1 (tk rfl rfl fun _ w hn k => ⟨_, v_move rfl (k.eq1 9 20 rfl), rfl⟩) ?_
      refine .o1 (sk rfl rfl rfl (fun _ _ _ k => k.eq1 10 21 rfl) (fun _ => rfl)) ?_
      refine .o1 (sk rfl rfl rfl (fun _ _ _ k => k.eq1 10 21 rfl) (fun _ => rfl)) ?_
      refine .o1 (tk rfl rfl fun _ w hn k => ⟨_, v_pickT rfl (k.eq1 10 21 rfl) rfl, rfl⟩) ?_
      refine .o1 (tk rfl rfl fun _ w hn k => ⟨_, v_assign rfl (k.eq1 13 24 rfl), rfl⟩) ?_
      exact .nil
    intro a62 w63 hn64 ha65
    have hs66 := ha65.size.trans hs30
    have hd67 := ha65.defers.trans hd31
    have h68 := ha65.fx 2 h32
    have h69 := ha65.fx 3 h33
    have h70 := ha65.fx 4 h34
    have h71 := ha65.ge 14 10 rfl
    have hb72 := hb58.new_ hn64
    have hb73 := hb53.new_ hn64
    have hb74 := hb59.new_ hn64
    have hN75 := hN60.transNew hn64
    clear hs30 hd31 h32 h33 h34 hb58 hb53 hb59 hN60 ha65 hn64
    refine st_nil ?_
    refine hK _ _ ?_
    clear hK K
    refine wp_cond_true h71 ?_
    refine wp_seq_k fun K hK => ?_
    refine wp_g0 [true, false] [(1, false)] 52
      [ve (nv (Nm.mk 2 0)),
       vt] hs66 (.eq (.tt (.nil))) ?_ ?_
    · skip
      refine .o1 (ck rfl rfl rfl (fun _ w hn k => ⟨#[], rfl, fun _ => by kernel_rfl, nan_c  _⟩) fun _ => rfl) ?_
      refine .off ?_
      exact .nil
    intro a76 w77 hn78 ha79
    have hs80 := ha79.size.trans hs66
    have hd81 := ha79.defers.trans hd67
    have h82 := ha79.fx 2 h68
    have h83 := ha79.fx 3 h69
    have h84 := ha79.fx 4 h70
    have h85 := ha79.ge 0 25 rfl
    have hb86 := hb72.new_ hn78
    have hb87 := hb73.new_ hn78
    have hb88 := hb74.new_ hn78
    have hN89 := hN75.transNew hn78
    clear hs66 hd67 h68 h69 h70 h71 hb72 hb73 hb74 hN75 ha79 hn78
    obtain ⟨w90, -, hst91, hb92, hu93, hf94⟩ := s_two (v0 := iv 2) (v1 := iv 0) Tryd.sizeOf23 rfl rfl rfl hb88
    refine st_act rfl rfl fun K95 hL96 => a_store' rfl h84 h85 hst91 (hL96 _ _ trivial ?_)
    have hb97 := hf94 _ _ _ (hne20) hb86
    have hb98 := hf94 _ _ _ (hne21) hb87
    have hN99 := hN89.trans hu93 (fun k hk hkb => by subst hkb; omega)
    clear hb88 hst91 K95 hL96 hN89 hb86 hb87 hu93 hf94
    refine st_nil ?_
    clear h85
    refine hK _ _ ?_
    clear hK K
    refine wp_ret (ret_k hd81 (v := nv (Nm.mk 2 0)) (res_c rfl h84 (l_two Tryd.isAgg23 Tryd.sizeOf23 hb92)) ?_)
    refine ⟨?_, hN99⟩
    show Ending.returned (nv (Nm.mk 2 0)) = Ending.returned (nv (remM a b))
    first | rfl | (simp [remM, remA, ht61])
  have ht61d := of_decide_eq_false ht61
  rcases Bool.eq_false_or_eq_true (decide (((asM b).k) = 2)) with ht100 | ht100
  · skip
    have ht100d := of_decide_eq_true ht100
    refine wp_g0 [true, true, true, true, true, true, true, true, true, true, true, true, true, true, true] [] 52
      [ve (nv (asM a)),
       ve (.bool false),
       ve (.bool false),
       ve (nv (asM b)),
       ve (.bool true),
       ve (.bool true),
       ve (.bool true),
       ve undef,
       ve undef,
       ve (.bool true),
       ve (.bool true),
       ve undef,
       ve undef,
       ve (.bool true),
       ve (.bool true)] hs30 (.eq (.eq (.eq (.eq (.eq (.eq (.eq (.eq (.eq (.eq (.eq (.eq (.eq (.eq (.eq (.nil)))))))))))))))) ?_ ?_
    · skip
      refine .o1 (tk rfl rfl fun _ w hn k => ⟨_, v_load rfl (k.fx 2 h32) (l_two Tryd.isAgg23 Tryd.sizeOf23 (hb58.new_ hn)), rfl⟩) ?_
      refine .o1 (ck rfl rfl rfl (fun _ w hn k => ⟨#[nv (asM a)], args1 (k.eq1 0 11 rfl), fun _ => by kernel_rfl, isNaN_c (asM a) _⟩) fun _ => congrArg Value.bool ht61) ?_
      refine .o1 (tk rfl rfl fun _ w hn k => ⟨_, v_move rfl (k.eq1 1 12 rfl), rfl⟩) ?_
      refine .o1 (tg rfl rfl rfl (fun _ _ k => k.eq1 2 13 rfl) fun _ w hn k => ⟨_, v_load rfl (k.fx 3 h33) (l_two Tryd.isAgg23 Tryd.sizeOf23 (hb53.new_ hn)), rfl⟩) ?_
      refine .o1 (cg rfl rfl rfl (fun _ _ k => k.eq1 2 13 rfl) rfl (fun _ w hn k => ⟨#[nv (asM b)], args1 (k.eq1 3 14 rfl), fun _ => by kernel_rfl, isNaN_c (asM b) _⟩) fun _ => congrArg Value.bool ht100) ?_
      refine .o1 (tk rfl rfl fun _ w hn k => ⟨_, v_pickF rfl (k.eq1 2 13 rfl) (k.eq1 4 15 rfl), rfl⟩) ?_
      refine .o1 (tk rfl rfl fun _ w hn k => ⟨_, v_move rfl (k.eq1 5 16 rfl), rfl⟩) ?_
      refine .o1 (sk rfl rfl rfl (fun _ _ _ k => k.eq1 6 17 rfl) (fun _ => rfl)) ?_
      refine .o1 (sk rfl rfl rfl (fun _ _ _ k => k.eq1 6 17 rfl) (fun _ => rfl)) ?_
      refine .o1 (tk rfl rfl fun _ w hn k => ⟨_, v_pickT rfl (k.eq1 6 17 rfl) rfl, rfl⟩) ?_
      refine .o1 (tk rfl rfl fun _ w hn k => ⟨_, v_move rfl (k.eq1 9 20 rfl), rfl⟩) ?_
      refine .o1 (sk rfl rfl rfl (fun _ _ _ k => k.eq1 10 21 rfl) (fun _ => rfl)) ?_
      refine .o1 (sk rfl rfl rfl (fun _ _ _ k => k.eq1 10 21 rfl) (fun _ => rfl)) ?_
      refine .o1 (tk rfl rfl fun _ w hn k => ⟨_, v_pickT rfl (k.eq1 10 21 rfl) rfl, rfl⟩) ?_
      refine .o1 (tk rfl rfl fun _ w hn k => ⟨_, v_assign rfl (k.eq1 13 24 rfl), rfl⟩) ?_
      exact .nil
    intro a101 w102 hn103 ha104
    have hs105 := ha104.size.trans hs30
    have hd106 := ha104.defers.trans hd31
    have h107 := ha104.fx 2 h32
    have h108 := ha104.fx 3 h33
    have h109 := ha104.fx 4 h34
    have h110 := ha104.ge 14 10 rfl
    have hb111 := hb58.new_ hn103
    have hb112 := hb53.new_ hn103
    have hb113 := hb59.new_ hn103
    have hN114 := hN60.transNew hn103
    clear hs30 hd31 h32 h33 h34 hb58 hb53 hb59 hN60 ha104 hn103
    refine st_nil ?_
    refine hK _ _ ?_
    clear hK K
    refine wp_cond_true h110 ?_
    refine wp_seq_k fun K hK => ?_
    refine wp_g0 [true, false] [(1, false)] 52
      [ve (nv (Nm.mk 2 0)),
       vt] hs105 (.eq (.tt (.nil))) ?_ ?_
    · skip
      refine .o1 (ck rfl rfl rfl (fun _ w hn k => ⟨#[], rfl, fun _ => by kernel_rfl, nan_c  _⟩) fun _ => rfl) ?_
      refine .off ?_
      exact .nil
    intro a115 w116 hn117 ha118
    have hs119 := ha118.size.trans hs105
    have hd120 := ha118.defers.trans hd106
    have h121 := ha118.fx 2 h107
    have h122 := ha118.fx 3 h108
    have h123 := ha118.fx 4 h109
    have h124 := ha118.ge 0 25 rfl
    have hb125 := hb111.new_ hn117
    have hb126 := hb112.new_ hn117
    have hb127 := hb113.new_ hn117
    have hN128 := hN114.transNew hn117
    clear hs105 hd106 h107 h108 h109 h110 hb111 hb112 hb113 hN114 ha118 hn117
    obtain ⟨w129, -, hst130, hb131, hu132, hf133⟩ := s_two (v0 := iv 2) (v1 := iv 0) Tryd.sizeOf23 rfl rfl rfl hb127
    refine st_act rfl rfl fun K134 hL135 => a_store' rfl h123 h124 hst130 (hL135 _ _ trivial ?_)
    have hb136 := hf133 _ _ _ (hne20) hb125
    have hb137 := hf133 _ _ _ (hne21) hb126
    have hN138 := hN128.trans hu132 (fun k hk hkb => by subst hkb; omega)
    clear hb127 hst130 K134 hL135 hN128 hb125 hb126 hu132 hf133
    refine st_nil ?_
    clear h124
    refine hK _ _ ?_
    clear hK K
    refine wp_ret (ret_k hd120 (v := nv (Nm.mk 2 0)) (res_c rfl h123 (l_two Tryd.isAgg23 Tryd.sizeOf23 hb131)) ?_)
    refine ⟨?_, hN138⟩
    show Ending.returned (nv (Nm.mk 2 0)) = Ending.returned (nv (remM a b))
    first | rfl | (simp [remM, remA, ht61, ht100])
  have ht100d := of_decide_eq_false ht100
  rcases Bool.eq_false_or_eq_true (infB ((asM a).k)) with ht139 | ht139
  · skip
    refine wp_g0 [true, true, true, true, true, true, true, true, true, true, true, true, true, true, true] [] 52
      [ve (nv (asM a)),
       ve (.bool false),
       ve (.bool false),
       ve (nv (asM b)),
       ve (.bool false),
       ve (.bool false),
       ve (.bool false),
       ve (nv (asM a)),
       ve (.bool true),
       ve (.bool true),
       ve (.bool true),
       ve undef,
       ve undef,
       ve (.bool true),
       ve (.bool true)] hs30 (.eq (.eq (.eq (.eq (.eq (.eq (.eq (.eq (.eq (.eq (.eq (.eq (.eq (.eq (.eq (.nil)))))))))))))))) ?_ ?_
    · skip
      refine .o1 (tk rfl rfl fun _ w hn k => ⟨_, v_load rfl (k.fx 2 h32) (l_two Tryd.isAgg23 Tryd.sizeOf23 (hb58.new_ hn)), rfl⟩) ?_
      refine .o1 (ck rfl rfl rfl (fun _ w hn k => ⟨#[nv (asM a)], args1 (k.eq1 0 11 rfl), fun _ => by kernel_rfl, isNaN_c (asM a) _⟩) fun _ => congrArg Value.bool ht61) ?_
      refine .o1 (tk rfl rfl fun _ w hn k => ⟨_, v_move rfl (k.eq1 1 12 rfl), rfl⟩) ?_
      refine .o1 (tg rfl rfl rfl (fun _ _ k => k.eq1 2 13 rfl) fun _ w hn k => ⟨_, v_load rfl (k.fx 3 h33) (l_two Tryd.isAgg23 Tryd.sizeOf23 (hb53.new_ hn)), rfl⟩) ?_
      refine .o1 (cg rfl rfl rfl (fun _ _ k => k.eq1 2 13 rfl) rfl (fun _ w hn k => ⟨#[nv (asM b)], args1 (k.eq1 3 14 rfl), fun _ => by kernel_rfl, isNaN_c (asM b) _⟩) fun _ => congrArg Value.bool ht100) ?_
      refine .o1 (tk rfl rfl fun _ w hn k => ⟨_, v_pickF rfl (k.eq1 2 13 rfl) (k.eq1 4 15 rfl), rfl⟩) ?_
      refine .o1 (tk rfl rfl fun _ w hn k => ⟨_, v_move rfl (k.eq1 5 16 rfl), rfl⟩) ?_
      refine .o1 (tg rfl rfl rfl (fun _ _ k => k.eq1 6 17 rfl) fun _ w hn k => ⟨_, v_load rfl (k.fx 2 h32) (l_two Tryd.isAgg23 Tryd.sizeOf23 (hb58.new_ hn)), rfl⟩) ?_
      refine .o1 (cg rfl rfl rfl (fun _ _ k => k.eq1 6 17 rfl) rfl (fun _ w hn k => ⟨#[nv (asM a)], args1 (k.eq1 7 18 rfl), fun _ => by kernel_rfl, isInf_c (asM a) _⟩) fun _ => congrArg Value.bool ht139) ?_
      refine .o1 (tk rfl rfl fun _ w hn k => ⟨_, v_pickF rfl (k.eq1 6 17 rfl) (k.eq1 8 19 rfl), rfl⟩) ?_
      refine .o1 (tk rfl rfl fun _ w hn k => ⟨_, v_move rfl (k.eq1 9 20 rfl), rfl⟩) ?_
      refine .o1 (sk rfl rfl rfl (fun _ _ _ k => k.eq1 10 21 rfl) (fun _ => rfl)) ?_
      refine .o1 (sk rfl rfl rfl (fun _ _ _ k => k.eq1 10 21 rfl) (fun _ => rfl)) ?_
      refine .o1 (tk rfl rfl fun _ w hn k => ⟨_, v_pickT rfl (k.eq1 10 21 rfl) rfl, rfl⟩) ?_
      refine .o1 (tk rfl rfl fun _ w hn k => ⟨_, v_assign rfl (k.eq1 13 24 rfl), rfl⟩) ?_
      exact .nil
    intro a140 w141 hn142 ha143
    have hs144 := ha143.size.trans hs30
    have hd145 := ha143.defers.trans hd31
    have h146 := ha143.fx 2 h32
    have h147 := ha143.fx 3 h33
    have h148 := ha143.fx 4 h34
    have h149 := ha143.ge 14 10 rfl
    have hb150 := hb58.new_ hn142
    have hb151 := hb53.new_ hn142
    have hb152 := hb59.new_ hn142
    have hN153 := hN60.transNew hn142
    clear hs30 hd31 h32 h33 h34 hb58 hb53 hb59 hN60 ha143 hn142
    refine st_nil ?_
    refine hK _ _ ?_
    clear hK K
    refine wp_cond_true h149 ?_
    refine wp_seq_k fun K hK => ?_
    refine wp_g0 [true, false] [(1, false)] 52
      [ve (nv (Nm.mk 2 0)),
       vt] hs144 (.eq (.tt (.nil))) ?_ ?_
    · skip
      refine .o1 (ck rfl rfl rfl (fun _ w hn k => ⟨#[], rfl, fun _ => by kernel_rfl, nan_c  _⟩) fun _ => rfl) ?_
      refine .off ?_
      exact .nil
    intro a154 w155 hn156 ha157
    have hs158 := ha157.size.trans hs144
    have hd159 := ha157.defers.trans hd145
    have h160 := ha157.fx 2 h146
    have h161 := ha157.fx 3 h147
    have h162 := ha157.fx 4 h148
    have h163 := ha157.ge 0 25 rfl
    have hb164 := hb150.new_ hn156
    have hb165 := hb151.new_ hn156
    have hb166 := hb152.new_ hn156
    have hN167 := hN153.transNew hn156
    clear hs144 hd145 h146 h147 h148 h149 hb150 hb151 hb152 hN153 ha157 hn156
    obtain ⟨w168, -, hst169, hb170, hu171, hf172⟩ := s_two (v0 := iv 2) (v1 := iv 0) Tryd.sizeOf23 rfl rfl rfl hb166
    refine st_act rfl rfl fun K173 hL174 => a_store' rfl h162 h163 hst169 (hL174 _ _ trivial ?_)
    have hb175 := hf172 _ _ _ (hne20) hb164
    have hb176 := hf172 _ _ _ (hne21) hb165
    have hN177 := hN167.trans hu171 (fun k hk hkb => by subst hkb; omega)
    clear hb166 hst169 K173 hL174 hN167 hb164 hb165 hu171 hf172
    refine st_nil ?_
    clear h163
    refine hK _ _ ?_
    clear hK K
    refine wp_ret (ret_k hd159 (v := nv (Nm.mk 2 0)) (res_c rfl h162 (l_two Tryd.isAgg23 Tryd.sizeOf23 hb170)) ?_)
    refine ⟨?_, hN177⟩
    show Ending.returned (nv (Nm.mk 2 0)) = Ending.returned (nv (remM a b))
    first | rfl | (simp [remM, remA, ht61, ht100, ht139])
  refine wp_g0 [true, true, true, true, true, true, true, true, true, true, true, true, true, true, true] [] 52
    [ve (nv (asM a)),
     ve (.bool false),
     ve (.bool false),
     ve (nv (asM b)),
     ve (.bool false),
     ve (.bool false),
     ve (.bool false),
     ve (nv (asM a)),
     ve (.bool false),
     ve (.bool false),
     ve (.bool false),
     ve (nv (asM b)),
     ve (.bool (noughtB (asM b))),
     ve (.bool (noughtB (asM b))),
     ve (.bool (noughtB (asM b)))] hs30 (.eq (.eq (.eq (.eq (.eq (.eq (.eq (.eq (.eq (.eq (.eq (.eq (.eq (.eq (.eq (.nil)))))))))))))))) ?_ ?_
  · skip
    refine .o1 (tk rfl rfl fun _ w hn k => ⟨_, v_load rfl (k.fx 2 h32) (l_two Tryd.isAgg23 Tryd.sizeOf23 (hb58.new_ hn)), rfl⟩) ?_
    refine .o1 (ck rfl rfl rfl (fun _ w hn k => ⟨#[nv (asM a)], args1 (k.eq1 0 11 rfl), fun _ => by kernel_rfl, isNaN_c (asM a) _⟩) fun _ => congrArg Value.bool ht61) ?_
    refine .o1 (tk rfl rfl fun _ w hn k => ⟨_, v_move rfl (k.eq1 1 12 rfl), rfl⟩) ?_
    refine .o1 (tg rfl rfl rfl (fun _ _ k => k.eq1 2 13 rfl) fun _ w hn k => ⟨_, v_load rfl (k.fx 3 h33) (l_two Tryd.isAgg23 Tryd.sizeOf23 (hb53.new_ hn)), rfl⟩) ?_
    refine .o1 (cg rfl rfl rfl (fun _ _ k => k.eq1 2 13 rfl) rfl (fun _ w hn k => ⟨#[nv (asM b)], args1 (k.eq1 3 14 rfl), fun _ => by kernel_rfl, isNaN_c (asM b) _⟩) fun _ => congrArg Value.bool ht100) ?_
    refine .o1 (tk rfl rfl fun _ w hn k => ⟨_, v_pickF rfl (k.eq1 2 13 rfl) (k.eq1 4 15 rfl), rfl⟩) ?_
    refine .o1 (tk rfl rfl fun _ w hn k => ⟨_, v_move rfl (k.eq1 5 16 rfl), rfl⟩) ?_
    refine .o1 (tg rfl rfl rfl (fun _ _ k => k.eq1 6 17 rfl) fun _ w hn k => ⟨_, v_load rfl (k.fx 2 h32) (l_two Tryd.isAgg23 Tryd.sizeOf23 (hb58.new_ hn)), rfl⟩) ?_
    refine .o1 (cg rfl rfl rfl (fun _ _ k => k.eq1 6 17 rfl) rfl (fun _ w hn k => ⟨#[nv (asM a)], args1 (k.eq1 7 18 rfl), fun _ => by kernel_rfl, isInf_c (asM a) _⟩) fun _ => congrArg Value.bool ht139) ?_
    refine .o1 (tk rfl rfl fun _ w hn k => ⟨_, v_pickF rfl (k.eq1 6 17 rfl) (k.eq1 8 19 rfl), rfl⟩) ?_
    refine .o1 (tk rfl rfl fun _ w hn k => ⟨_, v_move rfl (k.eq1 9 20 rfl), rfl⟩) ?_
    refine .o1 (tg rfl rfl rfl (fun _ _ k => k.eq1 10 21 rfl) fun _ w hn k => ⟨_, v_load rfl (k.fx 3 h33) (l_two Tryd.isAgg23 Tryd.sizeOf23 (hb53.new_ hn)), rfl⟩) ?_
    refine .o1 (cg rfl rfl rfl (fun _ _ k => k.eq1 10 21 rfl) rfl (fun _ w hn k => ⟨#[nv (asM b)], args1 (k.eq1 11 22 rfl), fun _ => by kernel_rfl, isNought_c (asM b) _⟩) fun _ => rfl) ?_
    refine .o1 (tk rfl rfl fun _ w hn k => ⟨_, v_pickF rfl (k.eq1 10 21 rfl) (k.eq1 12 23 rfl), rfl⟩) ?_
    refine .o1 (tk rfl rfl fun _ w hn k => ⟨_, v_assign rfl (k.eq1 13 24 rfl), rfl⟩) ?_
    exact .nil
  intro a178 w179 hn180 ha181
  have hs182 := ha181.size.trans hs30
  have hd183 := ha181.defers.trans hd31
  have h184 := ha181.fx 2 h32
  have h185 := ha181.fx 3 h33
  have h186 := ha181.fx 4 h34
  have h187 := ha181.ge 14 10 rfl
  have hb188 := hb58.new_ hn180
  have hb189 := hb53.new_ hn180
  have hb190 := hb59.new_ hn180
  have hN191 := hN60.transNew hn180
  clear hs30 hd31 h32 h33 h34 hb58 hb53 hb59 hN60 ha181 hn180
  refine st_nil ?_
  refine hK _ _ ?_
  clear hK K
  rcases Bool.eq_false_or_eq_true (noughtB (asM b)) with ht192 | ht192
  · skip
    have hv193 : a178.eval (.tmp 10) = .bool true := h187.trans (congrArg Value.bool ht192)
    clear h187
    refine wp_cond_true hv193 ?_
    refine wp_seq_k fun K hK => ?_
    refine wp_g0 [true, false] [(1, false)] 52
      [ve (nv (Nm.mk 2 0)),
       vt] hs182 (.eq (.tt (.nil))) ?_ ?_
    · skip
      refine .o1 (ck rfl rfl rfl (fun _ w hn k => ⟨#[], rfl, fun _ => by kernel_rfl, nan_c  _⟩) fun _ => rfl) ?_
      refine .off ?_
      exact .nil
    intro a194 w195 hn196 ha197
    have hs198 := ha197.size.trans hs182
    have hd199 := ha197.defers.trans hd183
    have h200 := ha197.fx 2 h184
    have h201 := ha197.fx 3 h185
    have h202 := ha197.fx 4 h186
    have h203 := ha197.ge 0 25 rfl
    have hb204 := hb188.new_ hn196
    have hb205 := hb189.new_ hn196
    have hb206 := hb190.new_ hn196
    have hN207 := hN191.transNew hn196
    clear hs182 hd183 h184 h185 h186 hv193 hb188 hb189 hb190 hN191 ha197 hn196
    obtain ⟨w208, -, hst209, hb210, hu211, hf212⟩ := s_two (v0 := iv 2) (v1 := iv 0) Tryd.sizeOf23 rfl rfl rfl hb206
    refine st_act rfl rfl fun K213 hL214 => a_store' rfl h202 h203 hst209 (hL214 _ _ trivial ?_)
    have hb215 := hf212 _ _ _ (hne20) hb204
    have hb216 := hf212 _ _ _ (hne21) hb205
    have hN217 := hN207.trans hu211 (fun k hk hkb => by subst hkb; omega)
    clear hb206 hst209 K213 hL214 hN207 hb204 hb205 hu211 hf212
    refine st_nil ?_
    clear h203
    refine hK _ _ ?_
    clear hK K
    refine wp_ret (ret_k hd199 (v := nv (Nm.mk 2 0)) (res_c rfl h202 (l_two Tryd.isAgg23 Tryd.sizeOf23 hb210)) ?_)
    refine ⟨?_, hN217⟩
    show Ending.returned (nv (Nm.mk 2 0)) = Ending.returned (nv (remM a b))
    first | rfl | (simp [remM, remA, ht61, ht100, ht139, ht192])
  have hv218 : a178.eval (.tmp 10) = .bool false := h187.trans (congrArg Value.bool ht192)
  clear h187
  refine wp_cond_false hv218 ?_
  refine wp_seq_k fun K hK => ?_
  rcases Bool.eq_false_or_eq_true (infB ((asM b).k)) with ht219 | ht219
  · skip
    refine wp_g0 [true, true, true, true, true, true, true] [] 52
      [ve (nv (asM b)),
       ve (.bool true),
       ve (.bool true),
       ve undef,
       ve undef,
       ve (.bool true),
       ve (.bool true)] hs182 (.eq (.eq (.eq (.eq (.eq (.eq (.eq (.nil)))))))) ?_ ?_
    · skip
      refine .o1 (tk rfl rfl fun _ w hn k => ⟨_, v_load rfl (k.fx 3 h185) (l_two Tryd.isAgg23 Tryd.sizeOf23 (hb189.new_ hn)), rfl⟩) ?_
      refine .o1 (ck rfl rfl rfl (fun _ w hn k => ⟨#[nv (asM b)], args1 (k.eq1 0 27 rfl), fun _ => by kernel_rfl, isInf_c (asM b) _⟩) fun _ => congrArg Value.bool ht219) ?_
      refine .o1 (tk rfl rfl fun _ w hn k => ⟨_, v_move rfl (k.eq1 1 28 rfl), rfl⟩) ?_
      refine .o1 (sk rfl rfl rfl (fun _ _ _ k => k.eq1 2 29 rfl) (fun _ => rfl)) ?_
      refine .o1 (sk rfl rfl rfl (fun _ _ _ k => k.eq1 2 29 rfl) (fun _ => rfl)) ?_
      refine .o1 (tk rfl rfl fun _ w hn k => ⟨_, v_pickT rfl (k.eq1 2 29 rfl) rfl, rfl⟩) ?_
      refine .o1 (tk rfl rfl fun _ w hn k => ⟨_, v_assign rfl (k.eq1 5 32 rfl), rfl⟩) ?_
      exact .nil
    intro a220 w221 hn222 ha223
    have hs224 := ha223.size.trans hs182
    have hd225 := ha223.defers.trans hd183
    have h226 := ha223.fx 2 h184
    have h227 := ha223.fx 3 h185
    have h228 := ha223.fx 4 h186
    have h229 := ha223.ge 6 26 rfl
    have hb230 := hb188.new_ hn222
    have hb231 := hb189.new_ hn222
    have hb232 := hb190.new_ hn222
    have hN233 := hN191.transNew hn222
    clear hs182 hd183 h184 h185 h186 hv218 hb188 hb189 hb190 hN191 ha223 hn222
    refine st_nil ?_
    refine hK _ _ ?_
    clear hK K
    refine wp_cond_true h229 ?_
    refine wp_seq_k fun K hK => ?_
    refine wp_g0 [true, false] [(1, false)] 52
      [ve (nv (asM a)),
       vt] hs224 (.eq (.tt (.nil))) ?_ ?_
    · skip
      refine .o1 (tk rfl rfl fun _ w hn k => ⟨_, v_load rfl (k.fx 2 h226) (l_two Tryd.isAgg23 Tryd.sizeOf23 (hb230.new_ hn)), rfl⟩) ?_
      refine .off ?_
      exact .nil
    intro a234 w235 hn236 ha237
    have hs238 := ha237.size.trans hs224
    have hd239 := ha237.defers.trans hd225
    have h240 := ha237.fx 2 h226
    have h241 := ha237.fx 3 h227
    have h242 := ha237.fx 4 h228
    have h243 := ha237.ge 0 33 rfl
    have hb244 := hb230.new_ hn236
    have hb245 := hb231.new_ hn236
    have hb246 := hb232.new_ hn236
    have hN247 := hN233.transNew hn236
    clear hs224 hd225 h226 h227 h228 h229 hb230 hb231 hb232 hN233 ha237 hn236
    obtain ⟨w248, -, hst249, hb250, hu251, hf252⟩ := s_two (v0 := iv ((asM a).k)) (v1 := iv ((asM a).n)) Tryd.sizeOf23 rfl rfl rfl hb246
    refine st_act rfl rfl fun K253 hL254 => a_store' rfl h242 h243 hst249 (hL254 _ _ trivial ?_)
    have hb255 := hf252 _ _ _ (hne20) hb244
    have hb256 := hf252 _ _ _ (hne21) hb245
    have hN257 := hN247.trans hu251 (fun k hk hkb => by subst hkb; omega)
    clear hb246 hst249 K253 hL254 hN247 hb244 hb245 hu251 hf252
    refine st_nil ?_
    clear h243
    refine hK _ _ ?_
    clear hK K
    refine wp_ret (ret_k hd239 (v := nv (asM a)) (res_c rfl h242 (l_two Tryd.isAgg23 Tryd.sizeOf23 hb250)) ?_)
    refine ⟨?_, hN257⟩
    show Ending.returned (nv (asM a)) = Ending.returned (nv (remM a b))
    first | rfl | (simp [remM, remA, ht61, ht100, ht139, ht192, ht219])
  refine wp_g0 [true, true, true, true, true, true, true] [] 52
    [ve (nv (asM b)),
     ve (.bool false),
     ve (.bool false),
     ve (nv (asM a)),
     ve (.bool (noughtB (asM a))),
     ve (.bool (noughtB (asM a))),
     ve (.bool (noughtB (asM a)))] hs182 (.eq (.eq (.eq (.eq (.eq (.eq (.eq (.nil)))))))) ?_ ?_
  · skip
    refine .o1 (tk rfl rfl fun _ w hn k => ⟨_, v_load rfl (k.fx 3 h185) (l_two Tryd.isAgg23 Tryd.sizeOf23 (hb189.new_ hn)), rfl⟩) ?_
    refine .o1 (ck rfl rfl rfl (fun _ w hn k => ⟨#[nv (asM b)], args1 (k.eq1 0 27 rfl), fun _ => by kernel_rfl, isInf_c (asM b) _⟩) fun _ => congrArg Value.bool ht219) ?_
    refine .o1 (tk rfl rfl fun _ w hn k => ⟨_, v_move rfl (k.eq1 1 28 rfl), rfl⟩) ?_
    refine .o1 (tg rfl rfl rfl (fun _ _ k => k.eq1 2 29 rfl) fun _ w hn k => ⟨_, v_load rfl (k.fx 2 h184) (l_two Tryd.isAgg23 Tryd.sizeOf23 (hb188.new_ hn)), rfl⟩) ?_
    refine .o1 (cg rfl rfl rfl (fun _ _ k => k.eq1 2 29 rfl) rfl (fun _ w hn k => ⟨#[nv (asM a)], args1 (k.eq1 3 30 rfl), fun _ => by kernel_rfl, isNought_c (asM a) _⟩) fun _ => rfl) ?_
    refine .o1 (tk rfl rfl fun _ w hn k => ⟨_, v_pickF rfl (k.eq1 2 29 rfl) (k.eq1 4 31 rfl), rfl⟩) ?_
    refine .o1 (tk rfl rfl fun _ w hn k => ⟨_, v_assign rfl (k.eq1 5 32 rfl), rfl⟩) ?_
    exact .nil
  intro a258 w259 hn260 ha261
  have hs262 := ha261.size.trans hs182
  have hd263 := ha261.defers.trans hd183
  have h264 := ha261.fx 2 h184
  have h265 := ha261.fx 3 h185
  have h266 := ha261.fx 4 h186
  have h267 := ha261.ge 6 26 rfl
  have hb268 := hb188.new_ hn260
  have hb269 := hb189.new_ hn260
  have hb270 := hb190.new_ hn260
  have hN271 := hN191.transNew hn260
  clear hs182 hd183 h184 h185 h186 hv218 hb188 hb189 hb190 hN191 ha261 hn260
  refine st_nil ?_
  refine hK _ _ ?_
  clear hK K
  rcases Bool.eq_false_or_eq_true (noughtB (asM a)) with ht272 | ht272
  · skip
    have hv273 : a258.eval (.tmp 26) = .bool true := h267.trans (congrArg Value.bool ht272)
    clear h267
    refine wp_cond_true hv273 ?_
    refine wp_seq_k fun K hK => ?_
    refine wp_g0 [true, false] [(1, false)] 52
      [ve (nv (asM a)),
       vt] hs262 (.eq (.tt (.nil))) ?_ ?_
    · skip
      refine .o1 (tk rfl rfl fun _ w hn k => ⟨_, v_load rfl (k.fx 2 h264) (l_two Tryd.isAgg23 Tryd.sizeOf23 (hb268.new_ hn)), rfl⟩) ?_
      refine .off ?_
      exact .nil
    intro a274 w275 hn276 ha277
    have hs278 := ha277.size.trans hs262
    have hd279 := ha277.defers.trans hd263
    have h280 := ha277.fx 2 h264
    have h281 := ha277.fx 3 h265
    have h282 := ha277.fx 4 h266
    have h283 := ha277.ge 0 33 rfl
    have hb284 := hb268.new_ hn276
    have hb285 := hb269.new_ hn276
    have hb286 := hb270.new_ hn276
    have hN287 := hN271.transNew hn276
    clear hs262 hd263 h264 h265 h266 hv273 hb268 hb269 hb270 hN271 ha277 hn276
    obtain ⟨w288, -, hst289, hb290, hu291, hf292⟩ := s_two (v0 := iv ((asM a).k)) (v1 := iv ((asM a).n)) Tryd.sizeOf23 rfl rfl rfl hb286
    refine st_act rfl rfl fun K293 hL294 => a_store' rfl h282 h283 hst289 (hL294 _ _ trivial ?_)
    have hb295 := hf292 _ _ _ (hne20) hb284
    have hb296 := hf292 _ _ _ (hne21) hb285
    have hN297 := hN287.trans hu291 (fun k hk hkb => by subst hkb; omega)
    clear hb286 hst289 K293 hL294 hN287 hb284 hb285 hu291 hf292
    refine st_nil ?_
    clear h283
    refine hK _ _ ?_
    clear hK K
    refine wp_ret (ret_k hd279 (v := nv (asM a)) (res_c rfl h282 (l_two Tryd.isAgg23 Tryd.sizeOf23 hb290)) ?_)
    refine ⟨?_, hN297⟩
    show Ending.returned (nv (asM a)) = Ending.returned (nv (remM a b))
    first | rfl | (simp [remM, remA, ht61, ht100, ht139, ht192, ht219, ht272])
  have hv298 : a258.eval (.tmp 26) = .bool false := h267.trans (congrArg Value.bool ht272)
  clear h267
  refine wp_cond_false hv298 ?_
  refine wp_skip ?_
  refine hK _ _ ?_
  clear hK K
  refine wp_seq_k fun K hK => ?_
  have hw_a := whole_of (a := a) ht61 ht139 ht272
  have hsz_a := size_bd a
  have hnz_a := size_nz hw_a.2
  have hw_b := whole_of (a := b) ht100 ht219 ht192
  have hsz_b := size_bd b
  have hnz_b := size_nz hw_b.2
  have htm := tmod_bd (y := sizeI (asM b).n) hsz_a.1 (by omega)
  refine wp_g0 [true, true, true, true, true, true, true, true] [] 52
    [ve (.pointer (some ⟨q8, 1, none⟩)),
     ve (iv ((asM a).n)),
     ve (.int .u64 (sizeI ((asM a).n))),
     ve (.pointer (some ⟨q12, 1, none⟩)),
     ve (iv ((asM b).n)),
     ve (.int .u64 (sizeI ((asM b).n))),
     ve (.int .u64 ((sizeI ((asM a).n)).tmod (sizeI ((asM b).n)))),
     ve (.int .u64 ((sizeI ((asM a).n)).tmod (sizeI ((asM b).n))))] hs262 (.eq (.eq (.eq (.eq (.eq (.eq (.eq (.eq (.nil))))))))) ?_ ?_
  · skip
    refine .o1 (tk rfl rfl fun _ w hn k => ⟨_, v_field rfl (k.fx 2 h264) (fun w => rfl), rfl⟩) ?_
    refine .o1 (tk rfl rfl fun _ w hn k => ⟨_, v_load rfl (k.eq1 0 34 rfl) (l_one Tryd.isAgg3 ((hb268.new_ hn).cell 1)), rfl⟩) ?_
    refine .o1 (ck rfl rfl rfl (fun _ w hn k => ⟨#[iv ((asM a).n)], args1 (k.eq1 1 35 rfl), fun _ => by kernel_rfl, size_c ((asM a).n) _ (by omega)⟩) fun _ => rfl) ?_
    refine .o1 (tk rfl rfl fun _ w hn k => ⟨_, v_field rfl (k.fx 3 h265) (fun w => rfl), rfl⟩) ?_
    refine .o1 (tk rfl rfl fun _ w hn k => ⟨_, v_load rfl (k.eq1 3 37 rfl) (l_one Tryd.isAgg3 ((hb269.new_ hn).cell 1)), rfl⟩) ?_
    refine .o1 (ck rfl rfl rfl (fun _ w hn k => ⟨#[iv ((asM b).n)], args1 (k.eq1 4 38 rfl), fun _ => by kernel_rfl, size_c ((asM b).n) _ (by omega)⟩) fun _ => rfl) ?_
    refine .o1 (tk rfl rfl fun _ w hn k => ⟨_, v_bin rfl (k.eq1 2 36 rfl) (k.eq1 5 39 rfl) (fun _ => rfl) (r_remU rfl (by omega)), rfl⟩) ?_
    refine .o1 (tk rfl rfl fun _ w hn k => ⟨_, v_assign rfl (k.eq1 6 40 rfl), rfl⟩) ?_
    exact .nil
  intro a299 w300 hn301 ha302
  have hs303 := ha302.size.trans hs262
  have hd304 := ha302.defers.trans hd263
  have h305 := ha302.fx 2 h264
  have h306 := ha302.fx 4 h266
  have h307 := ha302.ge 7 5 rfl
  have hb308 := hb268.new_ hn301
  have hb309 := hb270.new_ hn301
  have hN310 := hN271.transNew hn301
  clear hs262 hd263 h264 h265 h266 hv298 hb268 hb269 hq23 hb270 hN271 ha302 hn301
  refine st_nil ?_
  refine hK _ _ ?_
  clear hK K
  refine wp_seq_k fun K hK => ?_
  refine wp_seq_k fun K hK => ?_
  refine wp_g0 [true, true] [] 52
    [ve (.int .u64 ((sizeI ((asM a).n)).tmod (sizeI ((asM b).n)))),
     ve (.bool (decide (((sizeI ((asM a).n)).tmod (sizeI ((asM b).n))) = 0)))] hs303 (.eq (.eq (.nil))) ?_ ?_
  · skip
    refine .o1 (tk rfl rfl fun _ w hn k => ⟨_, v_move rfl (k.fx 5 h307), rfl⟩) ?_
    refine .o1 (tk rfl rfl fun _ w hn k => ⟨_, v_bin rfl (k.eq1 0 41 rfl) rfl (fun _ => rfl) (r_eql rfl), rfl⟩) ?_
    exact .nil
  intro a311 w312 hn313 ha314
  have hs315 := ha314.size.trans hs303
  have hd316 := ha314.defers.trans hd304
  have h317 := ha314.fx 2 h305
  have h318 := ha314.fx 4 h306
  have h319 := ha314.fx 5 h307
  have h320 := ha314.ge 1 42 rfl
  have hb321 := hb308.new_ hn313
  have hb322 := hb309.new_ hn313
  have hN323 := hN310.transNew hn313
  clear hs303 hd304 h305 h306 h307 hb308 hb309 hN310 ha314 hn313
  refine st_nil ?_
  refine hK _ _ ?_
  clear hK K
  rcases Bool.eq_false_or_eq_true (decide (((sizeI ((asM a).n)).tmod (sizeI ((asM b).n))) = 0)) with ht324 | ht324
  · skip
    have ht324d := of_decide_eq_true ht324
    have hv325 : a311.eval (.tmp 42) = .bool true := h320.trans (congrArg Value.bool ht324)
    clear h320
    refine wp_cond_true hv325 ?_
    refine wp_seq_k fun K hK => ?_
    refine wp_g0 [true, true, true, true, false] [(4, false)] 52
      [ve (.pointer (some ⟨q8, 1, none⟩)),
       ve (iv ((asM a).n)),
       ve (.bool (decide (((asM a).n) < 0))),
       ve (nv (noughtM (decide (((asM a).n) < 0)))),
       vt] hs315 (.eq (.eq (.eq (.eq (.tt (.nil)))))) ?_ ?_
    · skip
      refine .o1 (tk rfl rfl fun _ w hn k => ⟨_, v_field rfl (k.fx 2 h317) (fun w => rfl), rfl⟩) ?_
      refine .o1 (tk rfl rfl fun _ w hn k => ⟨_, v_load rfl (k.eq1 0 43 rfl) (l_one Tryd.isAgg3 ((hb321.new_ hn).cell 1)), rfl⟩) ?_
      refine .o1 (tk rfl rfl fun _ w hn k => ⟨_, v_bin rfl (k.eq1 1 44 rfl) rfl (fun _ => rfl) (r_lssK rfl), rfl⟩) ?_
      refine .o1 (ck rfl rfl rfl (fun _ w hn k => ⟨#[.bool (decide (((asM a).n) < 0))], args1 (k.eq1 2 45 rfl), fun _ => by kernel_rfl, nought_c (decide (((asM a).n) < 0)) _⟩) fun _ => rfl) ?_
      refine .off ?_
      exact .nil
    intro a326 w327 hn328 ha329
    have hs330 := ha329.size.trans hs315
    have hd331 := ha329.defers.trans hd316
    have h332 := ha329.fx 2 h317
    have h333 := ha329.fx 4 h318
    have h334 := ha329.fx 5 h319
    have h335 := ha329.ge 3 46 rfl
    have hb336 := hb321.new_ hn328
    have hb337 := hb322.new_ hn328
    have hN338 := hN323.transNew hn328
    clear hs315 hd316 h317 h318 h319 hv325 hb321 hb322 hN323 ha329 hn328
    obtain ⟨w339, -, hst340, hb341, hu342, hf343⟩ := s_two (v0 := iv ((noughtM (decide (((asM a).n) < 0))).k)) (v1 := iv ((noughtM (decide (((asM a).n) < 0))).n)) Tryd.sizeOf23 rfl rfl rfl hb337
    refine st_act rfl rfl fun K344 hL345 => a_store' rfl h333 h335 hst340 (hL345 _ _ trivial ?_)
    have hb346 := hf343 _ _ _ (hne20) hb336
    have hN347 := hN338.trans hu342 (fun k hk hkb => by subst hkb; omega)
    clear hb337 hst340 K344 hL345 hN338 hb336 hu342 hf343
    refine st_nil ?_
    clear h335
    refine hK _ _ ?_
    clear hK K
    refine wp_ret (ret_k hd331 (v := nv (noughtM (decide (((asM a).n) < 0)))) (res_c rfl h333 (l_two Tryd.isAgg23 Tryd.sizeOf23 hb341)) ?_)
    refine ⟨?_, hN347⟩
    show Ending.returned (nv (noughtM (decide (((asM a).n) < 0)))) = Ending.returned (nv (remM a b))
    first | rfl | (simp [remM, remA, ht61, ht100, ht139, ht192, ht219, ht272, ht324])
  have ht324d := of_decide_eq_false ht324
  have hv348 : a311.eval (.tmp 42) = .bool false := h320.trans (congrArg Value.bool ht324)
  clear h320
  refine wp_cond_false hv348 ?_
  refine wp_skip ?_
  refine hK _ _ ?_
  clear hK K
  refine wp_seq_k fun K hK => ?_
  refine wp_g0 [true, true, true, true, true, false] [(5, false)] 52
    [ve (.int .u64 ((sizeI ((asM a).n)).tmod (sizeI ((asM b).n)))),
     ve (.pointer (some ⟨q8, 1, none⟩)),
     ve (iv ((asM a).n)),
     ve (.bool (decide (((asM a).n) < 0))),
     ve (nv (signedM ((sizeI ((asM a).n)).tmod (sizeI ((asM b).n))) (decide (((asM a).n) < 0)))),
     vt] hs315 (.eq (.eq (.eq (.eq (.eq (.tt (.nil))))))) ?_ ?_
  · skip
    refine .o1 (tk rfl rfl fun _ w hn k => ⟨_, v_move rfl (k.fx 5 h319), rfl⟩) ?_
    refine .o1 (tk rfl rfl fun _ w hn k => ⟨_, v_field rfl (k.fx 2 h317) (fun w => rfl), rfl⟩) ?_
    refine .o1 (tk rfl rfl fun _ w hn k => ⟨_, v_load rfl (k.eq1 1 48 rfl) (l_one Tryd.isAgg3 ((hb321.new_ hn).cell 1)), rfl⟩) ?_
    refine .o1 (tk rfl rfl fun _ w hn k => ⟨_, v_bin rfl (k.eq1 2 49 rfl) rfl (fun _ => rfl) (r_lssK rfl), rfl⟩) ?_
    refine .o1 (ck rfl rfl rfl (fun _ w hn k => ⟨#[.int .u64 ((sizeI ((asM a).n)).tmod (sizeI ((asM b).n))), .bool (decide (((asM a).n) < 0))], args2 (k.eq1 0 47 rfl) (k.eq1 3 50 rfl), fun _ => by kernel_rfl, signed_c ((sizeI ((asM a).n)).tmod (sizeI ((asM b).n))) (decide (((asM a).n) < 0)) _ (by omega)⟩) fun _ => rfl) ?_
    refine .off ?_
    exact .nil
  intro a349 w350 hn351 ha352
  have hs353 := ha352.size.trans hs315
  have hd354 := ha352.defers.trans hd316
  have h355 := ha352.fx 4 h318
  have h356 := ha352.ge 4 51 rfl
  have hb357 := hb322.new_ hn351
  have hN358 := hN323.transNew hn351
  clear hs315 hd316 h317 h318 h319 hv348 hb321 hq22 hb322 hN323 ha352 hn351
  obtain ⟨w359, -, hst360, hb361, hu362, hf363⟩ := s_two (v0 := iv ((signedM ((sizeI ((asM a).n)).tmod (sizeI ((asM b).n))) (decide (((asM a).n) < 0))).k)) (v1 := iv ((signedM ((sizeI ((asM a).n)).tmod (sizeI ((asM b).n))) (decide (((asM a).n) < 0))).n)) Tryd.sizeOf23 rfl rfl rfl hb357
  refine st_act rfl rfl fun K364 hL365 => a_store' rfl h355 h356 hst360 (hL365 _ _ trivial ?_)
  have hN366 := hN358.trans hu362 (fun k hk hkb => by subst hkb; omega)
  clear hb357 hst360 K364 hL365 hN358 hu362 hf363
  refine st_nil ?_
  clear h356
  refine hK _ _ ?_
  clear hK K
  refine wp_ret (ret_k hd354 (v := nv (signedM ((sizeI ((asM a).n)).tmod (sizeI ((asM b).n))) (decide (((asM a).n) < 0)))) (res_c rfl h355 (l_two Tryd.isAgg23 Tryd.sizeOf23 hb361)) ?_)
  refine ⟨?_, hN366⟩
  show Ending.returned (nv (signedM ((sizeI ((asM a).n)).tmod (sizeI ((asM b).n))) (decide (((asM a).n) < 0)))) = Ending.returned (nv (remM a b))
  first | rfl | (simp [remM, remA, ht61, ht100, ht139, ht192, ht219, ht272, ht324])
set_option maxHeartbeats 4000000 in
set_option maxRecDepth 100000 in
theorem rank_c (a : Nm) (w : World) : Calls Tryd.prog 79 #[nv a] w (IsRet (iv (rankM a)) w) := by
  refine enter_abs Tryd.func79 rfl fun a0 hs0 hd0 hp => ?_
  have hs0 : a0.tmps.size = 11 := hs0
  have hN0 : New w w := Upd.refl _ _
  have hp0 : a0.eval (.tmp 0) = nv a := hp 0 _ rfl
  clear hp
  refine wp_seq_k fun K hK => ?_
  refine wp_g [true, true] [] [] 11
    [IsNew w 23 [iv a.k, iv a.n],
     ve (iv 0)]
    [0] (newsCons (fun v w h => IsNew.old h) newsNil) hs0 (.nw (.eq (.nil))) ?_ (fun i h => by cases h) ?_
  · skip
    refine .o2 (step_allocN (cs := [iv a.k, iv a.n]) (t := 23) rfl (noG rfl) (fun _ w hn k => v_box rfl (k.fx 0 hp0) (fun w => rfl)) (fun q _ hq hb => ⟨q, rfl, hq, hb⟩)) ?_
    refine .o1 (tk rfl rfl fun _ w hn k => ⟨_, v_assign rfl rfl, rfl⟩) ?_
    exact .nil
  intro a1 w2 hn3 ha4
  have hs5 := ha4.size.trans hs0
  have hd6 := ha4.defers.trans hd0
  obtain ⟨q8, h7, hq9, hb10⟩ : IsNew _ _ _ _ _ := ha4.got 0 1 rfl (by kernel_rfl)
  have h11 := ha4.ge 1 2 rfl
  have hq12 := Nat.le_trans hN0.size hq9
  have hN13 := hN0.transNew hn3
  clear hs0 hd0 hp0 hq9 hN0 ha4 hn3
  refine st_nil ?_
  refine hK _ _ ?_
  clear hK K
  refine wp_seq_k fun K hK => ?_
  refine wp_seq_k fun K hK => ?_
  refine wp_g0 [true, true] [] 11
    [ve (pv q8),
     ve (iv a.k)] hs5 (.eq (.eq (.nil))) ?_ ?_
  · skip
    refine .o1 (tk rfl rfl fun _ w hn k => ⟨_, v_field rfl (k.fx 1 h7) (fun w => rfl), rfl⟩) ?_
    refine .o1 (tk rfl rfl fun _ w hn k => ⟨_, v_load rfl (k.eq1 0 3 rfl) (l_one Tryd.isAgg3 ((hb10.new_ hn).cell 0)), rfl⟩) ?_
    exact .nil
  intro a14 w15 hn16 ha17
  have hs18 := ha17.size.trans hs5
  have hd19 := ha17.defers.trans hd6
  have h20 := ha17.fx 1 h7
  have h21 := ha17.fx 2 h11
  have h22 := ha17.ge 1 4 rfl
  have hb23 := hb10.new_ hn16
  have hN24 := hN13.transNew hn16
  clear hs5 hd6 h7 h11 hb10 hN13 ha17 hn16
  refine st_nil ?_
  refine hK _ _ ?_
  clear hK K
  refine wp_block ?_
  refine wp_seq_k fun K hK => ?_
  refine wp_g0 [true, true] [] 11
    [ve (.bool (decide (a.k = 3))),
     ve (.bool (decide (a.k = 3)))] hs18 (.eq (.eq (.nil))) ?_ ?_
  · skip
    refine .o1 (tk rfl rfl fun _ w hn k => ⟨_, v_bin rfl (k.fx 4 h22) rfl (fun _ => rfl) (r_eql rfl), rfl⟩) ?_
    refine .o1 (tk rfl rfl fun _ w hn k => ⟨_, v_assign rfl (k.eq1 0 6 rfl), rfl⟩) ?_
    exact .nil
  intro a25 w26 hn27 ha28
  have hs29 := ha28.size.trans hs18
  have hd30 := ha28.defers.trans hd19
  have h31 := ha28.fx 1 h20
  have h32 := ha28.fx 2 h21
  have h33 := ha28.fx 4 h22
  have h34 := ha28.ge 1 5 rfl
  have hb35 := hb23.new_ hn27
  have hN36 := hN24.transNew hn27
  clear hs18 hd19 h20 h21 h22 hb23 hN24 ha28 hn27
  refine st_nil ?_
  refine hK _ _ ?_
  clear hK K
  rcases Bool.eq_false_or_eq_true (decide (a.k = 3)) with ht37 | ht37
  · skip
    have ht37d := of_decide_eq_true ht37
    have hv38 : a25.eval (.tmp 5) = .bool true := h34.trans (congrArg Value.bool ht37)
    clear h34
    refine wp_cond_true hv38 ?_
    refine wp_seq_k fun K hK => ?_
    refine wp_g0 [true] [] 11
      [ve (iv 9007199254740992)] hs29 (.eq (.nil)) ?_ ?_
    · skip
      refine .o1 (tk rfl rfl fun _ w hn k => ⟨_, v_assign rfl rfl, rfl⟩) ?_
      exact .nil
    intro a39 w40 hn41 ha42
    have hs43 := ha42.size.trans hs29
    have hd44 := ha42.defers.trans hd30
    have h45 := ha42.fx 1 h31
    have h46 := ha42.ge 0 2 rfl
    have hb47 := hb35.new_ hn41
    have hN48 := hN36.transNew hn41
    clear hs29 hd30 h31 h32 h33 hv38 hb35 hN36 ha42 hn41
    refine st_nil ?_
    refine hK _ _ ?_
    clear hK K
    refine wp_ret (ret_k hd44 (v := iv 9007199254740992) (res_t rfl h46 _) ?_)
    refine ⟨?_, hN48⟩
    show Ending.returned (iv 9007199254740992) = Ending.returned (iv (rankM a))
    first | rfl | (simp [rankM, ht37])
  have ht37d := of_decide_eq_false ht37
  have hv49 : a25.eval (.tmp 5) = .bool false := h34.trans (congrArg Value.bool ht37)
  clear h34
  refine wp_cond_false hv49 ?_
  refine wp_seq_k fun K hK => ?_
  refine wp_g0 [true, true] [] 11
    [ve (.bool (decide (a.k = 4))),
     ve (.bool (decide (a.k = 4)))] hs29 (.eq (.eq (.nil))) ?_ ?_
  · skip
    refine .o1 (tk rfl rfl fun _ w hn k => ⟨_, v_bin rfl (k.fx 4 h33) rfl (fun _ => rfl) (r_eql rfl), rfl⟩) ?_
    refine .o1 (tk rfl rfl fun _ w hn k => ⟨_, v_assign rfl (k.eq1 0 8 rfl), rfl⟩) ?_
    exact .nil
  intro a50 w51 hn52 ha53
  have hs54 := ha53.size.trans hs29
  have hd55 := ha53.defers.trans hd30
  have h56 := ha53.fx 1 h31
  have h57 := ha53.fx 2 h32
  have h58 := ha53.ge 1 7 rfl
  have hb59 := hb35.new_ hn52
  have hN60 := hN36.transNew hn52
  clear hs29 hd30 h31 h32 h33 hv49 hb35 hN36 ha53 hn52
  refine st_nil ?_
  refine hK _ _ ?_
  clear hK K
  rcases Bool.eq_false_or_eq_true (decide (a.k = 4)) with ht61 | ht61
  · skip
    have ht61d := of_decide_eq_true ht61
    have hv62 : a50.eval (.tmp 7) = .bool true := h58.trans (congrArg Value.bool ht61)
    clear h58
    refine wp_cond_true hv62 ?_
    refine wp_seq_k fun K hK => ?_
    refine wp_g0 [true] [] 11
      [ve (iv (-9007199254740992))] hs54 (.eq (.nil)) ?_ ?_
    · skip
      refine .o1 (tk rfl rfl fun _ w hn k => ⟨_, v_assign rfl rfl, rfl⟩) ?_
      exact .nil
    intro a63 w64 hn65 ha66
    have hs67 := ha66.size.trans hs54
    have hd68 := ha66.defers.trans hd55
    have h69 := ha66.fx 1 h56
    have h70 := ha66.ge 0 2 rfl
    have hb71 := hb59.new_ hn65
    have hN72 := hN60.transNew hn65
    clear hs54 hd55 h56 h57 hv62 hb59 hN60 ha66 hn65
    refine st_nil ?_
    refine hK _ _ ?_
    clear hK K
    refine wp_ret (ret_k hd68 (v := iv (-9007199254740992)) (res_t rfl h70 _) ?_)
    refine ⟨?_, hN72⟩
    show Ending.returned (iv (-9007199254740992)) = Ending.returned (iv (rankM a))
    first | rfl | (simp [rankM, ht37, ht61])
  have ht61d := of_decide_eq_false ht61
  have hv73 : a50.eval (.tmp 7) = .bool false := h58.trans (congrArg Value.bool ht61)
  clear h58
  refine wp_cond_false hv73 ?_
  refine wp_skip ?_
  refine hK _ _ ?_
  clear hK K
  refine wp_seq_k fun K hK => ?_
  refine wp_g0 [true, true, true] [] 11
    [ve (.pointer (some ⟨q8, 1, none⟩)),
     ve (iv a.n),
     ve (iv a.n)] hs54 (.eq (.eq (.eq (.nil)))) ?_ ?_
  · skip
    refine .o1 (tk rfl rfl fun _ w hn k => ⟨_, v_field rfl (k.fx 1 h56) (fun w => rfl), rfl⟩) ?_
    refine .o1 (tk rfl rfl fun _ w hn k => ⟨_, v_load rfl (k.eq1 0 9 rfl) (l_one Tryd.isAgg3 ((hb59.new_ hn).cell 1)), rfl⟩) ?_
    refine .o1 (tk rfl rfl fun _ w hn k => ⟨_, v_assign rfl (k.eq1 1 10 rfl), rfl⟩) ?_
    exact .nil
  intro a74 w75 hn76 ha77
  have hs78 := ha77.size.trans hs54
  have hd79 := ha77.defers.trans hd55
  have h80 := ha77.ge 2 2 rfl
  have hN81 := hN60.transNew hn76
  clear hs54 hd55 h56 h57 hv73 hb59 hq12 hN60 ha77 hn76
  refine st_nil ?_
  refine hK _ _ ?_
  clear hK K
  refine wp_ret (ret_k hd79 (v := iv a.n) (res_t rfl h80 _) ?_)
  refine ⟨?_, hN81⟩
  show Ending.returned (iv a.n) = Ending.returned (iv (rankM a))
  first | rfl | (simp [rankM, ht37, ht61])
set_option maxHeartbeats 4000000 in
set_option maxRecDepth 100000 in
theorem rnum_c (a : Nm) (b : Nm) (w : World) : Calls Tryd.prog 34 #[nv a, nv b] w (IsRet (.bool (eqN a b)) w) := by
  refine enter_abs Tryd.func34 rfl fun a0 hs0 hd0 hp => ?_
  have hs0 : a0.tmps.size = 17 := hs0
  have hN0 : New w w := Upd.refl _ _
  have hp0 : a0.eval (.tmp 0) = nv a := hp 0 _ rfl
  have hp1 : a0.eval (.tmp 1) = nv b := hp 1 _ rfl
  clear hp
  refine wp_seq_k fun K hK => ?_
  refine wp_g [true, true, true] [] [] 17
    [IsNew w 23 [iv a.k, iv a.n],
     IsNew w 23 [iv b.k, iv b.n],
     ve (.bool false)]
    [0, 1] (newsCons (fun v w h => IsNew.old h) (newsCons (fun v w h => IsNew.old h) newsNil)) hs0 (.nw (.nw (.eq (.nil)))) ?_ (fun i h => by cases h) ?_
  · skip
    refine .o2 (step_allocN (cs := [iv a.k, iv a.n]) (t := 23) rfl (noG rfl) (fun _ w hn k => v_box rfl (k.fx 0 hp0) (fun w => rfl)) (fun q _ hq hb => ⟨q, rfl, hq, hb⟩)) ?_
    refine .o2 (step_allocN (cs := [iv b.k, iv b.n]) (t := 23) rfl (noG rfl) (fun _ w hn k => v_box rfl (k.fx 1 hp1) (fun w => rfl)) (fun q _ hq hb => ⟨q, rfl, hq, hb⟩)) ?_
    refine .o1 (tk rfl rfl fun _ w hn k => ⟨_, v_assign rfl rfl, rfl⟩) ?_
    exact .nil
  intro a1 w2 hn3 ha4
  have hs5 := ha4.size.trans hs0
  have hd6 := ha4.defers.trans hd0
  obtain ⟨q8, h7, hq9, hb10⟩ : IsNew _ _ _ _ _ := ha4.got 0 2 rfl (by kernel_rfl)
  obtain ⟨q12, h11, hq13, hb14⟩ : IsNew _ _ _ _ _ := ha4.got 1 3 rfl (by kernel_rfl)
  have h15 := ha4.ge 2 4 rfl
  have hq16 := Nat.le_trans hN0.size hq9
  have hq17 := Nat.le_trans hN0.size hq13
  have hN18 := hN0.transNew hn3
  clear hs0 hd0 hp0 hp1 hq9 hq13 hN0 ha4 hn3
  refine st_nil ?_
  refine hK _ _ ?_
  clear hK K
  refine wp_seq_k fun K hK => ?_
  rcases Bool.eq_false_or_eq_true (decide (a.k = b.k)) with ht19 | ht19
  · skip
    have ht19d := of_decide_eq_true ht19
    refine wp_g0 [true, true, true, true, true, true, true, true, true, true, true, true, true] [] 17
      [ve (pv q8),
       ve (iv a.k),
       ve (pv q12),
       ve (iv b.k),
       ve (.bool true),
       ve (.bool true),
       ve (.pointer (some ⟨q8, 1, none⟩)),
       ve (iv a.n),
       ve (.pointer (some ⟨q12, 1, none⟩)),
       ve (iv b.n),
       ve (.bool (decide (a.n = b.n))),
       ve (.bool (decide (a.n = b.n))),
       ve (.bool (decide (a.n = b.n)))] hs5 (.eq (.eq (.eq (.eq (.eq (.eq (.eq (.eq (.eq (.eq (.eq (.eq (.eq (.nil)))))))))))))) ?_ ?_
    · skip
      refine .o1 (tk rfl rfl fun _ w hn k => ⟨_, v_field rfl (k.fx 2 h7) (fun w => rfl), rfl⟩) ?_
      refine .o1 (tk rfl rfl fun _ w hn k => ⟨_, v_load rfl (k.eq1 0 5 rfl) (l_one Tryd.isAgg3 ((hb10.new_ hn).cell 0)), rfl⟩) ?_
      refine .o1 (tk rfl rfl fun _ w hn k => ⟨_, v_field rfl (k.fx 3 h11) (fun w => rfl), rfl⟩) ?_
      refine .o1 (tk rfl rfl fun _ w hn k => ⟨_, v_load rfl (k.eq1 2 7 rfl) (l_one Tryd.isAgg3 ((hb14.new_ hn).cell 0)), rfl⟩) ?_
      refine .o1 (tk rfl rfl fun _ w hn k => ⟨_, v_bin rfl (k.eq1 1 6 rfl) (k.eq1 3 8 rfl) (fun _ => rfl) (r_eql ht19), rfl⟩) ?_
      refine .o1 (tk rfl rfl fun _ w hn k => ⟨_, v_move rfl (k.eq1 4 9 rfl), rfl⟩) ?_
      refine .o1 (tg rfl rfl rfl (fun _ _ k => k.eq1 5 10 rfl) fun _ w hn k => ⟨_, v_field rfl (k.fx 2 h7) (fun w => rfl), rfl⟩) ?_
      refine .o1 (tg rfl rfl rfl (fun _ _ k => k.eq1 5 10 rfl) fun _ w hn k => ⟨_, v_load rfl (k.eq1 6 11 rfl) (l_one Tryd.isAgg3 ((hb10.new_ hn).cell 1)), rfl⟩) ?_
      refine .o1 (tg rfl rfl rfl (fun _ _ k => k.eq1 5 10 rfl) fun _ w hn k => ⟨_, v_field rfl (k.fx 3 h11) (fun w => rfl), rfl⟩) ?_
      refine .o1 (tg rfl rfl rfl (fun _ _ k => k.eq1 5 10 rfl) fun _ w hn k => ⟨_, v_load rfl (k.eq1 8 13 rfl) (l_one Tryd.isAgg3 ((hb14.new_ hn).cell 1)), rfl⟩) ?_
      refine .o1 (tg rfl rfl rfl (fun _ _ k => k.eq1 5 10 rfl) fun _ w hn k => ⟨_, v_bin rfl (k.eq1 7 12 rfl) (k.eq1 9 14 rfl) (fun _ => rfl) (r_eql rfl), rfl⟩) ?_
      refine .o1 (tk rfl rfl fun _ w hn k => ⟨_, v_pickT rfl (k.eq1 5 10 rfl) (k.eq1 10 15 rfl), rfl⟩) ?_
      refine .o1 (tk rfl rfl fun _ w hn k => ⟨_, v_assign rfl (k.eq1 11 16 rfl), rfl⟩) ?_
      exact .nil
    intro a20 w21 hn22 ha23
    have hs24 := ha23.size.trans hs5
    have hd25 := ha23.defers.trans hd6
    have h26 := ha23.ge 12 4 rfl
    have hN27 := hN18.transNew hn22
    clear hs5 hd6 h7 h11 h15 hb10 hq16 hb14 hq17 hN18 ha23 hn22
    refine st_nil ?_
    refine hK _ _ ?_
    clear hK K
    refine wp_ret (ret_k hd25 (v := .bool (decide (a.n = b.n))) (res_t rfl h26 _) ?_)
    refine ⟨?_, hN27⟩
    show Ending.returned (.bool (decide (a.n = b.n))) = Ending.returned (.bool (eqN a b))
    first | rfl | (simp [eqN, ht19])
  have ht19d := of_decide_eq_false ht19
  refine wp_g0 [true, true, true, true, true, true, true, true, true, true, true, true, true] [] 17
    [ve (pv q8),
     ve (iv a.k),
     ve (pv q12),
     ve (iv b.k),
     ve (.bool false),
     ve (.bool false),
     ve undef,
     ve undef,
     ve undef,
     ve undef,
     ve undef,
     ve (.bool false),
     ve (.bool false)] hs5 (.eq (.eq (.eq (.eq (.eq (.eq (.eq (.eq (.eq (.eq (.eq (.eq (.eq (.nil)))))))))))))) ?_ ?_
  · skip
    refine .o1 (tk rfl rfl fun _ w hn k => ⟨_, v_field rfl (k.fx 2 h7) (fun w => rfl), rfl⟩) ?_
    refine .o1 (tk rfl rfl fun _ w hn k => ⟨_, v_load rfl (k.eq1 0 5 rfl) (l_one Tryd.isAgg3 ((hb10.new_ hn).cell 0)), rfl⟩) ?_
    refine .o1 (tk rfl rfl fun _ w hn k => ⟨_, v_field rfl (k.fx 3 h11) (fun w => rfl), rfl⟩) ?_
    refine .o1 (tk rfl rfl fun _ w hn k => ⟨_, v_load rfl (k.eq1 2 7 rfl) (l_one Tryd.isAgg3 ((hb14.new_ hn).cell 0)), rfl⟩) ?_
    refine .o1 (tk rfl rfl fun _ w hn k => ⟨_, v_bin rfl (k.eq1 1 6 rfl) (k.eq1 3 8 rfl) (fun _ => rfl) (r_eql ht19), rfl⟩) ?_
    refine .o1 (tk rfl rfl fun _ w hn k => ⟨_, v_move rfl (k.eq1 4 9 rfl), rfl⟩) ?_
    refine .o1 (sk rfl rfl rfl (fun _ _ _ k => k.eq1 5 10 rfl) (fun _ => rfl)) ?_
    refine .o1 (sk rfl rfl rfl (fun _ _ _ k => k.eq1 5 10 rfl) (fun _ => rfl)) ?_
    refine .o1 (sk rfl rfl rfl (fun _ _ _ k => k.eq1 5 10 rfl) (fun _ => rfl)) ?_
    refine .o1 (sk rfl rfl rfl (fun _ _ _ k => k.eq1 5 10 rfl) (fun _ => rfl)) ?_
    refine .o1 (sk rfl rfl rfl (fun _ _ _ k => k.eq1 5 10 rfl) (fun _ => rfl)) ?_
    refine .o1 (tk rfl rfl fun _ w hn k => ⟨_, v_pickF rfl (k.eq1 5 10 rfl) rfl, rfl⟩) ?_
    refine .o1 (tk rfl rfl fun _ w hn k => ⟨_, v_assign rfl (k.eq1 11 16 rfl), rfl⟩) ?_
    exact .nil
  intro a28 w29 hn30 ha31
  have hs32 := ha31.size.trans hs5
  have hd33 := ha31.defers.trans hd6
  have h34 := ha31.ge 12 4 rfl
  have hN35 := hN18.transNew hn30
  clear hs5 hd6 h7 h11 h15 hb10 hq16 hb14 hq17 hN18 ha31 hn30
  refine st_nil ?_
  refine hK _ _ ?_
  clear hK K
  refine wp_ret (ret_k hd33 (v := .bool false) (res_t rfl h34 _) ?_)
  refine ⟨?_, hN35⟩
  show Ending.returned (.bool false) = Ending.returned (.bool (eqN a b))
  first | rfl | (simp [eqN, ht19])
set_option maxHeartbeats 4000000 in
set_option maxRecDepth 100000 in
theorem less_c (a : Nm) (b : Nm) (w : World) : Calls Tryd.prog 51 #[nv a, nv b] w (IsRet (.bool (lessM a b)) w) := by
  refine enter_abs Tryd.func51 rfl fun a0 hs0 hd0 hp => ?_
  have hs0 : a0.tmps.size = 24 := hs0
  have hN0 : New w w := Upd.refl _ _
  have hp0 : a0.eval (.tmp 0) = nv a := hp 0 _ rfl
  have hp1 : a0.eval (.tmp 1) = nv b := hp 1 _ rfl
  clear hp
  refine wp_seq_k fun K hK => ?_
  refine wp_g [true, true, true] [] [] 24
    [IsNew w 23 [iv a.k, iv a.n],
     IsNew w 23 [iv b.k, iv b.n],
     ve (.bool false)]
    [0, 1] (newsCons (fun v w h => IsNew.old h) (newsCons (fun v w h => IsNew.old h) newsNil)) hs0 (.nw (.nw (.eq (.nil)))) ?_ (fun i h => by cases h) ?_
  · skip
    refine .o2 (step_allocN (cs := [iv a.k, iv a.n]) (t := 23) rfl (noG rfl) (fun _ w hn k => v_box rfl (k.fx 0 hp0) (fun w => rfl)) (fun q _ hq hb => ⟨q, rfl, hq, hb⟩)) ?_
    refine .o2 (step_allocN (cs := [iv b.k, iv b.n]) (t := 23) rfl (noG rfl) (fun _ w hn k => v_box rfl (k.fx 1 hp1) (fun w => rfl)) (fun q _ hq hb => ⟨q, rfl, hq, hb⟩)) ?_
    refine .o1 (tk rfl rfl fun _ w hn k => ⟨_, v_assign rfl rfl, rfl⟩) ?_
    exact .nil
  intro a1 w2 hn3 ha4
  have hs5 := ha4.size.trans hs0
  have hd6 := ha4.defers.trans hd0
  obtain ⟨q8, h7, hq9, hb10⟩ : IsNew _ _ _ _ _ := ha4.got 0 2 rfl (by kernel_rfl)
  obtain ⟨q12, h11, hq13, hb14⟩ : IsNew _ _ _ _ _ := ha4.got 1 3 rfl (by kernel_rfl)
  have h15 := ha4.ge 2 4 rfl
  have hne16 : q8 ≠ q12 := ha4.ne 0 1 2 3 h7 h11
  have hq17 := Nat.le_trans hN0.size hq9
  have hq18 := Nat.le_trans hN0.size hq13
  have hN19 := hN0.transNew hn3
  clear hs0 hd0 hp0 hp1 hq9 hq13 hN0 ha4 hn3
  refine st_nil ?_
  refine hK _ _ ?_
  clear hK K
  refine wp_seq_k fun K hK => ?_
  refine wp_g0 [true, true, true, true, false, false] [(4, false), (5, false)] 24
    [ve (nv a),
     ve (nv (asM a)),
     ve (nv b),
     ve (nv (asM b)),
     vt,
     vt] hs5 (.eq (.eq (.eq (.eq (.tt (.tt (.nil))))))) ?_ ?_
  · skip
    refine .o1 (tk rfl rfl fun _ w hn k => ⟨_, v_load rfl (k.fx 2 h7) (l_two Tryd.isAgg23 Tryd.sizeOf23 (hb10.new_ hn)), rfl⟩) ?_
    refine .o1 (ck rfl rfl rfl (fun _ w hn k => ⟨#[nv a], args1 (k.eq1 0 5 rfl), fun _ => by kernel_rfl, as_c a _⟩) fun _ => rfl) ?_
    refine .o1 (tk rfl rfl fun _ w hn k => ⟨_, v_load rfl (k.fx 3 h11) (l_two Tryd.isAgg23 Tryd.sizeOf23 (hb14.new_ hn)), rfl⟩) ?_
    refine .o1 (ck rfl rfl rfl (fun _ w hn k => ⟨#[nv b], args1 (k.eq1 2 7 rfl), fun _ => by kernel_rfl, as_c b _⟩) fun _ => rfl) ?_
    refine .off ?_
    refine .off ?_
    exact .nil
  intro a20 w21 hn22 ha23
  have hs24 := ha23.size.trans hs5
  have hd25 := ha23.defers.trans hd6
  have h26 := ha23.fx 2 h7
  have h27 := ha23.fx 3 h11
  have h28 := ha23.fx 4 h15
  have h29 := ha23.ge 1 6 rfl
  have h30 := ha23.ge 3 8 rfl
  have hb31 := hb10.new_ hn22
  have hb32 := hb14.new_ hn22
  have hN33 := hN19.transNew hn22
  clear hs5 hd6 h7 h11 h15 hb10 hb14 hN19 ha23 hn22
  have hbd_a := as_bd a
  have hbd_b := as_bd b
  obtain ⟨w34, -, hst35, hb36, hu37, hf38⟩ := s_two (v0 := iv ((asM a).k)) (v1 := iv ((asM a).n)) Tryd.sizeOf23 rfl rfl rfl hb31
  refine st_act rfl rfl fun K39 hL40 => a_store' rfl h26 h29 hst35 (hL40 _ _ trivial ?_)
  have hb41 := hf38 _ _ _ (fun h => hne16 h.symm) hb32
  have hN42 := hN33.trans hu37 (fun k hk hkb => by subst hkb; omega)
  clear hb31 hst35 K39 hL40 hN33 hb32 hu37 hf38
  obtain ⟨w43, -, hst44, hb45, hu46, hf47⟩ := s_two (v0 := iv ((asM b).k)) (v1 := iv ((asM b).n)) Tryd.sizeOf23 rfl rfl rfl hb41
  refine st_act rfl rfl fun K48 hL49 => a_store' rfl h27 h30 hst44 (hL49 _ _ trivial ?_)
  have hb50 := hf47 _ _ _ (hne16) hb36
  have hN51 := hN42.trans hu46 (fun k hk hkb => by subst hkb; omega)
  clear hb41 hst44 K48 hL49 hN42 hb36 hu46 hf47
  refine st_nil ?_
  clear h29 h30
  refine hK _ _ ?_
  clear hK K
  refine wp_seq_k fun K hK => ?_
  rcases Bool.eq_false_or_eq_true (decide (((asM a).k) = 2)) with ht52 | ht52
  · skip
    have ht52d := of_decide_eq_true ht52
    refine wp_g0 [true, true, true, true, true, true, true, true, true, true, true, true, true, true, true, true] [] 24
      [ve (nv (asM a)),
       ve (.bool true),
       ve (.bool false),
       ve (.bool false),
       ve undef,
       ve undef,
       ve undef,
       ve (.bool false),
       ve (.bool false),
       ve undef,
       ve undef,
       ve undef,
       ve undef,
       ve undef,
       ve (.bool false),
       ve (.bool false)] hs24 (.eq (.eq (.eq (.eq (.eq (.eq (.eq (.eq (.eq (.eq (.eq (.eq (.eq (.eq (.eq (.eq (.nil))))))))))))))))) ?_ ?_
    · skip
      refine .o1 (tk rfl rfl fun _ w hn k => ⟨_, v_load rfl (k.fx 2 h26) (l_two Tryd.isAgg23 Tryd.sizeOf23 (hb50.new_ hn)), rfl⟩) ?_
      refine .o1 (ck rfl rfl rfl (fun _ w hn k => ⟨#[nv (asM a)], args1 (k.eq1 0 9 rfl), fun _ => by kernel_rfl, isNaN_c (asM a) _⟩) fun _ => congrArg Value.bool ht52) ?_
      refine .o1 (tk rfl rfl fun _ w hn k => ⟨_, v_not rfl (k.eq1 1 10 rfl), rfl⟩) ?_
      refine .o1 (tk rfl rfl fun _ w hn k => ⟨_, v_move rfl (k.eq1 2 11 rfl), rfl⟩) ?_
      refine .o1 (sk rfl rfl rfl (fun _ _ _ k => k.eq1 3 12 rfl) (fun _ => rfl)) ?_
      refine .o1 (sk rfl rfl rfl (fun _ _ _ k => k.eq1 3 12 rfl) (fun _ => rfl)) ?_
      refine .o1 (sk rfl rfl rfl (fun _ _ _ k => k.eq1 3 12 rfl) (fun _ => rfl)) ?_
      refine .o1 (tk rfl rfl fun _ w hn k => ⟨_, v_pickF rfl (k.eq1 3 12 rfl) rfl, rfl⟩) ?_
      refine .o1 (tk rfl rfl fun _ w hn k => ⟨_, v_move rfl (k.eq1 7 16 rfl), rfl⟩) ?_
      refine .o1 (sk rfl rfl rfl (fun _ _ _ k => k.eq1 8 17 rfl) (fun _ => rfl)) ?_
      refine .o1 (sk rfl rfl rfl (fun _ _ _ k => k.eq1 8 17 rfl) (fun _ => rfl)) ?_
      refine .o1 (sk rfl rfl rfl (fun _ _ _ k => k.eq1 8 17 rfl) (fun _ => rfl)) ?_
      refine .o1 (sk rfl rfl rfl (fun _ _ _ k => k.eq1 8 17 rfl) (fun _ => rfl)) ?_
      refine .o1 (sk rfl rfl rfl (fun _ _ _ k => k.eq1 8 17 rfl) (fun _ => rfl)) ?_
      refine .o1 (tk rfl rfl fun _ w hn k => ⟨_, v_pickF rfl (k.eq1 8 17 rfl) rfl, rfl⟩) ?_
      refine .o1 (tk rfl rfl fun _ w hn k => ⟨_, v_assign rfl (k.eq1 14 23 rfl), rfl⟩) ?_
      exact .nil
    intro a53 w54 hn55 ha56
    have hs57 := ha56.size.trans hs24
    have hd58 := ha56.defers.trans hd25
    have h59 := ha56.ge 15 4 rfl
    have hN60 := hN51.transNew hn55
    clear hs24 hd25 h26 h27 h28 hb50 hq17 hb45 hq18 hN51 ha56 hn55
    refine st_nil ?_
    refine hK _ _ ?_
    clear hK K
    refine wp_ret (ret_k hd58 (v := .bool false) (res_t rfl h59 _) ?_)
    refine ⟨?_, hN60⟩
    show Ending.returned (.bool false) = Ending.returned (.bool (lessM a b))
    first | rfl | (simp [lessM, lessA, ht52])
  have ht52d := of_decide_eq_false ht52
  rcases Bool.eq_false_or_eq_true (decide (((asM b).k) = 2)) with ht61 | ht61
  · skip
    have ht61d := of_decide_eq_true ht61
    refine wp_g0 [true, true, true, true, true, true, true, true, true, true, true, true, true, true, true, true] [] 24
      [ve (nv (asM a)),
       ve (.bool false),
       ve (.bool true),
       ve (.bool true),
       ve (nv (asM b)),
       ve (.bool true),
       ve (.bool false),
       ve (.bool false),
       ve (.bool false),
       ve undef,
       ve undef,
       ve undef,
       ve undef,
       ve undef,
       ve (.bool false),
       ve (.bool false)] hs24 (.eq (.eq (.eq (.eq (.eq (.eq (.eq (.eq (.eq (.eq (.eq (.eq (.eq (.eq (.eq (.eq (.nil))))))))))))))))) ?_ ?_
    · skip
      refine .o1 (tk rfl rfl fun _ w hn k => ⟨_, v_load rfl (k.fx 2 h26) (l_two Tryd.isAgg23 Tryd.sizeOf23 (hb50.new_ hn)), rfl⟩) ?_
      refine .o1 (ck rfl rfl rfl (fun _ w hn k => ⟨#[nv (asM a)], args1 (k.eq1 0 9 rfl), fun _ => by kernel_rfl, isNaN_c (asM a) _⟩) fun _ => congrArg Value.bool ht52) ?_
      refine .o1 (tk rfl rfl fun _ w hn k => ⟨_, v_not rfl (k.eq1 1 10 rfl), rfl⟩) ?_
      refine .o1 (tk rfl rfl fun _ w hn k => ⟨_, v_move rfl (k.eq1 2 11 rfl), rfl⟩) ?_
      refine .o1 (tg rfl rfl rfl (fun _ _ k => k.eq1 3 12 rfl) fun _ w hn k => ⟨_, v_load rfl (k.fx 3 h27) (l_two Tryd.isAgg23 Tryd.sizeOf23 (hb45.new_ hn)), rfl⟩) ?_
      refine .o1 (cg rfl rfl rfl (fun _ _ k => k.eq1 3 12 rfl) rfl (fun _ w hn k => ⟨#[nv (asM b)], args1 (k.eq1 4 13 rfl), fun _ => by kernel_rfl, isNaN_c (asM b) _⟩) fun _ => congrArg Value.bool ht61) ?_
      refine .o1 (tg rfl rfl rfl (fun _ _ k => k.eq1 3 12 rfl) fun _ w hn k => ⟨_, v_not rfl (k.eq1 5 14 rfl), rfl⟩) ?_
      refine .o1 (tk rfl rfl fun _ w hn k => ⟨_, v_pickT rfl (k.eq1 3 12 rfl) (k.eq1 6 15 rfl), rfl⟩) ?_
      refine .o1 (tk rfl rfl fun _ w hn k => ⟨_, v_move rfl (k.eq1 7 16 rfl), rfl⟩) ?_
      refine .o1 (sk rfl rfl rfl (fun _ _ _ k => k.eq1 8 17 rfl) (fun _ => rfl)) ?_
      refine .o1 (sk rfl rfl rfl (fun _ _ _ k => k.eq1 8 17 rfl) (fun _ => rfl)) ?_
      refine .o1 (sk rfl rfl rfl (fun _ _ _ k => k.eq1 8 17 rfl) (fun _ => rfl)) ?_
      refine .o1 (sk rfl rfl rfl (fun _ _ _ k => k.eq1 8 17 rfl) (fun _ => rfl)) ?_
      refine .o1 (sk rfl rfl rfl (fun _ _ _ k => k.eq1 8 17 rfl) (fun _ => rfl)) ?_
      refine .o1 (tk rfl rfl fun _ w hn k => ⟨_, v_pickF rfl (k.eq1 8 17 rfl) rfl, rfl⟩) ?_
      refine .o1 (tk rfl rfl fun _ w hn k => ⟨_, v_assign rfl (k.eq1 14 23 rfl), rfl⟩) ?_
      exact .nil
    intro a62 w63 hn64 ha65
    have hs66 := ha65.size.trans hs24
    have hd67 := ha65.defers.trans hd25
    have h68 := ha65.ge 15 4 rfl
    have hN69 := hN51.transNew hn64
    clear hs24 hd25 h26 h27 h28 hb50 hq17 hb45 hq18 hN51 ha65 hn64
    refine st_nil ?_
    refine hK _ _ ?_
    clear hK K
    refine wp_ret (ret_k hd67 (v := .bool false) (res_t rfl h68 _) ?_)
    refine ⟨?_, hN69⟩
    show Ending.returned (.bool false) = Ending.returned (.bool (lessM a b))
    first | rfl | (simp [lessM, lessA, ht52, ht61])
  have ht61d := of_decide_eq_false ht61
  refine wp_g0 [true, true, true, true, true, true, true, true, true, true, true, true, true, true, true, true] [] 24
    [ve (nv (asM a)),
     ve (.bool false),
     ve (.bool true),
     ve (.bool true),
     ve (nv (asM b)),
     ve (.bool false),
     ve (.bool true),
     ve (.bool true),
     ve (.bool true),
     ve (nv (asM a)),
     ve (iv (rankM (asM a))),
     ve (nv (asM b)),
     ve (iv (rankM (asM b))),
     ve (.bool (decide ((rankM (asM a)) < (rankM (asM b))))),
     ve (.bool (decide ((rankM (asM a)) < (rankM (asM b))))),
     ve (.bool (decide ((rankM (asM a)) < (rankM (asM b)))))] hs24 (.eq (.eq (.eq (.eq (.eq (.eq (.eq (.eq (.eq (.eq (.eq (.eq (.eq (.eq (.eq (.eq (.nil))))))))))))))))) ?_ ?_
  · skip
    refine .o1 (tk rfl rfl fun _ w hn k => ⟨_, v_load rfl (k.fx 2 h26) (l_two Tryd.isAgg23 Tryd.sizeOf23 (hb50.new_ hn)), rfl⟩) ?_
    refine .o1 (ck rfl rfl rfl (fun _ w hn k => ⟨#[nv (asM a)], args1 (k.eq1 0 9 rfl), fun _ => by kernel_rfl, isNaN_c (asM a) _⟩) fun _ => congrArg Value.bool ht52) ?_
    refine .o1 (tk rfl rfl fun _ w hn k => ⟨_, v_not rfl (k.eq1 1 10 rfl), rfl⟩) ?_
    refine .o1 (tk rfl rfl fun _ w hn k => ⟨_, v_move rfl (k.eq1 2 11 rfl), rfl⟩) ?_
    refine .o1 (tg rfl rfl rfl (fun _ _ k => k.eq1 3 12 rfl) fun _ w hn k => ⟨_, v_load rfl (k.fx 3 h27) (l_two Tryd.isAgg23 Tryd.sizeOf23 (hb45.new_ hn)), rfl⟩) ?_
    refine .o1 (cg rfl rfl rfl (fun _ _ k => k.eq1 3 12 rfl) rfl (fun _ w hn k => ⟨#[nv (asM b)], args1 (k.eq1 4 13 rfl), fun _ => by kernel_rfl, isNaN_c (asM b) _⟩) fun _ => congrArg Value.bool ht61) ?_
    refine .o1 (tg rfl rfl rfl (fun _ _ k => k.eq1 3 12 rfl) fun _ w hn k => ⟨_, v_not rfl (k.eq1 5 14 rfl), rfl⟩) ?_
    refine .o1 (tk rfl rfl fun _ w hn k => ⟨_, v_pickT rfl (k.eq1 3 12 rfl) (k.eq1 6 15 rfl), rfl⟩) ?_
    refine .o1 (tk rfl rfl fun _ w hn k => ⟨_, v_move rfl (k.eq1 7 16 rfl), rfl⟩) ?_
    refine .o1 (tg rfl rfl rfl (fun _ _ k => k.eq1 8 17 rfl) fun _ w hn k => ⟨_, v_load rfl (k.fx 2 h26) (l_two Tryd.isAgg23 Tryd.sizeOf23 (hb50.new_ hn)), rfl⟩) ?_
    refine .o1 (cg rfl rfl rfl (fun _ _ k => k.eq1 8 17 rfl) rfl (fun _ w hn k => ⟨#[nv (asM a)], args1 (k.eq1 9 18 rfl), fun _ => by kernel_rfl, rank_c (asM a) _⟩) fun _ => rfl) ?_
    refine .o1 (tg rfl rfl rfl (fun _ _ k => k.eq1 8 17 rfl) fun _ w hn k => ⟨_, v_load rfl (k.fx 3 h27) (l_two Tryd.isAgg23 Tryd.sizeOf23 (hb45.new_ hn)), rfl⟩) ?_
    refine .o1 (cg rfl rfl rfl (fun _ _ k => k.eq1 8 17 rfl) rfl (fun _ w hn k => ⟨#[nv (asM b)], args1 (k.eq1 11 20 rfl), fun _ => by kernel_rfl, rank_c (asM b) _⟩) fun _ => rfl) ?_
    refine .o1 (tg rfl rfl rfl (fun _ _ k => k.eq1 8 17 rfl) fun _ w hn k => ⟨_, v_bin rfl (k.eq1 10 19 rfl) (k.eq1 12 21 rfl) (fun _ => rfl) (r_lssK rfl), rfl⟩) ?_
    refine .o1 (tk rfl rfl fun _ w hn k => ⟨_, v_pickT rfl (k.eq1 8 17 rfl) (k.eq1 13 22 rfl), rfl⟩) ?_
    refine .o1 (tk rfl rfl fun _ w hn k => ⟨_, v_assign rfl (k.eq1 14 23 rfl), rfl⟩) ?_
    exact .nil
  intro a70 w71 hn72 ha73
  have hs74 := ha73.size.trans hs24
  have hd75 := ha73.defers.trans hd25
  have h76 := ha73.ge 15 4 rfl
  have hN77 := hN51.transNew hn72
  clear hs24 hd25 h26 h27 h28 hb50 hq17 hb45 hq18 hN51 ha73 hn72
  refine st_nil ?_
  refine hK _ _ ?_
  clear hK K
  refine wp_ret (ret_k hd75 (v := .bool (decide ((rankM (asM a)) < (rankM (asM b))))) (res_t rfl h76 _) ?_)
  refine ⟨?_, hN77⟩
  show Ending.returned (.bool (decide ((rankM (asM a)) < (rankM (asM b))))) = Ending.returned (.bool (lessM a b))
  first | rfl | (simp [lessM, lessA, ht52, ht61])
set_option maxHeartbeats 4000000 in
set_option maxRecDepth 100000 in
theorem equal_c (a : Nm) (b : Nm) (w : World) : Calls Tryd.prog 50 #[nv a, nv b] w (IsRet (.bool (equalM a b)) w) := by
  refine enter_abs Tryd.func50 rfl fun a0 hs0 hd0 hp => ?_
  have hs0 : a0.tmps.size = 24 := hs0
  have hN0 : New w w := Upd.refl _ _
  have hp0 : a0.eval (.tmp 0) = nv a := hp 0 _ rfl
  have hp1 : a0.eval (.tmp 1) = nv b := hp 1 _ rfl
  clear hp
  refine wp_seq_k fun K hK => ?_
  refine wp_g [true, true, true] [] [] 24
    [IsNew w 23 [iv a.k, iv a.n],
     IsNew w 23 [iv b.k, iv b.n],
     ve (.bool false)]
    [0, 1] (newsCons (fun v w h => IsNew.old h) (newsCons (fun v w h => IsNew.old h) newsNil)) hs0 (.nw (.nw (.eq (.nil)))) ?_ (fun i h => by cases h) ?_
  · skip
    refine .o2 (step_allocN (cs := [iv a.k, iv a.n]) (t := 23) rfl (noG rfl) (fun _ w hn k => v_box rfl (k.fx 0 hp0) (fun w => rfl)) (fun q _ hq hb => ⟨q, rfl, hq, hb⟩)) ?_
    refine .o2 (step_allocN (cs := [iv b.k, iv b.n]) (t := 23) rfl (noG rfl) (fun _ w hn k => v_box rfl (k.fx 1 hp1) (fun w => rfl)) (fun q _ hq hb => ⟨q, rfl, hq, hb⟩)) ?_
    refine .o1 (tk rfl rfl fun _ w hn k => ⟨_, v_assign rfl rfl, rfl⟩) ?_
    exact .nil
  intro a1 w2 hn3 ha4
  have hs5 := ha4.size.trans hs0
  have hd6 := ha4.defers.trans hd0
  obtain ⟨q8, h7, hq9, hb10⟩ : IsNew _ _ _ _ _ := ha4.got 0 2 rfl (by kernel_rfl)
  obtain ⟨q12, h11, hq13, hb14⟩ : IsNew _ _ _ _ _ := ha4.got 1 3 rfl (by kernel_rfl)
  have h15 := ha4.ge 2 4 rfl
  have hne16 : q8 ≠ q12 := ha4.ne 0 1 2 3 h7 h11
  have hq17 := Nat.le_trans hN0.size hq9
  have hq18 := Nat.le_trans hN0.size hq13
  have hN19 := hN0.transNew hn3
  clear hs0 hd0 hp0 hp1 hq9 hq13 hN0 ha4 hn3
  refine st_nil ?_
  refine hK _ _ ?_
  clear hK K
  refine wp_seq_k fun K hK => ?_
  refine wp_g0 [true, true, true, true, false, false] [(4, false), (5, false)] 24
    [ve (nv a),
     ve (nv (asM a)),
     ve (nv b),
     ve (nv (asM b)),
     vt,
     vt] hs5 (.eq (.eq (.eq (.eq (.tt (.tt (.nil))))))) ?_ ?_
  · skip
    refine .o1 (tk rfl rfl fun _ w hn k => ⟨_, v_load rfl (k.fx 2 h7) (l_two Tryd.isAgg23 Tryd.sizeOf23 (hb10.new_ hn)), rfl⟩) ?_
    refine .o1 (ck rfl rfl rfl (fun _ w hn k => ⟨#[nv a], args1 (k.eq1 0 5 rfl), fun _ => by kernel_rfl, as_c a _⟩) fun _ => rfl) ?_
    refine .o1 (tk rfl rfl fun _ w hn k => ⟨_, v_load rfl (k.fx 3 h11) (l_two Tryd.isAgg23 Tryd.sizeOf23 (hb14.new_ hn)), rfl⟩) ?_
    refine .o1 (ck rfl rfl rfl (fun _ w hn k => ⟨#[nv b], args1 (k.eq1 2 7 rfl), fun _ => by kernel_rfl, as_c b _⟩) fun _ => rfl) ?_
    refine .off ?_
    refine .off ?_
    exact .nil
  intro a20 w21 hn22 ha23
  have hs24 := ha23.size.trans hs5
  have hd25 := ha23.defers.trans hd6
  have h26 := ha23.fx 2 h7
  have h27 := ha23.fx 3 h11
  have h28 := ha23.fx 4 h15
  have h29 := ha23.ge 1 6 rfl
  have h30 := ha23.ge 3 8 rfl
  have hb31 := hb10.new_ hn22
  have hb32 := hb14.new_ hn22
  have hN33 := hN19.transNew hn22
  clear hs5 hd6 h7 h11 h15 hb10 hb14 hN19 ha23 hn22
  have hbd_a := as_bd a
  have hbd_b := as_bd b
  obtain ⟨w34, -, hst35, hb36, hu37, hf38⟩ := s_two (v0 := iv ((asM a).k)) (v1 := iv ((asM a).n)) Tryd.sizeOf23 rfl rfl rfl hb31
  refine st_act rfl rfl fun K39 hL40 => a_store' rfl h26 h29 hst35 (hL40 _ _ trivial ?_)
  have hb41 := hf38 _ _ _ (fun h => hne16 h.symm) hb32
  have hN42 := hN33.trans hu37 (fun k hk hkb => by subst hkb; omega)
  clear hb31 hst35 K39 hL40 hN33 hb32 hu37 hf38
  obtain ⟨w43, -, hst44, hb45, hu46, hf47⟩ := s_two (v0 := iv ((asM b).k)) (v1 := iv ((asM b).n)) Tryd.sizeOf23 rfl rfl rfl hb41
  refine st_act rfl rfl fun K48 hL49 => a_store' rfl h27 h30 hst44 (hL49 _ _ trivial ?_)
  have hb50 := hf47 _ _ _ (hne16) hb36
  have hN51 := hN42.trans hu46 (fun k hk hkb => by subst hkb; omega)
  clear hb41 hst44 K48 hL49 hN42 hb36 hu46 hf47
  refine st_nil ?_
  clear h29 h30
  refine hK _ _ ?_
  clear hK K
  refine wp_seq_k fun K hK => ?_
  rcases Bool.eq_false_or_eq_true (decide (((asM a).k) = 2)) with ht52 | ht52
  · skip
    have ht52d := of_decide_eq_true ht52
    refine wp_g0 [true, true, true, true, true, true, true, true, true, true, true, true, true, true, true, true] [] 24
      [ve (nv (asM a)),
       ve (.bool true),
       ve (.bool false),
       ve (.bool false),
       ve undef,
       ve undef,
       ve undef,
       ve (.bool false),
       ve (.bool false),
       ve undef,
       ve undef,
       ve undef,
       ve undef,
       ve undef,
       ve (.bool false),
       ve (.bool false)] hs24 (.eq (.eq (.eq (.eq (.eq (.eq (.eq (.eq (.eq (.eq (.eq (.eq (.eq (.eq (.eq (.eq (.nil))))))))))))))))) ?_ ?_
    · skip
      refine .o1 (tk rfl rfl fun _ w hn k => ⟨_, v_load rfl (k.fx 2 h26) (l_two Tryd.isAgg23 Tryd.sizeOf23 (hb50.new_ hn)), rfl⟩) ?_
      refine .o1 (ck rfl rfl rfl (fun _ w hn k => ⟨#[nv (asM a)], args1 (k.eq1 0 9 rfl), fun _ => by kernel_rfl, isNaN_c (asM a) _⟩) fun _ => congrArg Value.bool ht52) ?_
      refine .o1 (tk rfl rfl fun _ w hn k => ⟨_, v_not rfl (k.eq1 1 10 rfl), rfl⟩) ?_
      refine .o1 (tk rfl rfl fun _ w hn k => ⟨_, v_move rfl (k.eq1 2 11 rfl), rfl⟩) ?_
      refine .o1 (sk rfl rfl rfl (fun _ _ _ k => k.eq1 3 12 rfl) (fun _ => rfl)) ?_
      refine .o1 (sk rfl rfl rfl (fun _ _ _ k => k.eq1 3 12 rfl) (fun _ => rfl)) ?_
      refine .o1 (sk rfl rfl rfl (fun _ _ _ k => k.eq1 3 12 rfl) (fun _ => rfl)) ?_
      refine .o1 (tk rfl rfl fun _ w hn k => ⟨_, v_pickF rfl (k.eq1 3 12 rfl) rfl, rfl⟩) ?_
      refine .o1 (tk rfl rfl fun _ w hn k => ⟨_, v_move rfl (k.eq1 7 16 rfl), rfl⟩) ?_
      refine .o1 (sk rfl rfl rfl (fun _ _ _ k => k.eq1 8 17 rfl) (fun _ => rfl)) ?_
      refine .o1 (sk rfl rfl rfl (fun _ _ _ k => k.eq1 8 17 rfl) (fun _ => rfl)) ?_
      refine .o1 (sk rfl rfl rfl (fun _ _ _ k => k.eq1 8 17 rfl) (fun _ => rfl)) ?_
      refine .o1 (sk rfl rfl rfl (fun _ _ _ k => k.eq1 8 17 rfl) (fun _ => rfl)) ?_
      refine .o1 (sk rfl rfl rfl (fun _ _ _ k => k.eq1 8 17 rfl) (fun _ => rfl)) ?_
      refine .o1 (tk rfl rfl fun _ w hn k => ⟨_, v_pickF rfl (k.eq1 8 17 rfl) rfl, rfl⟩) ?_
      refine .o1 (tk rfl rfl fun _ w hn k => ⟨_, v_assign rfl (k.eq1 14 23 rfl), rfl⟩) ?_
      exact .nil
    intro a53 w54 hn55 ha56
    have hs57 := ha56.size.trans hs24
    have hd58 := ha56.defers.trans hd25
    have h59 := ha56.ge 15 4 rfl
    have hN60 := hN51.transNew hn55
    clear hs24 hd25 h26 h27 h28 hb50 hq17 hb45 hq18 hN51 ha56 hn55
    refine st_nil ?_
    refine hK _ _ ?_
    clear hK K
    refine wp_ret (ret_k hd58 (v := .bool false) (res_t rfl h59 _) ?_)
    refine ⟨?_, hN60⟩
    show Ending.returned (.bool false) = Ending.returned (.bool (equalM a b))
    first | rfl | (simp [equalM, equalA, ht52])
  have ht52d := of_decide_eq_false ht52
  rcases Bool.eq_false_or_eq_true (decide (((asM b).k) = 2)) with ht61 | ht61
  · skip
    have ht61d := of_decide_eq_true ht61
    refine wp_g0 [true, true, true, true, true, true, true, true, true, true, true, true, true, true, true, true] [] 24
      [ve (nv (asM a)),
       ve (.bool false),
       ve (.bool true),
       ve (.bool true),
       ve (nv (asM b)),
       ve (.bool true),
       ve (.bool false),
       ve (.bool false),
       ve (.bool false),
       ve undef,
       ve undef,
       ve undef,
       ve undef,
       ve undef,
       ve (.bool false),
       ve (.bool false)] hs24 (.eq (.eq (.eq (.eq (.eq (.eq (.eq (.eq (.eq (.eq (.eq (.eq (.eq (.eq (.eq (.eq (.nil))))))))))))))))) ?_ ?_
    · skip
      refine .o1 (tk rfl rfl fun _ w hn k => ⟨_, v_load rfl (k.fx 2 h26) (l_two Tryd.isAgg23 Tryd.sizeOf23 (hb50.new_ hn)), rfl⟩) ?_
      refine .o1 (ck rfl rfl rfl (fun _ w hn k => ⟨#[nv (asM a)], args1 (k.eq1 0 9 rfl), fun _ => by kernel_rfl, isNaN_c (asM a) _⟩) fun _ => congrArg Value.bool ht52) ?_
      refine .o1 (tk rfl rfl fun _ w hn k => ⟨_, v_not rfl (k.eq1 1 10 rfl), rfl⟩) ?_
      refine .o1 (tk rfl rfl fun _ w hn k => ⟨_, v_move rfl (k.eq1 2 11 rfl), rfl⟩) ?_
      refine .o1 (tg rfl rfl rfl (fun _ _ k => k.eq1 3 12 rfl) fun _ w hn k => ⟨_, v_load rfl (k.fx 3 h27) (l_two Tryd.isAgg23 Tryd.sizeOf23 (hb45.new_ hn)), rfl⟩) ?_
      refine .o1 (cg rfl rfl rfl (fun _ _ k => k.eq1 3 12 rfl) rfl (fun _ w hn k => ⟨#[nv (asM b)], args1 (k.eq1 4 13 rfl), fun _ => by kernel_rfl, isNaN_c (asM b) _⟩) fun _ => congrArg Value.bool ht61) ?_
      refine .o1 (tg rfl rfl rfl (fun _ _ k => k.eq1 3 12 rfl) fun _ w hn k => ⟨_, v_not rfl (k.eq1 5 14 rfl), rfl⟩) ?_
      refine .o1 (tk rfl rfl fun _ w hn k => ⟨_, v_pickT rfl (k.eq1 3 12 rfl) (k.eq1 6 15 rfl), rfl⟩) ?_
      refine .o1 (tk rfl rfl fun _ w hn k => ⟨_, v_move rfl (k.eq1 7 16 rfl), rfl⟩) ?_
      refine .o1 (sk rfl rfl rfl (fun _ _ _ k => k.eq1 8 17 rfl) (fun _ => rfl)) ?_
      refine .o1 (sk rfl rfl rfl (fun _ _ _ k => k.eq1 8 17 rfl) (fun _ => rfl)) ?_
      refine .o1 (sk rfl rfl rfl (fun _ _ _ k => k.eq1 8 17 rfl) (fun _ => rfl)) ?_
      refine .o1 (sk rfl rfl rfl (fun _ _ _ k => k.eq1 8 17 rfl) (fun _ => rfl)) ?_
      refine .o1 (sk rfl rfl rfl (fun _ _ _ k => k.eq1 8 17 rfl) (fun _ => rfl)) ?_
      refine .o1 (tk rfl rfl fun _ w hn k => ⟨_, v_pickF rfl (k.eq1 8 17 rfl) rfl, rfl⟩) ?_
      refine .o1 (tk rfl rfl fun _ w hn k => ⟨_, v_assign rfl (k.eq1 14 23 rfl), rfl⟩) ?_
      exact .nil
    intro a62 w63 hn64 ha65
    have hs66 := ha65.size.trans hs24
    have hd67 := ha65.defers.trans hd25
    have h68 := ha65.ge 15 4 rfl
    have hN69 := hN51.transNew hn64
    clear hs24 hd25 h26 h27 h28 hb50 hq17 hb45 hq18 hN51 ha65 hn64
    refine st_nil ?_
    refine hK _ _ ?_
    clear hK K
    refine wp_ret (ret_k hd67 (v := .bool false) (res_t rfl h68 _) ?_)
    refine ⟨?_, hN69⟩
    show Ending.returned (.bool false) = Ending.returned (.bool (equalM a b))
    first | rfl | (simp [equalM, equalA, ht52, ht61])
  have ht61d := of_decide_eq_false ht61
  refine wp_g0 [true, true, true, true, true, true, true, true, true, true, true, true, true, true, true, true] [] 24
    [ve (nv (asM a)),
     ve (.bool false),
     ve (.bool true),
     ve (.bool true),
     ve (nv (asM b)),
     ve (.bool false),
     ve (.bool true),
     ve (.bool true),
     ve (.bool true),
     ve (nv (asM a)),
     ve (iv (rankM (asM a))),
     ve (nv (asM b)),
     ve (iv (rankM (asM b))),
     ve (.bool (decide ((rankM (asM a)) = (rankM (asM b))))),
     ve (.bool (decide ((rankM (asM a)) = (rankM (asM b))))),
     ve (.bool (decide ((rankM (asM a)) = (rankM (asM b)))))] hs24 (.eq (.eq (.eq (.eq (.eq (.eq (.eq (.eq (.eq (.eq (.eq (.eq (.eq (.eq (.eq (.eq (.nil))))))))))))))))) ?_ ?_
  · skip
    refine .o1 (tk rfl rfl fun _ w hn k => ⟨_, v_load rfl (k.fx 2 h26) (l_two Tryd.isAgg23 Tryd.sizeOf23 (hb50.new_ hn)), rfl⟩) ?_
    refine .o1 (ck rfl rfl rfl (fun _ w hn k => ⟨#[nv (asM a)], args1 (k.eq1 0 9 rfl), fun _ => by kernel_rfl, isNaN_c (asM a) _⟩) fun _ => congrArg Value.bool ht52) ?_
    refine .o1 (tk rfl rfl fun _ w hn k => ⟨_, v_not rfl (k.eq1 1 10 rfl), rfl⟩) ?_
    refine .o1 (tk rfl rfl fun _ w hn k => ⟨_, v_move rfl (k.eq1 2 11 rfl), rfl⟩) ?_
    refine .o1 (tg rfl rfl rfl (fun _ _ k => k.eq1 3 12 rfl) fun _ w hn k => ⟨_, v_load rfl (k.fx 3 h27) (l_two Tryd.isAgg23 Tryd.sizeOf23 (hb45.new_ hn)), rfl⟩) ?_
    refine .o1 (cg rfl rfl rfl (fun _ _ k => k.eq1 3 12 rfl) rfl (fun _ w hn k => ⟨#[nv (asM b)], args1 (k.eq1 4 13 rfl), fun _ => by kernel_rfl, isNaN_c (asM b) _⟩) fun _ => congrArg Value.bool ht61) ?_
    refine .o1 (tg rfl rfl rfl (fun _ _ k => k.eq1 3 12 rfl) fun _ w hn k => ⟨_, v_not rfl (k.eq1 5 14 rfl), rfl⟩) ?_
    refine .o1 (tk rfl rfl fun _ w hn k => ⟨_, v_pickT rfl (k.eq1 3 12 rfl) (k.eq1 6 15 rfl), rfl⟩) ?_
    refine .o1 (tk rfl rfl fun _ w hn k => ⟨_, v_move rfl (k.eq1 7 16 rfl), rfl⟩) ?_
    refine .o1 (tg rfl rfl rfl (fun _ _ k => k.eq1 8 17 rfl) fun _ w hn k => ⟨_, v_load rfl (k.fx 2 h26) (l_two Tryd.isAgg23 Tryd.sizeOf23 (hb50.new_ hn)), rfl⟩) ?_
    refine .o1 (cg rfl rfl rfl (fun _ _ k => k.eq1 8 17 rfl) rfl (fun _ w hn k => ⟨#[nv (asM a)], args1 (k.eq1 9 18 rfl), fun _ => by kernel_rfl, rank_c (asM a) _⟩) fun _ => rfl) ?_
    refine .o1 (tg rfl rfl rfl (fun _ _ k => k.eq1 8 17 rfl) fun _ w hn k => ⟨_, v_load rfl (k.fx 3 h27) (l_two Tryd.isAgg23 Tryd.sizeOf23 (hb45.new_ hn)), rfl⟩) ?_
    refine .o1 (cg rfl rfl rfl (fun _ _ k => k.eq1 8 17 rfl) rfl (fun _ w hn k => ⟨#[nv (asM b)], args1 (k.eq1 11 20 rfl), fun _ => by kernel_rfl, rank_c (asM b) _⟩) fun _ => rfl) ?_
    refine .o1 (tg rfl rfl rfl (fun _ _ k => k.eq1 8 17 rfl) fun _ w hn k => ⟨_, v_bin rfl (k.eq1 10 19 rfl) (k.eq1 12 21 rfl) (fun _ => rfl) (r_eql rfl), rfl⟩) ?_
    refine .o1 (tk rfl rfl fun _ w hn k => ⟨_, v_pickT rfl (k.eq1 8 17 rfl) (k.eq1 13 22 rfl), rfl⟩) ?_
    refine .o1 (tk rfl rfl fun _ w hn k => ⟨_, v_assign rfl (k.eq1 14 23 rfl), rfl⟩) ?_
    exact .nil
  intro a70 w71 hn72 ha73
  have hs74 := ha73.size.trans hs24
  have hd75 := ha73.defers.trans hd25
  have h76 := ha73.ge 15 4 rfl
  have hN77 := hN51.transNew hn72
  clear hs24 hd25 h26 h27 h28 hb50 hq17 hb45 hq18 hN51 ha73 hn72
  refine st_nil ?_
  refine hK _ _ ?_
  clear hK K
  refine wp_ret (ret_k hd75 (v := .bool (decide ((rankM (asM a)) = (rankM (asM b))))) (res_t rfl h76 _) ?_)
  refine ⟨?_, hN77⟩
  show Ending.returned (.bool (decide ((rankM (asM a)) = (rankM (asM b))))) = Ending.returned (.bool (equalM a b))
  first | rfl | (simp [equalM, equalA, ht52, ht61])
set_option maxHeartbeats 4000000 in
set_option maxRecDepth 100000 in
theorem same_c (a : Nm) (b : Nm) (w : World) : Calls Tryd.prog 28 #[nv a, nv b] w (IsRet (.bool (sameM a b)) w) := by
  refine enter_abs Tryd.func28 rfl fun a0 hs0 hd0 hp => ?_
  have hs0 : a0.tmps.size = 21 := hs0
  have hN0 : New w w := Upd.refl _ _
  have hp0 : a0.eval (.tmp 0) = nv a := hp 0 _ rfl
  have hp1 : a0.eval (.tmp 1) = nv b := hp 1 _ rfl
  clear hp
  refine wp_seq_k fun K hK => ?_
  refine wp_g [true, true, true] [] [] 21
    [IsNew w 23 [iv a.k, iv a.n],
     IsNew w 23 [iv b.k, iv b.n],
     ve (.bool false)]
    [0, 1] (newsCons (fun v w h => IsNew.old h) (newsCons (fun v w h => IsNew.old h) newsNil)) hs0 (.nw (.nw (.eq (.nil)))) ?_ (fun i h => by cases h) ?_
  · skip
    refine .o2 (step_allocN (cs := [iv a.k, iv a.n]) (t := 23) rfl (noG rfl) (fun _ w hn k => v_box rfl (k.fx 0 hp0) (fun w => rfl)) (fun q _ hq hb => ⟨q, rfl, hq, hb⟩)) ?_
    refine .o2 (step_allocN (cs := [iv b.k, iv b.n]) (t := 23) rfl (noG rfl) (fun _ w hn k => v_box rfl (k.fx 1 hp1) (fun w => rfl)) (fun q _ hq hb => ⟨q, rfl, hq, hb⟩)) ?_
    refine .o1 (tk rfl rfl fun _ w hn k => ⟨_, v_assign rfl rfl, rfl⟩) ?_
    exact .nil
  intro a1 w2 hn3 ha4
  have hs5 := ha4.size.trans hs0
  have hd6 := ha4.defers.trans hd0
  obtain ⟨q8, h7, hq9, hb10⟩ : IsNew _ _ _ _ _ := ha4.got 0 2 rfl (by kernel_rfl)
  obtain ⟨q12, h11, hq13, hb14⟩ : IsNew _ _ _ _ _ := ha4.got 1 3 rfl (by kernel_rfl)
  have h15 := ha4.ge 2 4 rfl
  have hne16 : q8 ≠ q12 := ha4.ne 0 1 2 3 h7 h11
  have hq17 := Nat.le_trans hN0.size hq9
  have hq18 := Nat.le_trans hN0.size hq13
  have hN19 := hN0.transNew hn3
  clear hs0 hd0 hp0 hp1 hq9 hq13 hN0 ha4 hn3
  refine st_nil ?_
  refine hK _ _ ?_
  clear hK K
  refine wp_seq_k fun K hK => ?_
  refine wp_g0 [true, true, true, true, false, false] [(4, false), (5, false)] 21
    [ve (nv a),
     ve (nv (asM a)),
     ve (nv b),
     ve (nv (asM b)),
     vt,
     vt] hs5 (.eq (.eq (.eq (.eq (.tt (.tt (.nil))))))) ?_ ?_
  · skip
    refine .o1 (tk rfl rfl fun _ w hn k => ⟨_, v_load rfl (k.fx 2 h7) (l_two Tryd.isAgg23 Tryd.sizeOf23 (hb10.new_ hn)), rfl⟩) ?_
    refine .o1 (ck rfl rfl rfl (fun _ w hn k => ⟨#[nv a], args1 (k.eq1 0 5 rfl), fun _ => by kernel_rfl, as_c a _⟩) fun _ => rfl) ?_
    refine .o1 (tk rfl rfl fun _ w hn k => ⟨_, v_load rfl (k.fx 3 h11) (l_two Tryd.isAgg23 Tryd.sizeOf23 (hb14.new_ hn)), rfl⟩) ?_
    refine .o1 (ck rfl rfl rfl (fun _ w hn k => ⟨#[nv b], args1 (k.eq1 2 7 rfl), fun _ => by kernel_rfl, as_c b _⟩) fun _ => rfl) ?_
    refine .off ?_
    refine .off ?_
    exact .nil
  intro a20 w21 hn22 ha23
  have hs24 := ha23.size.trans hs5
  have hd25 := ha23.defers.trans hd6
  have h26 := ha23.fx 2 h7
  have h27 := ha23.fx 3 h11
  have h28 := ha23.fx 4 h15
  have h29 := ha23.ge 1 6 rfl
  have h30 := ha23.ge 3 8 rfl
  have hb31 := hb10.new_ hn22
  have hb32 := hb14.new_ hn22
  have hN33 := hN19.transNew hn22
  clear hs5 hd6 h7 h11 h15 hb10 hb14 hN19 ha23 hn22
  have hbd_a := as_bd a
  have hbd_b := as_bd b
  obtain ⟨w34, -, hst35, hb36, hu37, hf38⟩ := s_two (v0 := iv ((asM a).k)) (v1 := iv ((asM a).n)) Tryd.sizeOf23 rfl rfl rfl hb31
  refine st_act rfl rfl fun K39 hL40 => a_store' rfl h26 h29 hst35 (hL40 _ _ trivial ?_)
  have hb41 := hf38 _ _ _ (fun h => hne16 h.symm) hb32
  have hN42 := hN33.trans hu37 (fun k hk hkb => by subst hkb; omega)
  clear hb31 hst35 K39 hL40 hN33 hb32 hu37 hf38
  obtain ⟨w43, -, hst44, hb45, hu46, hf47⟩ := s_two (v0 := iv ((asM b).k)) (v1 := iv ((asM b).n)) Tryd.sizeOf23 rfl rfl rfl hb41
  refine st_act rfl rfl fun K48 hL49 => a_store' rfl h27 h30 hst44 (hL49 _ _ trivial ?_)
  have hb50 := hf47 _ _ _ (hne16) hb36
  have hN51 := hN42.trans hu46 (fun k hk hkb => by subst hkb; omega)
  clear hb41 hst44 K48 hL49 hN42 hb36 hu46 hf47
  refine st_nil ?_
  clear h29 h30
  refine hK _ _ ?_
  clear hK K
  refine wp_seq_k fun K hK => ?_
  rcases Bool.eq_false_or_eq_true (decide (((asM a).k) = ((asM b).k))) with ht52 | ht52
  · skip
    have ht52d := of_decide_eq_true ht52
    refine wp_g0 [true, true, true, true, true, true, true, true, true, true, true, true, true] [] 21
      [ve (pv q8),
       ve (iv ((asM a).k)),
       ve (pv q12),
       ve (iv ((asM b).k)),
       ve (.bool true),
       ve (.bool true),
       ve (.pointer (some ⟨q8, 1, none⟩)),
       ve (iv ((asM a).n)),
       ve (.pointer (some ⟨q12, 1, none⟩)),
       ve (iv ((asM b).n)),
       ve (.bool (decide (((asM a).n) = ((asM b).n)))),
       ve (.bool (decide (((asM a).n) = ((asM b).n)))),
       ve (.bool (decide (((asM a).n) = ((asM b).n))))] hs24 (.eq (.eq (.eq (.eq (.eq (.eq (.eq (.eq (.eq (.eq (.eq (.eq (.eq (.nil)))))))))))))) ?_ ?_
    · skip
      refine .o1 (tk rfl rfl fun _ w hn k => ⟨_, v_field rfl (k.fx 2 h26) (fun w => rfl), rfl⟩) ?_
      refine .o1 (tk rfl rfl fun _ w hn k => ⟨_, v_load rfl (k.eq1 0 9 rfl) (l_one Tryd.isAgg3 ((hb50.new_ hn).cell 0)), rfl⟩) ?_
      refine .o1 (tk rfl rfl fun _ w hn k => ⟨_, v_field rfl (k.fx 3 h27) (fun w => rfl), rfl⟩) ?_
      refine .o1 (tk rfl rfl fun _ w hn k => ⟨_, v_load rfl (k.eq1 2 11 rfl) (l_one Tryd.isAgg3 ((hb45.new_ hn).cell 0)), rfl⟩) ?_
      refine .o1 (tk rfl rfl fun _ w hn k => ⟨_, v_bin rfl (k.eq1 1 10 rfl) (k.eq1 3 12 rfl) (fun _ => rfl) (r_eql ht52), rfl⟩) ?_
      refine .o1 (tk rfl rfl fun _ w hn k => ⟨_, v_move rfl (k.eq1 4 13 rfl), rfl⟩) ?_
      refine .o1 (tg rfl rfl rfl (fun _ _ k => k.eq1 5 14 rfl) fun _ w hn k => ⟨_, v_field rfl (k.fx 2 h26) (fun w => rfl), rfl⟩) ?_
      refine .o1 (tg rfl rfl rfl (fun _ _ k => k.eq1 5 14 rfl) fun _ w hn k => ⟨_, v_load rfl (k.eq1 6 15 rfl) (l_one Tryd.isAgg3 ((hb50.new_ hn).cell 1)), rfl⟩) ?_
      refine .o1 (tg rfl rfl rfl (fun _ _ k => k.eq1 5 14 rfl) fun _ w hn k => ⟨_, v_field rfl (k.fx 3 h27) (fun w => rfl), rfl⟩) ?_
      refine .o1 (tg rfl rfl rfl (fun _ _ k => k.eq1 5 14 rfl) fun _ w hn k => ⟨_, v_load rfl (k.eq1 8 17 rfl) (l_one Tryd.isAgg3 ((hb45.new_ hn).cell 1)), rfl⟩) ?_
      refine .o1 (tg rfl rfl rfl (fun _ _ k => k.eq1 5 14 rfl) fun _ w hn k => ⟨_, v_bin rfl (k.eq1 7 16 rfl) (k.eq1 9 18 rfl) (fun _ => rfl) (r_eql rfl), rfl⟩) ?_
      refine .o1 (tk rfl rfl fun _ w hn k => ⟨_, v_pickT rfl (k.eq1 5 14 rfl) (k.eq1 10 19 rfl), rfl⟩) ?_
      refine .o1 (tk rfl rfl fun _ w hn k => ⟨_, v_assign rfl (k.eq1 11 20 rfl), rfl⟩) ?_
      exact .nil
    intro a53 w54 hn55 ha56
    have hs57 := ha56.size.trans hs24
    have hd58 := ha56.defers.trans hd25
    have h59 := ha56.ge 12 4 rfl
    have hN60 := hN51.transNew hn55
    clear hs24 hd25 h26 h27 h28 hb50 hq17 hb45 hq18 hN51 ha56 hn55
    refine st_nil ?_
    refine hK _ _ ?_
    clear hK K
    refine wp_ret (ret_k hd58 (v := .bool (decide (((asM a).n) = ((asM b).n)))) (res_t rfl h59 _) ?_)
    refine ⟨?_, hN60⟩
    show Ending.returned (.bool (decide (((asM a).n) = ((asM b).n)))) = Ending.returned (.bool (sameM a b))
    first | rfl | (simp [sameM, ht52])
  have ht52d := of_decide_eq_false ht52
  refine wp_g0 [true, true, true, true, true, true, true, true, true, true, true, true, true] [] 21
    [ve (pv q8),
     ve (iv ((asM a).k)),
     ve (pv q12),
     ve (iv ((asM b).k)),
     ve (.bool false),
     ve (.bool false),
     ve undef,
     ve undef,
     ve undef,
     ve undef,
     ve undef,
     ve (.bool false),
     ve (.bool false)] hs24 (.eq (.eq (.eq (.eq (.eq (.eq (.eq (.eq (.eq (.eq (.eq (.eq (.eq (.nil)))))))))))))) ?_ ?_
  · skip
    refine .o1 (tk rfl rfl fun _ w hn k => ⟨_, v_field rfl (k.fx 2 h26) (fun w => rfl), rfl⟩) ?_
    refine .o1 (tk rfl rfl fun _ w hn k => ⟨_, v_load rfl (k.eq1 0 9 rfl) (l_one Tryd.isAgg3 ((hb50.new_ hn).cell 0)), rfl⟩) ?_
    refine .o1 (tk rfl rfl fun _ w hn k => ⟨_, v_field rfl (k.fx 3 h27) (fun w => rfl), rfl⟩) ?_
    refine .o1 (tk rfl rfl fun _ w hn k => ⟨_, v_load rfl (k.eq1 2 11 rfl) (l_one Tryd.isAgg3 ((hb45.new_ hn).cell 0)), rfl⟩) ?_
    refine .o1 (tk rfl rfl fun _ w hn k => ⟨_, v_bin rfl (k.eq1 1 10 rfl) (k.eq1 3 12 rfl) (fun _ => rfl) (r_eql ht52), rfl⟩) ?_
    refine .o1 (tk rfl rfl fun _ w hn k => ⟨_, v_move rfl (k.eq1 4 13 rfl), rfl⟩) ?_
    refine .o1 (sk rfl rfl rfl (fun _ _ _ k => k.eq1 5 14 rfl) (fun _ => rfl)) ?_
    refine .o1 (sk rfl rfl rfl (fun _ _ _ k => k.eq1 5 14 rfl) (fun _ => rfl)) ?_
    refine .o1 (sk rfl rfl rfl (fun _ _ _ k => k.eq1 5 14 rfl) (fun _ => rfl)) ?_
    refine .o1 (sk rfl rfl rfl (fun _ _ _ k => k.eq1 5 14 rfl) (fun _ => rfl)) ?_
    refine .o1 (sk rfl rfl rfl (fun _ _ _ k => k.eq1 5 14 rfl) (fun _ => rfl)) ?_
    refine .o1 (tk rfl rfl fun _ w hn k => ⟨_, v_pickF rfl (k.eq1 5 14 rfl) rfl, rfl⟩) ?_
    refine .o1 (tk rfl rfl fun _ w hn k => ⟨_, v_assign rfl (k.eq1 11 20 rfl), rfl⟩) ?_
    exact .nil
  intro a61 w62 hn63 ha64
  have hs65 := ha64.size.trans hs24
  have hd66 := ha64.defers.trans hd25
  have h67 := ha64.ge 12 4 rfl
  have hN68 := hN51.transNew hn63
  clear hs24 hd25 h26 h27 h28 hb50 hq17 hb45 hq18 hN51 ha64 hn63
  refine st_nil ?_
  refine hK _ _ ?_
  clear hK K
  refine wp_ret (ret_k hd66 (v := .bool false) (res_t rfl h67 _) ?_)
  refine ⟨?_, hN68⟩
  show Ending.returned (.bool false) = Ending.returned (.bool (sameM a b))
  first | rfl | (simp [sameM, ht52])
set_option maxHeartbeats 4000000 in
set_option maxRecDepth 100000 in
theorem u32_c (a : Nm) (w : World) : Calls Tryd.prog 24 #[nv a] w (IsRet (iv (u32M a)) w) := by
  refine enter_abs Tryd.func24 rfl fun a0 hs0 hd0 hp => ?_
  have hs0 : a0.tmps.size = 12 := hs0
  have hN0 : New w w := Upd.refl _ _
  have hp0 : a0.eval (.tmp 0) = nv a := hp 0 _ rfl
  clear hp
  refine wp_seq_k fun K hK => ?_
  refine wp_g [true, true] [] [] 12
    [IsNew w 23 [iv a.k, iv a.n],
     ve (iv 0)]
    [0] (newsCons (fun v w h => IsNew.old h) newsNil) hs0 (.nw (.eq (.nil))) ?_ (fun i h => by cases h) ?_
  · skip
    refine .o2 (step_allocN (cs := [iv a.k, iv a.n]) (t := 23) rfl (noG rfl) (fun _ w hn k => v_box rfl (k.fx 0 hp0) (fun w => rfl)) (fun q _ hq hb => ⟨q, rfl, hq, hb⟩)) ?_
    refine .o1 (tk rfl rfl fun _ w hn k => ⟨_, v_assign rfl rfl, rfl⟩) ?_
    exact .nil
  intro a1 w2 hn3 ha4
  have hs5 := ha4.size.trans hs0
  have hd6 := ha4.defers.trans hd0
  obtain ⟨q8, h7, hq9, hb10⟩ : IsNew _ _ _ _ _ := ha4.got 0 1 rfl (by kernel_rfl)
  have h11 := ha4.ge 1 2 rfl
  have hq12 := Nat.le_trans hN0.size hq9
  have hN13 := hN0.transNew hn3
  clear hs0 hd0 hp0 hq9 hN0 ha4 hn3
  refine st_nil ?_
  refine hK _ _ ?_
  clear hK K
  refine wp_seq_k fun K hK => ?_
  refine wp_seq_k fun K hK => ?_
  refine wp_g0 [true, true, false] [(2, false)] 12
    [ve (nv a),
     ve (nv (asM a)),
     vt] hs5 (.eq (.eq (.tt (.nil)))) ?_ ?_
  · skip
    refine .o1 (tk rfl rfl fun _ w hn k => ⟨_, v_load rfl (k.fx 1 h7) (l_two Tryd.isAgg23 Tryd.sizeOf23 (hb10.new_ hn)), rfl⟩) ?_
    refine .o1 (ck rfl rfl rfl (fun _ w hn k => ⟨#[nv a], args1 (k.eq1 0 3 rfl), fun _ => by kernel_rfl, as_c a _⟩) fun _ => rfl) ?_
    refine .off ?_
    exact .nil
  intro a14 w15 hn16 ha17
  have hs18 := ha17.size.trans hs5
  have hd19 := ha17.defers.trans hd6
  have h20 := ha17.fx 1 h7
  have h21 := ha17.fx 2 h11
  have h22 := ha17.ge 1 4 rfl
  have hb23 := hb10.new_ hn16
  have hN24 := hN13.transNew hn16
  clear hs5 hd6 h7 h11 hb10 hN13 ha17 hn16
  have hbd_a := as_bd a
  obtain ⟨w25, -, hst26, hb27, hu28, hf29⟩ := s_two (v0 := iv ((asM a).k)) (v1 := iv ((asM a).n)) Tryd.sizeOf23 rfl rfl rfl hb23
  refine st_act rfl rfl fun K30 hL31 => a_store' rfl h20 h22 hst26 (hL31 _ _ trivial ?_)
  have hN32 := hN24.trans hu28 (fun k hk hkb => by subst hkb; omega)
  clear hb23 hst26 K30 hL31 hN24 hu28 hf29
  refine st_nil ?_
  clear h22
  refine hK _ _ ?_
  clear hK K
  refine wp_seq_k fun K hK => ?_
  rcases Bool.eq_false_or_eq_true (decide (((asM a).k) = 0)) with ht33 | ht33
  · skip
    have ht33d := of_decide_eq_true ht33
    refine wp_g0 [true, true, true] [] 12
      [ve (pv q8),
       ve (iv ((asM a).k)),
       ve (.bool false)] hs18 (.eq (.eq (.eq (.nil)))) ?_ ?_
    · skip
      refine .o1 (tk rfl rfl fun _ w hn k => ⟨_, v_field rfl (k.fx 1 h20) (fun w => rfl), rfl⟩) ?_
      refine .o1 (tk rfl rfl fun _ w hn k => ⟨_, v_load rfl (k.eq1 0 5 rfl) (l_one Tryd.isAgg3 ((hb27.new_ hn).cell 0)), rfl⟩) ?_
      refine .o1 (tk rfl rfl fun _ w hn k => ⟨_, v_bin rfl (k.eq1 1 6 rfl) rfl (fun _ => rfl) (r_neq ht33), rfl⟩) ?_
      exact .nil
    intro a34 w35 hn36 ha37
    have hs38 := ha37.size.trans hs18
    have hd39 := ha37.defers.trans hd19
    have h40 := ha37.fx 1 h20
    have h41 := ha37.fx 2 h21
    have h42 := ha37.ge 2 7 rfl
    have hb43 := hb27.new_ hn36
    have hN44 := hN32.transNew hn36
    clear hs18 hd19 h20 h21 hb27 hN32 ha37 hn36
    refine st_nil ?_
    refine hK _ _ ?_
    clear hK K
    refine wp_cond_false h42 ?_
    refine wp_skip ?_
    refine hK _ _ ?_
    clear hK K
    refine wp_seq_k fun K hK => ?_
    refine wp_g0 [true, true, true, true, true] [] 12
      [ve (.pointer (some ⟨q8, 1, none⟩)),
       ve (iv ((asM a).n)),
       ve (.int .u32 (((asM a).n) % 4294967296)),
       ve (iv (((asM a).n) % 4294967296)),
       ve (iv (((asM a).n) % 4294967296))] hs38 (.eq (.eq (.eq (.eq (.eq (.nil)))))) ?_ ?_
    · skip
      refine .o1 (tk rfl rfl fun _ w hn k => ⟨_, v_field rfl (k.fx 1 h40) (fun w => rfl), rfl⟩) ?_
      refine .o1 (tk rfl rfl fun _ w hn k => ⟨_, v_load rfl (k.eq1 0 8 rfl) (l_one Tryd.isAgg3 ((hb43.new_ hn).cell 1)), rfl⟩) ?_
      refine .o1 (tk rfl rfl fun _ w hn k => ⟨_, v_conv rfl (k.eq1 1 9 rfl) (run_conv (by kernel_rfl) (by kernel_rfl) (by kernel_rfl) (wrap_u32m _)), rfl⟩) ?_
      refine .o1 (tk rfl rfl fun _ w hn k => ⟨_, v_conv rfl (k.eq1 2 10 rfl) (run_conv (by kernel_rfl) (by kernel_rfl) (by kernel_rfl) (IntWalk.i64_in _ (by omega))), rfl⟩) ?_
      refine .o1 (tk rfl rfl fun _ w hn k => ⟨_, v_assign rfl (k.eq1 3 11 rfl), rfl⟩) ?_
      exact .nil
    intro a45 w46 hn47 ha48
    have hs49 := ha48.size.trans hs38
    have hd50 := ha48.defers.trans hd39
    have h51 := ha48.ge 4 2 rfl
    have hN52 := hN44.transNew hn47
    clear hs38 hd39 h40 h41 h42 hb43 hq12 hN44 ha48 hn47
    refine st_nil ?_
    refine hK _ _ ?_
    clear hK K
    refine wp_ret (ret_k hd50 (v := iv (((asM a).n) % 4294967296)) (res_t rfl h51 _) ?_)
    refine ⟨?_, hN52⟩
    show Ending.returned (iv (((asM a).n) % 4294967296)) = Ending.returned (iv (u32M a))
    first | rfl | (simp [u32M, ht33])
  have ht33d := of_decide_eq_false ht33
  refine wp_g0 [true, true, true] [] 12
    [ve (pv q8),
     ve (iv ((asM a).k)),
     ve (.bool true)] hs18 (.eq (.eq (.eq (.nil)))) ?_ ?_
  · skip
    refine .o1 (tk rfl rfl fun _ w hn k => ⟨_, v_field rfl (k.fx 1 h20) (fun w => rfl), rfl⟩) ?_
    refine .o1 (tk rfl rfl fun _ w hn k => ⟨_, v_load rfl (k.eq1 0 5 rfl) (l_one Tryd.isAgg3 ((hb27.new_ hn).cell 0)), rfl⟩) ?_
    refine .o1 (tk rfl rfl fun _ w hn k => ⟨_, v_bin rfl (k.eq1 1 6 rfl) rfl (fun _ => rfl) (r_neq ht33), rfl⟩) ?_
    exact .nil
  intro a53 w54 hn55 ha56
  have hs57 := ha56.size.trans hs18
  have hd58 := ha56.defers.trans hd19
  have h59 := ha56.fx 1 h20
  have h60 := ha56.fx 2 h21
  have h61 := ha56.ge 2 7 rfl
  have hb62 := hb27.new_ hn55
  have hN63 := hN32.transNew hn55
  clear hs18 hd19 h20 h21 hb27 hN32 ha56 hn55
  refine st_nil ?_
  refine hK _ _ ?_
  clear hK K
  refine wp_cond_true h61 ?_
  refine wp_seq_k fun K hK => ?_
  refine wp_g0 [true] [] 12
    [ve (iv 0)] hs57 (.eq (.nil)) ?_ ?_
  · skip
    refine .o1 (tk rfl rfl fun _ w hn k => ⟨_, v_assign rfl rfl, rfl⟩) ?_
    exact .nil
  intro a64 w65 hn66 ha67
  have hs68 := ha67.size.trans hs57
  have hd69 := ha67.defers.trans hd58
  have h70 := ha67.fx 1 h59
  have h71 := ha67.ge 0 2 rfl
  have hb72 := hb62.new_ hn66
  have hN73 := hN63.transNew hn66
  clear hs57 hd58 h59 h60 h61 hb62 hN63 ha67 hn66
  refine st_nil ?_
  refine hK _ _ ?_
  clear hK K
  refine wp_ret (ret_k hd69 (v := iv 0) (res_t rfl h71 _) ?_)
  refine ⟨?_, hN73⟩
  show Ending.returned (iv 0) = Ending.returned (iv (u32M a))
  first | rfl | (simp [u32M, ht33])
set_option maxHeartbeats 4000000 in
set_option maxRecDepth 100000 in
theorem i32_c (a : Nm) (w : World) : Calls Tryd.prog 23 #[nv a] w (IsRet (iv (i32M a)) w) := by
  refine enter_abs Tryd.func23 rfl fun a0 hs0 hd0 hp => ?_
  have hs0 : a0.tmps.size = 8 := hs0
  have hN0 : New w w := Upd.refl _ _
  have hp0 : a0.eval (.tmp 0) = nv a := hp 0 _ rfl
  clear hp
  have hu := u32_bd a
  have hi := i32_bd (u32M a % 4294967296)
  refine wp_seq_k fun K hK => ?_
  refine wp_g [true, true] [] [] 8
    [IsNew w 23 [iv a.k, iv a.n],
     ve (iv 0)]
    [0] (newsCons (fun v w h => IsNew.old h) newsNil) hs0 (.nw (.eq (.nil))) ?_ (fun i h => by cases h) ?_
  · skip
    refine .o2 (step_allocN (cs := [iv a.k, iv a.n]) (t := 23) rfl (noG rfl) (fun _ w hn k => v_box rfl (k.fx 0 hp0) (fun w => rfl)) (fun q _ hq hb => ⟨q, rfl, hq, hb⟩)) ?_
    refine .o1 (tk rfl rfl fun _ w hn k => ⟨_, v_assign rfl rfl, rfl⟩) ?_
    exact .nil
  intro a1 w2 hn3 ha4
  have hs5 := ha4.size.trans hs0
  have hd6 := ha4.defers.trans hd0
  obtain ⟨q8, h7, hq9, hb10⟩ : IsNew _ _ _ _ _ := ha4.got 0 1 rfl (by kernel_rfl)
  have h11 := ha4.ge 1 2 rfl
  have hq12 := Nat.le_trans hN0.size hq9
  have hN13 := hN0.transNew hn3
  clear hs0 hd0 hp0 hq9 hN0 ha4 hn3
  refine st_nil ?_
  refine hK _ _ ?_
  clear hK K
  refine wp_seq_k fun K hK => ?_
  refine wp_g0 [true, true, true, true, true, true] [] 8
    [ve (nv a),
     ve (iv (u32M a)),
     ve (.int .u32 ((u32M a) % 4294967296)),
     ve (.int .i32 (i32of ((u32M a) % 4294967296))),
     ve (iv (i32of ((u32M a) % 4294967296))),
     ve (iv (i32of ((u32M a) % 4294967296)))] hs5 (.eq (.eq (.eq (.eq (.eq (.eq (.nil))))))) ?_ ?_
  · skip
    refine .o1 (tk rfl rfl fun _ w hn k => ⟨_, v_load rfl (k.fx 1 h7) (l_two Tryd.isAgg23 Tryd.sizeOf23 (hb10.new_ hn)), rfl⟩) ?_
    refine .o1 (ck rfl rfl rfl (fun _ w hn k => ⟨#[nv a], args1 (k.eq1 0 3 rfl), fun _ => by kernel_rfl, u32_c a _⟩) fun _ => rfl) ?_
    refine .o1 (tk rfl rfl fun _ w hn k => ⟨_, v_conv rfl (k.eq1 1 4 rfl) (run_conv (by kernel_rfl) (by kernel_rfl) (by kernel_rfl) (wrap_u32m _)), rfl⟩) ?_
    refine .o1 (tk rfl rfl fun _ w hn k => ⟨_, v_conv rfl (k.eq1 2 5 rfl) (run_conv (by kernel_rfl) (by kernel_rfl) (by kernel_rfl) (wrap_i32m _)), rfl⟩) ?_
    refine .o1 (tk rfl rfl fun _ w hn k => ⟨_, v_conv rfl (k.eq1 3 6 rfl) (run_conv (by kernel_rfl) (by kernel_rfl) (by kernel_rfl) (IntWalk.i64_in _ (by omega))), rfl⟩) ?_
    refine .o1 (tk rfl rfl fun _ w hn k => ⟨_, v_assign rfl (k.eq1 4 7 rfl), rfl⟩) ?_
    exact .nil
  intro a14 w15 hn16 ha17
  have hs18 := ha17.size.trans hs5
  have hd19 := ha17.defers.trans hd6
  have h20 := ha17.ge 5 2 rfl
  have hN21 := hN13.transNew hn16
  clear hs5 hd6 h7 h11 hb10 hq12 hN13 ha17 hn16
  have hu32_a := u32_bd a
  refine st_nil ?_
  refine hK _ _ ?_
  clear hK K
  refine wp_ret (ret_k hd19 (v := iv (i32of ((u32M a) % 4294967296))) (res_t rfl h20 _) ?_)
  refine ⟨?_, hN21⟩
  show Ending.returned (iv (i32of ((u32M a) % 4294967296))) = Ending.returned (iv (i32M a))
  first | rfl | (simp [i32M, i32of])
set_option maxHeartbeats 4000000 in
set_option maxRecDepth 100000 in
theorem whole2_c (a : Nm) (w : World) : Calls Tryd.prog 35 #[nv a] w (IsRet (nv (wholeM a)) w) := by
  refine enter_abs Tryd.func35 rfl fun a0 hs0 hd0 hp => ?_
  have hs0 : a0.tmps.size = 15 := hs0
  have hN0 : New w w := Upd.refl _ _
  have hp0 : a0.eval (.tmp 0) = nv a := hp 0 _ rfl
  clear hp
  refine wp_seq_k fun K hK => ?_
  refine wp_g [true, true] [] [] 15
    [IsNew w 23 [iv a.k, iv a.n],
     IsNew w 23 [iv 0, iv 0]]
    [0, 1] (newsCons (fun v w h => IsNew.old h) (newsCons (fun v w h => IsNew.old h) newsNil)) hs0 (.nw (.nw (.nil))) ?_ (fun i h => by cases h) ?_
  · skip
    refine .o2 (step_allocN (cs := [iv a.k, iv a.n]) (t := 23) rfl (noG rfl) (fun _ w hn k => v_box rfl (k.fx 0 hp0) (fun w => rfl)) (fun q _ hq hb => ⟨q, rfl, hq, hb⟩)) ?_
    refine .o2 (step_allocN (cs := [iv 0, iv 0]) (t := 23) rfl (noG rfl) (fun _ w hn k => rfl) (fun q _ hq hb => ⟨q, rfl, hq, hb⟩)) ?_
    exact .nil
  intro a1 w2 hn3 ha4
  have hs5 := ha4.size.trans hs0
  have hd6 := ha4.defers.trans hd0
  obtain ⟨q8, h7, hq9, hb10⟩ : IsNew _ _ _ _ _ := ha4.got 0 1 rfl (by kernel_rfl)
  obtain ⟨q12, h11, hq13, hb14⟩ : IsNew _ _ _ _ _ := ha4.got 1 2 rfl (by kernel_rfl)
  have hne15 : q8 ≠ q12 := ha4.ne 0 1 1 2 h7 h11
  have hq16 := Nat.le_trans hN0.size hq9
  have hq17 := Nat.le_trans hN0.size hq13
  have hN18 := hN0.transNew hn3
  clear hs0 hd0 hp0 hq9 hq13 hN0 ha4 hn3
  refine st_nil ?_
  refine hK _ _ ?_
  clear hK K
  refine wp_seq_k fun K hK => ?_
  refine wp_seq_k fun K hK => ?_
  refine wp_g0 [true, true, false] [(2, false)] 15
    [ve (nv a),
     ve (nv (asM a)),
     vt] hs5 (.eq (.eq (.tt (.nil)))) ?_ ?_
  · skip
    refine .o1 (tk rfl rfl fun _ w hn k => ⟨_, v_load rfl (k.fx 1 h7) (l_two Tryd.isAgg23 Tryd.sizeOf23 (hb10.new_ hn)), rfl⟩) ?_
    refine .o1 (ck rfl rfl rfl (fun _ w hn k => ⟨#[nv a], args1 (k.eq1 0 3 rfl), fun _ => by kernel_rfl, as_c a _⟩) fun _ => rfl) ?_
    refine .off ?_
    exact .nil
  intro a19 w20 hn21 ha22
  have hs23 := ha22.size.trans hs5
  have hd24 := ha22.defers.trans hd6
  have h25 := ha22.fx 1 h7
  have h26 := ha22.fx 2 h11
  have h27 := ha22.ge 1 4 rfl
  have hb28 := hb10.new_ hn21
  have hb29 := hb14.new_ hn21
  have hN30 := hN18.transNew hn21
  clear hs5 hd6 h7 h11 hb10 hb14 hN18 ha22 hn21
  have hbd_a := as_bd a
  obtain ⟨w31, -, hst32, hb33, hu34, hf35⟩ := s_two (v0 := iv ((asM a).k)) (v1 := iv ((asM a).n)) Tryd.sizeOf23 rfl rfl rfl hb28
  refine st_act rfl rfl fun K36 hL37 => a_store' rfl h25 h27 hst32 (hL37 _ _ trivial ?_)
  have hb38 := hf35 _ _ _ (fun h => hne15 h.symm) hb29
  have hN39 := hN30.trans hu34 (fun k hk hkb => by subst hkb; omega)
  clear hb28 hst32 K36 hL37 hN30 hb29 hu34 hf35
  refine st_nil ?_
  clear h27
  refine hK _ _ ?_
  clear hK K
  refine wp_seq_k fun K hK => ?_
  rcases Bool.eq_false_or_eq_true (decide (((asM a).k) = 2)) with ht40 | ht40
  · skip
    have ht40d := of_decide_eq_true ht40
    refine wp_g0 [true, true, true, true, true, true, true, true] [] 15
      [ve (pv q8),
       ve (iv ((asM a).k)),
       ve (.bool true),
       ve (.bool true),
       ve undef,
       ve undef,
       ve undef,
       ve (.bool true)] hs23 (.eq (.eq (.eq (.eq (.eq (.eq (.eq (.eq (.nil))))))))) ?_ ?_
    · skip
      refine .o1 (tk rfl rfl fun _ w hn k => ⟨_, v_field rfl (k.fx 1 h25) (fun w => rfl), rfl⟩) ?_
      refine .o1 (tk rfl rfl fun _ w hn k => ⟨_, v_load rfl (k.eq1 0 5 rfl) (l_one Tryd.isAgg3 ((hb33.new_ hn).cell 0)), rfl⟩) ?_
      refine .o1 (tk rfl rfl fun _ w hn k => ⟨_, v_bin rfl (k.eq1 1 6 rfl) rfl (fun _ => rfl) (r_eql ht40), rfl⟩) ?_
      refine .o1 (tk rfl rfl fun _ w hn k => ⟨_, v_move rfl (k.eq1 2 7 rfl), rfl⟩) ?_
      refine .o1 (sk rfl rfl rfl (fun _ _ _ k => k.eq1 3 8 rfl) (fun _ => rfl)) ?_
      refine .o1 (sk rfl rfl rfl (fun _ _ _ k => k.eq1 3 8 rfl) (fun _ => rfl)) ?_
      refine .o1 (sk rfl rfl rfl (fun _ _ _ k => k.eq1 3 8 rfl) (fun _ => rfl)) ?_
      refine .o1 (tk rfl rfl fun _ w hn k => ⟨_, v_pickT rfl (k.eq1 3 8 rfl) rfl, rfl⟩) ?_
      exact .nil
    intro a41 w42 hn43 ha44
    have hs45 := ha44.size.trans hs23
    have hd46 := ha44.defers.trans hd24
    have h47 := ha44.fx 1 h25
    have h48 := ha44.fx 2 h26
    have h49 := ha44.ge 7 12 rfl
    have hb50 := hb33.new_ hn43
    have hb51 := hb38.new_ hn43
    have hN52 := hN39.transNew hn43
    clear hs23 hd24 h25 h26 hb33 hb38 hN39 ha44 hn43
    refine st_nil ?_
    refine hK _ _ ?_
    clear hK K
    refine wp_cond_true h49 ?_
    refine wp_seq_k fun K hK => ?_
    refine wp_g0 [true, false] [(1, false)] 15
      [ve (nv (Nm.mk 0 0)),
       vt] hs45 (.eq (.tt (.nil))) ?_ ?_
    · skip
      refine .o1 (ck rfl rfl rfl (fun _ w hn k => ⟨#[iv 0], args1 rfl, fun _ => by kernel_rfl, whole_c 0 _⟩) fun _ => rfl) ?_
      refine .off ?_
      exact .nil
    intro a53 w54 hn55 ha56
    have hs57 := ha56.size.trans hs45
    have hd58 := ha56.defers.trans hd46
    have h59 := ha56.fx 1 h47
    have h60 := ha56.fx 2 h48
    have h61 := ha56.ge 0 13 rfl
    have hb62 := hb50.new_ hn55
    have hb63 := hb51.new_ hn55
    have hN64 := hN52.transNew hn55
    clear hs45 hd46 h47 h48 h49 hb50 hb51 hN52 ha56 hn55
    obtain ⟨w65, -, hst66, hb67, hu68, hf69⟩ := s_two (v0 := iv 0) (v1 := iv 0) Tryd.sizeOf23 rfl rfl rfl hb63
    refine st_act rfl rfl fun K70 hL71 => a_store' rfl h60 h61 hst66 (hL71 _ _ trivial ?_)
    have hb72 := hf69 _ _ _ (hne15) hb62
    have hN73 := hN64.trans hu68 (fun k hk hkb => by subst hkb; omega)
    clear hb63 hst66 K70 hL71 hN64 hb62 hu68 hf69
    refine st_nil ?_
    clear h61
    refine hK _ _ ?_
    clear hK K
    refine wp_ret (ret_k hd58 (v := nv (Nm.mk 0 0)) (res_c rfl h60 (l_two Tryd.isAgg23 Tryd.sizeOf23 hb67)) ?_)
    refine ⟨?_, hN73⟩
    show Ending.returned (nv (Nm.mk 0 0)) = Ending.returned (nv (wholeM a))
    first | rfl | (simp [wholeM, ht40])
  have ht40d := of_decide_eq_false ht40
  refine wp_g0 [true, true, true, true, true, true, true, true] [] 15
    [ve (pv q8),
     ve (iv ((asM a).k)),
     ve (.bool false),
     ve (.bool false),
     ve (pv q8),
     ve (iv ((asM a).k)),
     ve (.bool (decide (((asM a).k) = 1))),
     ve (.bool (decide (((asM a).k) = 1)))] hs23 (.eq (.eq (.eq (.eq (.eq (.eq (.eq (.eq (.nil))))))))) ?_ ?_
  · skip
    refine .o1 (tk rfl rfl fun _ w hn k => ⟨_, v_field rfl (k.fx 1 h25) (fun w => rfl), rfl⟩) ?_
    refine .o1 (tk rfl rfl fun _ w hn k => ⟨_, v_load rfl (k.eq1 0 5 rfl) (l_one Tryd.isAgg3 ((hb33.new_ hn).cell 0)), rfl⟩) ?_
    refine .o1 (tk rfl rfl fun _ w hn k => ⟨_, v_bin rfl (k.eq1 1 6 rfl) rfl (fun _ => rfl) (r_eql ht40), rfl⟩) ?_
    refine .o1 (tk rfl rfl fun _ w hn k => ⟨_, v_move rfl (k.eq1 2 7 rfl), rfl⟩) ?_
    refine .o1 (tg rfl rfl rfl (fun _ _ k => k.eq1 3 8 rfl) fun _ w hn k => ⟨_, v_field rfl (k.fx 1 h25) (fun w => rfl), rfl⟩) ?_
    refine .o1 (tg rfl rfl rfl (fun _ _ k => k.eq1 3 8 rfl) fun _ w hn k => ⟨_, v_load rfl (k.eq1 4 9 rfl) (l_one Tryd.isAgg3 ((hb33.new_ hn).cell 0)), rfl⟩) ?_
    refine .o1 (tg rfl rfl rfl (fun _ _ k => k.eq1 3 8 rfl) fun _ w hn k => ⟨_, v_bin rfl (k.eq1 5 10 rfl) rfl (fun _ => rfl) (r_eql rfl), rfl⟩) ?_
    refine .o1 (tk rfl rfl fun _ w hn k => ⟨_, v_pickF rfl (k.eq1 3 8 rfl) (k.eq1 6 11 rfl), rfl⟩) ?_
    exact .nil
  intro a74 w75 hn76 ha77
  have hs78 := ha77.size.trans hs23
  have hd79 := ha77.defers.trans hd24
  have h80 := ha77.fx 1 h25
  have h81 := ha77.fx 2 h26
  have h82 := ha77.ge 7 12 rfl
  have hb83 := hb33.new_ hn76
  have hb84 := hb38.new_ hn76
  have hN85 := hN39.transNew hn76
  clear hs23 hd24 h25 h26 hb33 hb38 hN39 ha77 hn76
  refine st_nil ?_
  refine hK _ _ ?_
  clear hK K
  rcases Bool.eq_false_or_eq_true (decide (((asM a).k) = 1)) with ht86 | ht86
  · skip
    have ht86d := of_decide_eq_true ht86
    have hv87 : a74.eval (.tmp 12) = .bool true := h82.trans (congrArg Value.bool ht86)
    clear h82
    refine wp_cond_true hv87 ?_
    refine wp_seq_k fun K hK => ?_
    refine wp_g0 [true, false] [(1, false)] 15
      [ve (nv (Nm.mk 0 0)),
       vt] hs78 (.eq (.tt (.nil))) ?_ ?_
    · skip
      refine .o1 (ck rfl rfl rfl (fun _ w hn k => ⟨#[iv 0], args1 rfl, fun _ => by kernel_rfl, whole_c 0 _⟩) fun _ => rfl) ?_
      refine .off ?_
      exact .nil
    intro a88 w89 hn90 ha91
    have hs92 := ha91.size.trans hs78
    have hd93 := ha91.defers.trans hd79
    have h94 := ha91.fx 1 h80
    have h95 := ha91.fx 2 h81
    have h96 := ha91.ge 0 13 rfl
    have hb97 := hb83.new_ hn90
    have hb98 := hb84.new_ hn90
    have hN99 := hN85.transNew hn90
    clear hs78 hd79 h80 h81 hv87 hb83 hb84 hN85 ha91 hn90
    obtain ⟨w100, -, hst101, hb102, hu103, hf104⟩ := s_two (v0 := iv 0) (v1 := iv 0) Tryd.sizeOf23 rfl rfl rfl hb98
    refine st_act rfl rfl fun K105 hL106 => a_store' rfl h95 h96 hst101 (hL106 _ _ trivial ?_)
    have hb107 := hf104 _ _ _ (hne15) hb97
    have hN108 := hN99.trans hu103 (fun k hk hkb => by subst hkb; omega)
    clear hb98 hst101 K105 hL106 hN99 hb97 hu103 hf104
    refine st_nil ?_
    clear h96
    refine hK _ _ ?_
    clear hK K
    refine wp_ret (ret_k hd93 (v := nv (Nm.mk 0 0)) (res_c rfl h95 (l_two Tryd.isAgg23 Tryd.sizeOf23 hb102)) ?_)
    refine ⟨?_, hN108⟩
    show Ending.returned (nv (Nm.mk 0 0)) = Ending.returned (nv (wholeM a))
    first | rfl | (simp [wholeM, ht40, ht86])
  have ht86d := of_decide_eq_false ht86
  have hv109 : a74.eval (.tmp 12) = .bool false := h82.trans (congrArg Value.bool ht86)
  clear h82
  refine wp_cond_false hv109 ?_
  refine wp_skip ?_
  refine hK _ _ ?_
  clear hK K
  refine wp_seq_k fun K hK => ?_
  refine wp_g0 [true, false] [(1, false)] 15
    [ve (nv (asM a)),
     vt] hs78 (.eq (.tt (.nil))) ?_ ?_
  · skip
    refine .o1 (tk rfl rfl fun _ w hn k => ⟨_, v_load rfl (k.fx 1 h80) (l_two Tryd.isAgg23 Tryd.sizeOf23 (hb83.new_ hn)), rfl⟩) ?_
    refine .off ?_
    exact .nil
  intro a110 w111 hn112 ha113
  have hs114 := ha113.size.trans hs78
  have hd115 := ha113.defers.trans hd79
  have h116 := ha113.fx 2 h81
  have h117 := ha113.ge 0 14 rfl
  have hb118 := hb84.new_ hn112
  have hN119 := hN85.transNew hn112
  clear hs78 hd79 h80 h81 hv109 hb83 hq16 hb84 hN85 ha113 hn112
  obtain ⟨w120, -, hst121, hb122, hu123, hf124⟩ := s_two (v0 := iv ((asM a).k)) (v1 := iv ((asM a).n)) Tryd.sizeOf23 rfl rfl rfl hb118
  refine st_act rfl rfl fun K125 hL126 => a_store' rfl h116 h117 hst121 (hL126 _ _ trivial ?_)
  have hN127 := hN119.trans hu123 (fun k hk hkb => by subst hkb; omega)
  clear hb118 hst121 K125 hL126 hN119 hu123 hf124
  refine st_nil ?_
  clear h117
  refine hK _ _ ?_
  clear hK K
  refine wp_ret (ret_k hd115 (v := nv (asM a)) (res_c rfl h116 (l_two Tryd.isAgg23 Tryd.sizeOf23 hb122)) ?_)
  refine ⟨?_, hN127⟩
  show Ending.returned (nv (asM a)) = Ending.returned (nv (wholeM a))
  first | rfl | (simp [wholeM, ht40, ht86])
set_option maxHeartbeats 4000000 in
set_option maxRecDepth 100000 in
theorem index_c (a : Nm) (w : World) : Calls Tryd.prog 30 #[nv a] w (IsRet (.tuple #[iv ((indexM a).1), .bool ((indexM a).2)]) w) := by
  refine enter_abs Tryd.func30 rfl fun a0 hs0 hd0 hp => ?_
  have hs0 : a0.tmps.size = 16 := hs0
  have hN0 : New w w := Upd.refl _ _
  have hp0 : a0.eval (.tmp 0) = nv a := hp 0 _ rfl
  clear hp
  refine wp_seq_k fun K hK => ?_
  refine wp_g [true, true, true] [] [] 16
    [IsNew w 23 [iv a.k, iv a.n],
     ve (iv 0),
     ve (.bool false)]
    [0] (newsCons (fun v w h => IsNew.old h) newsNil) hs0 (.nw (.eq (.eq (.nil)))) ?_ (fun i h => by cases h) ?_
  · skip
    refine .o2 (step_allocN (cs := [iv a.k, iv a.n]) (t := 23) rfl (noG rfl) (fun _ w hn k => v_box rfl (k.fx 0 hp0) (fun w => rfl)) (fun q _ hq hb => ⟨q, rfl, hq, hb⟩)) ?_
    refine .o1 (tk rfl rfl fun _ w hn k => ⟨_, v_assign rfl rfl, rfl⟩) ?_
    refine .o1 (tk rfl rfl fun _ w hn k => ⟨_, v_assign rfl rfl, rfl⟩) ?_
    exact .nil
  intro a1 w2 hn3 ha4
  have hs5 := ha4.size.trans hs0
  have hd6 := ha4.defers.trans hd0
  obtain ⟨q8, h7, hq9, hb10⟩ : IsNew _ _ _ _ _ := ha4.got 0 1 rfl (by kernel_rfl)
  have h11 := ha4.ge 1 2 rfl
  have h12 := ha4.ge 2 3 rfl
  have hq13 := Nat.le_trans hN0.size hq9
  have hN14 := hN0.transNew hn3
  clear hs0 hd0 hp0 hq9 hN0 ha4 hn3
  refine st_nil ?_
  refine hK _ _ ?_
  clear hK K
  refine wp_seq_k fun K hK => ?_
  refine wp_seq_k fun K hK => ?_
  refine wp_g0 [true, true, false] [(2, false)] 16
    [ve (nv a),
     ve (nv (wholeM a)),
     vt] hs5 (.eq (.eq (.tt (.nil)))) ?_ ?_
  · skip
    refine .o1 (tk rfl rfl fun _ w hn k => ⟨_, v_load rfl (k.fx 1 h7) (l_two Tryd.isAgg23 Tryd.sizeOf23 (hb10.new_ hn)), rfl⟩) ?_
    refine .o1 (ck rfl rfl rfl (fun _ w hn k => ⟨#[nv a], args1 (k.eq1 0 4 rfl), fun _ => by kernel_rfl, whole2_c a _⟩) fun _ => rfl) ?_
    refine .off ?_
    exact .nil
  intro a15 w16 hn17 ha18
  have hs19 := ha18.size.trans hs5
  have hd20 := ha18.defers.trans hd6
  have h21 := ha18.fx 1 h7
  have h22 := ha18.fx 2 h11
  have h23 := ha18.fx 3 h12
  have h24 := ha18.ge 1 5 rfl
  have hb25 := hb10.new_ hn17
  have hN26 := hN14.transNew hn17
  clear hs5 hd6 h7 h11 h12 hb10 hN14 ha18 hn17
  obtain ⟨w27, -, hst28, hb29, hu30, hf31⟩ := s_two (v0 := iv ((wholeM a).k)) (v1 := iv ((wholeM a).n)) Tryd.sizeOf23 rfl rfl rfl hb25
  refine st_act rfl rfl fun K32 hL33 => a_store' rfl h21 h24 hst28 (hL33 _ _ trivial ?_)
  have hN34 := hN26.trans hu30 (fun k hk hkb => by subst hkb; omega)
  clear hb25 hst28 K32 hL33 hN26 hu30 hf31
  refine st_nil ?_
  clear h24
  refine hK _ _ ?_
  clear hK K
  refine wp_seq_k fun K hK => ?_
  rcases Bool.eq_false_or_eq_true (decide (((wholeM a).k) = 0)) with ht35 | ht35
  · skip
    have ht35d := of_decide_eq_true ht35
    refine wp_g0 [true, true, true, true, true, true, true, true] [] 16
      [ve (pv q8),
       ve (iv ((wholeM a).k)),
       ve (.bool false),
       ve (.bool false),
       ve (.pointer (some ⟨q8, 1, none⟩)),
       ve (iv ((wholeM a).n)),
       ve (.bool (decide (((wholeM a).n) < 0))),
       ve (.bool (decide (((wholeM a).n) < 0)))] hs19 (.eq (.eq (.eq (.eq (.eq (.eq (.eq (.eq (.nil))))))))) ?_ ?_
    · skip
      refine .o1 (tk rfl rfl fun _ w hn k => ⟨_, v_field rfl (k.fx 1 h21) (fun w => rfl), rfl⟩) ?_
      refine .o1 (tk rfl rfl fun _ w hn k => ⟨_, v_load rfl (k.eq1 0 6 rfl) (l_one Tryd.isAgg3 ((hb29.new_ hn).cell 0)), rfl⟩) ?_
      refine .o1 (tk rfl rfl fun _ w hn k => ⟨_, v_bin rfl (k.eq1 1 7 rfl) rfl (fun _ => rfl) (r_neq ht35), rfl⟩) ?_
      refine .o1 (tk rfl rfl fun _ w hn k => ⟨_, v_move rfl (k.eq1 2 8 rfl), rfl⟩) ?_
      refine .o1 (tg rfl rfl rfl (fun _ _ k => k.eq1 3 9 rfl) fun _ w hn k => ⟨_, v_field rfl (k.fx 1 h21) (fun w => rfl), rfl⟩) ?_
      refine .o1 (tg rfl rfl rfl (fun _ _ k => k.eq1 3 9 rfl) fun _ w hn k => ⟨_, v_load rfl (k.eq1 4 10 rfl) (l_one Tryd.isAgg3 ((hb29.new_ hn).cell 1)), rfl⟩) ?_
      refine .o1 (tg rfl rfl rfl (fun _ _ k => k.eq1 3 9 rfl) fun _ w hn k => ⟨_, v_bin rfl (k.eq1 5 11 rfl) rfl (fun _ => rfl) (r_lssK rfl), rfl⟩) ?_
      refine .o1 (tk rfl rfl fun _ w hn k => ⟨_, v_pickF rfl (k.eq1 3 9 rfl) (k.eq1 6 12 rfl), rfl⟩) ?_
      exact .nil
    intro a36 w37 hn38 ha39
    have hs40 := ha39.size.trans hs19
    have hd41 := ha39.defers.trans hd20
    have h42 := ha39.fx 1 h21
    have h43 := ha39.fx 2 h22
    have h44 := ha39.fx 3 h23
    have h45 := ha39.ge 7 13 rfl
    have hb46 := hb29.new_ hn38
    have hN47 := hN34.transNew hn38
    clear hs19 hd20 h21 h22 h23 hb29 hN34 ha39 hn38
    refine st_nil ?_
    refine hK _ _ ?_
    clear hK K
    rcases Bool.eq_false_or_eq_true (decide (((wholeM a).n) < 0)) with ht48 | ht48
    · skip
      have ht48d := of_decide_eq_true ht48
      have hv49 : a36.eval (.tmp 13) = .bool true := h45.trans (congrArg Value.bool ht48)
      clear h45
      refine wp_cond_true hv49 ?_
      refine wp_seq_k fun K hK => ?_
      refine wp_g0 [true, true] [] 16
        [ve (iv 0),
         ve (.bool false)] hs40 (.eq (.eq (.nil))) ?_ ?_
      · skip
        refine .o1 (tk rfl rfl fun _ w hn k => ⟨_, v_assign rfl rfl, rfl⟩) ?_
        refine .o1 (tk rfl rfl fun _ w hn k => ⟨_, v_assign rfl rfl, rfl⟩) ?_
        exact .nil
      intro a50 w51 hn52 ha53
      have hs54 := ha53.size.trans hs40
      have hd55 := ha53.defers.trans hd41
      have h56 := ha53.fx 1 h42
      have h57 := ha53.ge 0 2 rfl
      have h58 := ha53.ge 1 3 rfl
      have hb59 := hb46.new_ hn52
      have hN60 := hN47.transNew hn52
      clear hs40 hd41 h42 h43 h44 hv49 hb46 hN47 ha53 hn52
      refine st_nil ?_
      refine hK _ _ ?_
      clear hK K
      refine wp_ret (ret_k hd55 (v := .tuple #[iv 0, .bool false]) (res_tt rfl h57 h58 _) ?_)
      refine ⟨?_, hN60⟩
      show Ending.returned (.tuple #[iv 0, .bool false]) = Ending.returned (.tuple #[iv ((indexM a).1), .bool ((indexM a).2)])
      first | rfl | (simp [indexM, ht35, ht48])
    have ht48d := of_decide_eq_false ht48
    have hv61 : a36.eval (.tmp 13) = .bool false := h45.trans (congrArg Value.bool ht48)
    clear h45
    refine wp_cond_false hv61 ?_
    refine wp_skip ?_
    refine hK _ _ ?_
    clear hK K
    refine wp_seq_k fun K hK => ?_
    refine wp_g0 [true, true, true, true] [] 16
      [ve (.pointer (some ⟨q8, 1, none⟩)),
       ve (iv ((wholeM a).n)),
       ve (iv ((wholeM a).n)),
       ve (.bool true)] hs40 (.eq (.eq (.eq (.eq (.nil))))) ?_ ?_
    · skip
      refine .o1 (tk rfl rfl fun _ w hn k => ⟨_, v_field rfl (k.fx 1 h42) (fun w => rfl), rfl⟩) ?_
      refine .o1 (tk rfl rfl fun _ w hn k => ⟨_, v_load rfl (k.eq1 0 14 rfl) (l_one Tryd.isAgg3 ((hb46.new_ hn).cell 1)), rfl⟩) ?_
      refine .o1 (tk rfl rfl fun _ w hn k => ⟨_, v_assign rfl (k.eq1 1 15 rfl), rfl⟩) ?_
      refine .o1 (tk rfl rfl fun _ w hn k => ⟨_, v_assign rfl rfl, rfl⟩) ?_
      exact .nil
    intro a62 w63 hn64 ha65
    have hs66 := ha65.size.trans hs40
    have hd67 := ha65.defers.trans hd41
    have h68 := ha65.ge 2 2 rfl
    have h69 := ha65.ge 3 3 rfl
    have hN70 := hN47.transNew hn64
    clear hs40 hd41 h42 h43 h44 hv61 hb46 hq13 hN47 ha65 hn64
    refine st_nil ?_
    refine hK _ _ ?_
    clear hK K
    refine wp_ret (ret_k hd67 (v := .tuple #[iv ((wholeM a).n), .bool true]) (res_tt rfl h68 h69 _) ?_)
    refine ⟨?_, hN70⟩
    show Ending.returned (.tuple #[iv ((wholeM a).n), .bool true]) = Ending.returned (.tuple #[iv ((indexM a).1), .bool ((indexM a).2)])
    first | rfl | (simp [indexM, ht35, ht48])
  have ht35d := of_decide_eq_false ht35
  refine wp_g0 [true, true, true, true, true, true, true, true] [] 16
    [ve (pv q8),
     ve (iv ((wholeM a).k)),
     ve (.bool true),
     ve (.bool true),
     ve undef,
     ve undef,
     ve undef,
     ve (.bool true)] hs19 (.eq (.eq (.eq (.eq (.eq (.eq (.eq (.eq (.nil))))))))) ?_ ?_
  · skip
    refine .o1 (tk rfl rfl fun _ w hn k => ⟨_, v_field rfl (k.fx 1 h21) (fun w => rfl), rfl⟩) ?_
    refine .o1 (tk rfl rfl fun _ w hn k => ⟨_, v_load rfl (k.eq1 0 6 rfl) (l_one Tryd.isAgg3 ((hb29.new_ hn).cell 0)), rfl⟩) ?_
    refine .o1 (tk rfl rfl fun _ w hn k => ⟨_, v_bin rfl (k.eq1 1 7 rfl) rfl (fun _ => rfl) (r_neq ht35), rfl⟩) ?_
    refine .o1 (tk rfl rfl fun _ w hn k => ⟨_, v_move rfl (k.eq1 2 8 rfl), rfl⟩) ?_
    refine .o1 (sk rfl rfl rfl (fun _ _ _ k => k.eq1 3 9 rfl) (fun _ => rfl)) ?_
    refine .o1 (sk rfl rfl rfl (fun _ _ _ k => k.eq1 3 9 rfl) (fun _ => rfl)) ?_
    refine .o1 (sk rfl rfl rfl (fun _ _ _ k => k.eq1 3 9 rfl) (fun _ => rfl)) ?_
    refine .o1 (tk rfl rfl fun _ w hn k => ⟨_, v_pickT rfl (k.eq1 3 9 rfl) rfl, rfl⟩) ?_
    exact .nil
  intro a71 w72 hn73 ha74
  have hs75 := ha74.size.trans hs19
  have hd76 := ha74.defers.trans hd20
  have h77 := ha74.fx 1 h21
  have h78 := ha74.fx 2 h22
  have h79 := ha74.fx 3 h23
  have h80 := ha74.ge 7 13 rfl
  have hb81 := hb29.new_ hn73
  have hN82 := hN34.transNew hn73
  clear hs19 hd20 h21 h22 h23 hb29 hN34 ha74 hn73
  refine st_nil ?_
  refine hK _ _ ?_
  clear hK K
  refine wp_cond_true h80 ?_
  refine wp_seq_k fun K hK => ?_
  refine wp_g0 [true, true] [] 16
    [ve (iv 0),
     ve (.bool false)] hs75 (.eq (.eq (.nil))) ?_ ?_
  · skip
    refine .o1 (tk rfl rfl fun _ w hn k => ⟨_, v_assign rfl rfl, rfl⟩) ?_
    refine .o1 (tk rfl rfl fun _ w hn k => ⟨_, v_assign rfl rfl, rfl⟩) ?_
    exact .nil
  intro a83 w84 hn85 ha86
  have hs87 := ha86.size.trans hs75
  have hd88 := ha86.defers.trans hd76
  have h89 := ha86.fx 1 h77
  have h90 := ha86.ge 0 2 rfl
  have h91 := ha86.ge 1 3 rfl
  have hb92 := hb81.new_ hn85
  have hN93 := hN82.transNew hn85
  clear hs75 hd76 h77 h78 h79 h80 hb81 hN82 ha86 hn85
  refine st_nil ?_
  refine hK _ _ ?_
  clear hK K
  refine wp_ret (ret_k hd88 (v := .tuple #[iv 0, .bool false]) (res_tt rfl h90 h91 _) ?_)
  refine ⟨?_, hN93⟩
  show Ending.returned (.tuple #[iv 0, .bool false]) = Ending.returned (.tuple #[iv ((indexM a).1), .bool ((indexM a).2)])
  first | rfl | (simp [indexM, ht35])
set_option maxHeartbeats 4000000 in
set_option maxRecDepth 100000 in
theorem bit_c (op : Int) (a : Nm) (b : Nm) (w : World) : Calls Tryd.prog 25 #[iv op, nv a, nv b] w (IsRet (nv (bitM op a b)) w) := by
  refine enter_abs Tryd.func25 rfl fun a0 hs0 hd0 hp => ?_
  have hs0 : a0.tmps.size = 59 := hs0
  have hN0 : New w w := Upd.refl _ _
  have hp0 : a0.eval (.tmp 0) = iv op := hp 0 _ rfl
  have hp1 : a0.eval (.tmp 1) = nv a := hp 1 _ rfl
  have hp2 : a0.eval (.tmp 2) = nv b := hp 2 _ rfl
  clear hp
  have hub := u32_bd b
  have hua := u32_bd a
  have hsh := sh_bd b hub
  have hii := i32_bd (i32M a % 4294967296 * 2 ^ ((u32M b).tmod 32).toNat % 4294967296)
  refine wp_seq_k fun K hK => ?_
  refine wp_g [true, true, true] [] [] 59
    [IsNew w 23 [iv a.k, iv a.n],
     IsNew w 23 [iv b.k, iv b.n],
     IsNew w 23 [iv 0, iv 0]]
    [0, 1, 2] (newsCons (fun v w h => IsNew.old h) (newsCons (fun v w h => IsNew.old h) (newsCons (fun v w h => IsNew.old h) newsNil))) hs0 (.nw (.nw (.nw (.nil)))) ?_ (fun i h => by cases h) ?_
  · skip
    refine .o2 (step_allocN (cs := [iv a.k, iv a.n]) (t := 23) rfl (noG rfl) (fun _ w hn k => v_box rfl (k.fx 1 hp1) (fun w => rfl)) (fun q _ hq hb => ⟨q, rfl, hq, hb⟩)) ?_
    refine .o2 (step_allocN (cs := [iv b.k, iv b.n]) (t := 23) rfl (noG rfl) (fun _ w hn k => v_box rfl (k.fx 2 hp2) (fun w => rfl)) (fun q _ hq hb => ⟨q, rfl, hq, hb⟩)) ?_
    refine .o2 (step_allocN (cs := [iv 0, iv 0]) (t := 23) rfl (noG rfl) (fun _ w hn k => rfl) (fun q _ hq hb => ⟨q, rfl, hq, hb⟩)) ?_
    exact .nil
  intro a1 w2 hn3 ha4
  have hs5 := ha4.size.trans hs0
  have hd6 := ha4.defers.trans hd0
  have h7 := ha4.fx 0 hp0
  obtain ⟨q9, h8, hq10, hb11⟩ : IsNew _ _ _ _ _ := ha4.got 0 4 rfl (by kernel_rfl)
  obtain ⟨q13, h12, hq14, hb15⟩ : IsNew _ _ _ _ _ := ha4.got 1 5 rfl (by kernel_rfl)
  obtain ⟨q17, h16, hq18, hb19⟩ : IsNew _ _ _ _ _ := ha4.got 2 6 rfl (by kernel_rfl)
  have hne20 : q9 ≠ q17 := ha4.ne 0 2 4 6 h8 h16
  have hne21 : q13 ≠ q17 := ha4.ne 1 2 5 6 h12 h16
  have hq22 := Nat.le_trans hN0.size hq10
  have hq23 := Nat.le_trans hN0.size hq14
  have hq24 := Nat.le_trans hN0.size hq18
  have hN25 := hN0.transNew hn3
  clear hs0 hd0 hp0 hp1 hp2 hq10 hq14 hq18 hN0 ha4 hn3
  refine st_nil ?_
  refine hK _ _ ?_
  clear hK K
  refine wp_seq_k fun K hK => ?_
  refine wp_g0 [true, true, true, true, true, true, true, true, true, true] [] 59
    [ve (nv a),
     ve (iv (i32M a)),
     ve (nv b),
     ve (iv (i32M b)),
     ve (nv b),
     ve (iv (u32M b)),
     ve (iv ((u32M b).tmod 32)),
     ve (iv (i32M a)),
     ve (iv (i32M b)),
     ve (iv ((u32M b).tmod 32))] hs5 (.eq (.eq (.eq (.eq (.eq (.eq (.eq (.eq (.eq (.eq (.nil))))))))))) ?_ ?_
  · skip
    refine .o1 (tk rfl rfl fun _ w hn k => ⟨_, v_load rfl (k.fx 4 h8) (l_two Tryd.isAgg23 Tryd.sizeOf23 (hb11.new_ hn)), rfl⟩) ?_
    refine .o1 (ck rfl rfl rfl (fun _ w hn k => ⟨#[nv a], args1 (k.eq1 0 10 rfl), fun _ => by kernel_rfl, i32_c a _⟩) fun _ => rfl) ?_
    refine .o1 (tk rfl rfl fun _ w hn k => ⟨_, v_load rfl (k.fx 5 h12) (l_two Tryd.isAgg23 Tryd.sizeOf23 (hb15.new_ hn)), rfl⟩) ?_
    refine .o1 (ck rfl rfl rfl (fun _ w hn k => ⟨#[nv b], args1 (k.eq1 2 12 rfl), fun _ => by kernel_rfl, i32_c b _⟩) fun _ => rfl) ?_
    refine .o1 (tk rfl rfl fun _ w hn k => ⟨_, v_load rfl (k.fx 5 h12) (l_two Tryd.isAgg23 Tryd.sizeOf23 (hb15.new_ hn)), rfl⟩) ?_
    refine .o1 (ck rfl rfl rfl (fun _ w hn k => ⟨#[nv b], args1 (k.eq1 4 14 rfl), fun _ => by kernel_rfl, u32_c b _⟩) fun _ => rfl) ?_
    refine .o1 (tk rfl rfl fun _ w hn k => ⟨_, v_bin rfl (k.eq1 5 15 rfl) rfl (fun _ => rfl) (r_remI rfl (by omega)), rfl⟩) ?_
    refine .o1 (tk rfl rfl fun _ w hn k => ⟨_, v_assign rfl (k.eq1 1 11 rfl), rfl⟩) ?_
    refine .o1 (tk rfl rfl fun _ w hn k => ⟨_, v_assign rfl (k.eq1 3 13 rfl), rfl⟩) ?_
    refine .o1 (tk rfl rfl fun _ w hn k => ⟨_, v_assign rfl (k.eq1 6 16 rfl), rfl⟩) ?_
    exact .nil
  intro a26 w27 hn28 ha29
  have hs30 := ha29.size.trans hs5
  have hd31 := ha29.defers.trans hd6
  have h32 := ha29.fx 0 h7
  have h33 := ha29.fx 4 h8
  have h34 := ha29.fx 6 h16
  have h35 := ha29.ge 7 7 rfl
  have h36 := ha29.ge 8 8 rfl
  have h37 := ha29.ge 9 9 rfl
  have hb38 := hb11.new_ hn28
  have hb39 := hb19.new_ hn28
  have hN40 := hN25.transNew hn28
  clear hs5 hd6 h7 h8 h12 h16 hb11 hb15 hq23 hb19 hN25 ha29 hn28
  have hi32_a : -2147483648 ≤ i32M a ∧ i32M a ≤ 2147483647 := i32_bd _
  have hi32_b : -2147483648 ≤ i32M b ∧ i32M b ≤ 2147483647 := i32_bd _
  have hu32_b := u32_bd b
  refine st_nil ?_
  refine hK _ _ ?_
  clear hK K
  refine wp_seq_k fun K hK => ?_
  refine wp_seq_k fun K hK => ?_
  refine wp_g0 [true] [] 59
    [ve (iv op)] hs30 (.eq (.nil)) ?_ ?_
  · skip
    refine .o1 (tk rfl rfl fun _ w hn k => ⟨_, v_move rfl (k.fx 0 h32), rfl⟩) ?_
    exact .nil
  intro a41 w42 hn43 ha44
  have hs45 := ha44.size.trans hs30
  have hd46 := ha44.defers.trans hd31
  have h47 := ha44.fx 4 h33
  have h48 := ha44.fx 6 h34
  have h49 := ha44.fx 7 h35
  have h50 := ha44.fx 8 h36
  have h51 := ha44.fx 9 h37
  have h52 := ha44.ge 0 17 rfl
  have hb53 := hb38.new_ hn43
  have hb54 := hb39.new_ hn43
  have hN55 := hN40.transNew hn43
  clear hs30 hd31 h32 h33 h34 h35 h36 h37 hb38 hb39 hN40 ha44 hn43
  refine st_nil ?_
  refine hK _ _ ?_
  clear hK K
  refine wp_block ?_
  refine wp_seq_k fun K hK => ?_
  refine wp_g0 [true, true] [] 59
    [ve (.bool (decide (op = 1))),
     ve (.bool (decide (op = 1)))] hs45 (.eq (.eq (.nil))) ?_ ?_
  · skip
    refine .o1 (tk rfl rfl fun _ w hn k => ⟨_, v_bin rfl (k.fx 17 h52) rfl (fun _ => rfl) (r_eql rfl), rfl⟩) ?_
    refine .o1 (tk rfl rfl fun _ w hn k => ⟨_, v_assign rfl (k.eq1 0 19 rfl), rfl⟩) ?_
    exact .nil
  intro a56 w57 hn58 ha59
  have hs60 := ha59.size.trans hs45
  have hd61 := ha59.defers.trans hd46
  have h62 := ha59.fx 4 h47
  have h63 := ha59.fx 6 h48
  have h64 := ha59.fx 7 h49
  have h65 := ha59.fx 8 h50
  have h66 := ha59.fx 9 h51
  have h67 := ha59.fx 17 h52
  have h68 := ha59.ge 1 18 rfl
  have hb69 := hb53.new_ hn58
  have hb70 := hb54.new_ hn58
  have hN71 := hN55.transNew hn58
  clear hs45 hd46 h47 h48 h49 h50 h51 h52 hb53 hb54 hN55 ha59 hn58
  refine st_nil ?_
  refine hK _ _ ?_
  clear hK K
  rcases Bool.eq_false_or_eq_true (decide (op = 1)) with ht72 | ht72
  · skip
    have ht72d := of_decide_eq_true ht72
    have hv73 : a56.eval (.tmp 18) = .bool true := h68.trans (congrArg Value.bool ht72)
    clear h68
    refine wp_cond_true hv73 ?_
    refine wp_seq_k fun K hK => ?_
    refine wp_g0 [true, true, true, true, false] [(4, false)] 59
      [ve (iv (i32M a)),
       ve (iv (i32M b)),
       ve (iv (bandM (i32M a) (i32M b))),
       ve (nv (Nm.mk 0 (bandM (i32M a) (i32M b)))),
       vt] hs60 (.eq (.eq (.eq (.eq (.tt (.nil)))))) ?_ ?_
    · skip
      refine .o1 (tk rfl rfl fun _ w hn k => ⟨_, v_move rfl (k.fx 7 h64), rfl⟩) ?_
      refine .o1 (tk rfl rfl fun _ w hn k => ⟨_, v_move rfl (k.fx 8 h65), rfl⟩) ?_
      refine .o1 (tk rfl rfl fun _ w hn k => ⟨_, v_bin rfl (k.eq1 0 20 rfl) (k.eq1 1 21 rfl) (fun _ => rfl) (r_andI _ _), rfl⟩) ?_
      refine .o1 (ck rfl rfl rfl (fun _ w hn k => ⟨#[iv (bandM (i32M a) (i32M b))], args1 (k.eq1 2 22 rfl), fun _ => by kernel_rfl, whole_c (bandM (i32M a) (i32M b)) _⟩) fun _ => rfl) ?_
      refine .off ?_
      exact .nil
    intro a74 w75 hn76 ha77
    have hs78 := ha77.size.trans hs60
    have hd79 := ha77.defers.trans hd61
    have h80 := ha77.fx 6 h63
    have h81 := ha77.ge 3 23 rfl
    have hb82 := hb70.new_ hn76
    have hN83 := hN71.transNew hn76
    clear hs60 hd61 h62 h63 h64 h65 h66 h67 hv73 hb69 hq22 hb70 hN71 ha77 hn76
    obtain ⟨w84, -, hst85, hb86, hu87, hf88⟩ := s_two (v0 := iv 0) (v1 := iv (bandM (i32M a) (i32M b))) Tryd.sizeOf23 rfl rfl rfl hb82
    refine st_act rfl rfl fun K89 hL90 => a_store' rfl h80 h81 hst85 (hL90 _ _ trivial ?_)
    have hN91 := hN83.trans hu87 (fun k hk hkb => by subst hkb; omega)
    clear hb82 hst85 K89 hL90 hN83 hu87 hf88
    refine st_nil ?_
    clear h81
    refine hK _ _ ?_
    clear hK K
    refine wp_ret (ret_k hd79 (v := nv (Nm.mk 0 (bandM (i32M a) (i32M b)))) (res_c rfl h80 (l_two Tryd.isAgg23 Tryd.sizeOf23 hb86)) ?_)
    refine ⟨?_, hN91⟩
    show Ending.returned (nv (Nm.mk 0 (bandM (i32M a) (i32M b)))) = Ending.returned (nv (bitM op a b))
    first | rfl | (simp [bitM, shM, ht72])
  have ht72d := of_decide_eq_false ht72
  have hv92 : a56.eval (.tmp 18) = .bool false := h68.trans (congrArg Value.bool ht72)
  clear h68
  refine wp_cond_false hv92 ?_
  refine wp_seq_k fun K hK => ?_
  refine wp_g0 [true, true] [] 59
    [ve (.bool (decide (op = 2))),
     ve (.bool (decide (op = 2)))] hs60 (.eq (.eq (.nil))) ?_ ?_
  · skip
    refine .o1 (tk rfl rfl fun _ w hn k => ⟨_, v_bin rfl (k.fx 17 h67) rfl (fun _ => rfl) (r_eql rfl), rfl⟩) ?_
    refine .o1 (tk rfl rfl fun _ w hn k => ⟨_, v_assign rfl (k.eq1 0 25 rfl), rfl⟩) ?_
    exact .nil
  intro a93 w94 hn95 ha96
  have hs97 := ha96.size.trans hs60
  have hd98 := ha96.defers.trans hd61
  have h99 := ha96.fx 4 h62
  have h100 := ha96.fx 6 h63
  have h101 := ha96.fx 7 h64
  have h102 := ha96.fx 8 h65
  have h103 := ha96.fx 9 h66
  have h104 := ha96.fx 17 h67
  have h105 := ha96.ge 1 24 rfl
  have hb106 := hb69.new_ hn95
  have hb107 := hb70.new_ hn95
  have hN108 := hN71.transNew hn95
  clear hs60 hd61 h62 h63 h64 h65 h66 h67 hv92 hb69 hb70 hN71 ha96 hn95
  refine st_nil ?_
  refine hK _ _ ?_
  clear hK K
  rcases Bool.eq_false_or_eq_true (decide (op = 2)) with ht109 | ht109
  · skip
    have ht109d := of_decide_eq_true ht109
    have hv110 : a93.eval (.tmp 24) = .bool true := h105.trans (congrArg Value.bool ht109)
    clear h105
    refine wp_cond_true hv110 ?_
    refine wp_seq_k fun K hK => ?_
    refine wp_g0 [true, true, true, true, false] [(4, false)] 59
      [ve (iv (i32M a)),
       ve (iv (i32M b)),
       ve (iv (borM (i32M a) (i32M b))),
       ve (nv (Nm.mk 0 (borM (i32M a) (i32M b)))),
       vt] hs97 (.eq (.eq (.eq (.eq (.tt (.nil)))))) ?_ ?_
    · skip
      refine .o1 (tk rfl rfl fun _ w hn k => ⟨_, v_move rfl (k.fx 7 h101), rfl⟩) ?_
      refine .o1 (tk rfl rfl fun _ w hn k => ⟨_, v_move rfl (k.fx 8 h102), rfl⟩) ?_
      refine .o1 (tk rfl rfl fun _ w hn k => ⟨_, v_bin rfl (k.eq1 0 26 rfl) (k.eq1 1 27 rfl) (fun _ => rfl) (r_orI _ _), rfl⟩) ?_
      refine .o1 (ck rfl rfl rfl (fun _ w hn k => ⟨#[iv (borM (i32M a) (i32M b))], args1 (k.eq1 2 28 rfl), fun _ => by kernel_rfl, whole_c (borM (i32M a) (i32M b)) _⟩) fun _ => rfl) ?_
      refine .off ?_
      exact .nil
    intro a111 w112 hn113 ha114
    have hs115 := ha114.size.trans hs97
    have hd116 := ha114.defers.trans hd98
    have h117 := ha114.fx 6 h100
    have h118 := ha114.ge 3 29 rfl
    have hb119 := hb107.new_ hn113
    have hN120 := hN108.transNew hn113
    clear hs97 hd98 h99 h100 h101 h102 h103 h104 hv110 hb106 hq22 hb107 hN108 ha114 hn113
    obtain ⟨w121, -, hst122, hb123, hu124, hf125⟩ := s_two (v0 := iv 0) (v1 := iv (borM (i32M a) (i32M b))) Tryd.sizeOf23 rfl rfl rfl hb119
    refine st_act rfl rfl fun K126 hL127 => a_store' rfl h117 h118 hst122 (hL127 _ _ trivial ?_)
    have hN128 := hN120.trans hu124 (fun k hk hkb => by subst hkb; omega)
    clear hb119 hst122 K126 hL127 hN120 hu124 hf125
    refine st_nil ?_
    clear h118
    refine hK _ _ ?_
    clear hK K
    refine wp_ret (ret_k hd116 (v := nv (Nm.mk 0 (borM (i32M a) (i32M b)))) (res_c rfl h117 (l_two Tryd.isAgg23 Tryd.sizeOf23 hb123)) ?_)
    refine ⟨?_, hN128⟩
    show Ending.returned (nv (Nm.mk 0 (borM (i32M a) (i32M b)))) = Ending.returned (nv (bitM op a b))
    first | rfl | (simp [bitM, shM, ht72, ht109])
  have ht109d := of_decide_eq_false ht109
  have hv129 : a93.eval (.tmp 24) = .bool false := h105.trans (congrArg Value.bool ht109)
  clear h105
  refine wp_cond_false hv129 ?_
  refine wp_seq_k fun K hK => ?_
  refine wp_g0 [true, true] [] 59
    [ve (.bool (decide (op = 3))),
     ve (.bool (decide (op = 3)))] hs97 (.eq (.eq (.nil))) ?_ ?_
  · skip
    refine .o1 (tk rfl rfl fun _ w hn k => ⟨_, v_bin rfl (k.fx 17 h104) rfl (fun _ => rfl) (r_eql rfl), rfl⟩) ?_
    refine .o1 (tk rfl rfl fun _ w hn k => ⟨_, v_assign rfl (k.eq1 0 31 rfl), rfl⟩) ?_
    exact .nil
  intro a130 w131 hn132 ha133
  have hs134 := ha133.size.trans hs97
  have hd135 := ha133.defers.trans hd98
  have h136 := ha133.fx 4 h99
  have h137 := ha133.fx 6 h100
  have h138 := ha133.fx 7 h101
  have h139 := ha133.fx 8 h102
  have h140 := ha133.fx 9 h103
  have h141 := ha133.fx 17 h104
  have h142 := ha133.ge 1 30 rfl
  have hb143 := hb106.new_ hn132
  have hb144 := hb107.new_ hn132
  have hN145 := hN108.transNew hn132
  clear hs97 hd98 h99 h100 h101 h102 h103 h104 hv129 hb106 hb107 hN108 ha133 hn132
  refine st_nil ?_
  refine hK _ _ ?_
  clear hK K
  rcases Bool.eq_false_or_eq_true (decide (op = 3)) with ht146 | ht146
  · skip
    have ht146d := of_decide_eq_true ht146
    have hv147 : a130.eval (.tmp 30) = .bool true := h142.trans (congrArg Value.bool ht146)
    clear h142
    refine wp_cond_true hv147 ?_
    refine wp_seq_k fun K hK => ?_
    refine wp_g0 [true, true, true, true, false] [(4, false)] 59
      [ve (iv (i32M a)),
       ve (iv (i32M b)),
       ve (iv (bxorM (i32M a) (i32M b))),
       ve (nv (Nm.mk 0 (bxorM (i32M a) (i32M b)))),
       vt] hs134 (.eq (.eq (.eq (.eq (.tt (.nil)))))) ?_ ?_
    · skip
      refine .o1 (tk rfl rfl fun _ w hn k => ⟨_, v_move rfl (k.fx 7 h138), rfl⟩) ?_
      refine .o1 (tk rfl rfl fun _ w hn k => ⟨_, v_move rfl (k.fx 8 h139), rfl⟩) ?_
      refine .o1 (tk rfl rfl fun _ w hn k => ⟨_, v_bin rfl (k.eq1 0 32 rfl) (k.eq1 1 33 rfl) (fun _ => rfl) (r_xorI _ _), rfl⟩) ?_
      refine .o1 (ck rfl rfl rfl (fun _ w hn k => ⟨#[iv (bxorM (i32M a) (i32M b))], args1 (k.eq1 2 34 rfl), fun _ => by kernel_rfl, whole_c (bxorM (i32M a) (i32M b)) _⟩) fun _ => rfl) ?_
      refine .off ?_
      exact .nil
    intro a148 w149 hn150 ha151
    have hs152 := ha151.size.trans hs134
    have hd153 := ha151.defers.trans hd135
    have h154 := ha151.fx 6 h137
    have h155 := ha151.ge 3 35 rfl
    have hb156 := hb144.new_ hn150
    have hN157 := hN145.transNew hn150
    clear hs134 hd135 h136 h137 h138 h139 h140 h141 hv147 hb143 hq22 hb144 hN145 ha151 hn150
    obtain ⟨w158, -, hst159, hb160, hu161, hf162⟩ := s_two (v0 := iv 0) (v1 := iv (bxorM (i32M a) (i32M b))) Tryd.sizeOf23 rfl rfl rfl hb156
    refine st_act rfl rfl fun K163 hL164 => a_store' rfl h154 h155 hst159 (hL164 _ _ trivial ?_)
    have hN165 := hN157.trans hu161 (fun k hk hkb => by subst hkb; omega)
    clear hb156 hst159 K163 hL164 hN157 hu161 hf162
    refine st_nil ?_
    clear h155
    refine hK _ _ ?_
    clear hK K
    refine wp_ret (ret_k hd153 (v := nv (Nm.mk 0 (bxorM (i32M a) (i32M b)))) (res_c rfl h154 (l_two Tryd.isAgg23 Tryd.sizeOf23 hb160)) ?_)
    refine ⟨?_, hN165⟩
    show Ending.returned (nv (Nm.mk 0 (bxorM (i32M a) (i32M b)))) = Ending.returned (nv (bitM op a b))
    first | rfl | (simp [bitM, shM, ht72, ht109, ht146])
  have ht146d := of_decide_eq_false ht146
  have hv166 : a130.eval (.tmp 30) = .bool false := h142.trans (congrArg Value.bool ht146)
  clear h142
  refine wp_cond_false hv166 ?_
  refine wp_seq_k fun K hK => ?_
  refine wp_g0 [true, true] [] 59
    [ve (.bool (decide (op = 4))),
     ve (.bool (decide (op = 4)))] hs134 (.eq (.eq (.nil))) ?_ ?_
  · skip
    refine .o1 (tk rfl rfl fun _ w hn k => ⟨_, v_bin rfl (k.fx 17 h141) rfl (fun _ => rfl) (r_eql rfl), rfl⟩) ?_
    refine .o1 (tk rfl rfl fun _ w hn k => ⟨_, v_assign rfl (k.eq1 0 37 rfl), rfl⟩) ?_
    exact .nil
  intro a167 w168 hn169 ha170
  have hs171 := ha170.size.trans hs134
  have hd172 := ha170.defers.trans hd135
  have h173 := ha170.fx 4 h136
  have h174 := ha170.fx 6 h137
  have h175 := ha170.fx 7 h138
  have h176 := ha170.fx 9 h140
  have h177 := ha170.fx 17 h141
  have h178 := ha170.ge 1 36 rfl
  have hb179 := hb143.new_ hn169
  have hb180 := hb144.new_ hn169
  have hN181 := hN145.transNew hn169
  clear hs134 hd135 h136 h137 h138 h139 h140 h141 hv166 hb143 hb144 hN145 ha170 hn169
  refine st_nil ?_
  refine hK _ _ ?_
  clear hK K
  rcases Bool.eq_false_or_eq_true (decide (op = 4)) with ht182 | ht182
  · skip
    have ht182d := of_decide_eq_true ht182
    have hv183 : a167.eval (.tmp 36) = .bool true := h178.trans (congrArg Value.bool ht182)
    clear h178
    refine wp_cond_true hv183 ?_
    refine wp_seq_k fun K hK => ?_
    refine wp_g0 [true, true, true, true, true, true, true, false] [(7, false)] 59
      [ve (iv (i32M a)),
       ve (.int .u32 ((i32M a) % 4294967296)),
       ve (iv ((u32M b).tmod 32)),
       ve (.int .u32 (((i32M a) % 4294967296) * 2 ^ ((u32M b).tmod 32).toNat % 4294967296)),
       ve (.int .i32 (i32of (((i32M a) % 4294967296) * 2 ^ ((u32M b).tmod 32).toNat % 4294967296))),
       ve (iv (i32of (((i32M a) % 4294967296) * 2 ^ ((u32M b).tmod 32).toNat % 4294967296))),
       ve (nv (Nm.mk 0 (i32of (((i32M a) % 4294967296) * 2 ^ ((u32M b).tmod 32).toNat % 4294967296)))),
       vt] hs171 (.eq (.eq (.eq (.eq (.eq (.eq (.eq (.tt (.nil))))))))) ?_ ?_
    · skip
      refine .o1 (tk rfl rfl fun _ w hn k => ⟨_, v_move rfl (k.fx 7 h175), rfl⟩) ?_
      refine .o1 (tk rfl rfl fun _ w hn k => ⟨_, v_conv rfl (k.eq1 0 38 rfl) (run_conv (by kernel_rfl) (by kernel_rfl) (by kernel_rfl) (wrap_u32m _)), rfl⟩) ?_
      refine .o1 (tk rfl rfl fun _ w hn k => ⟨_, v_move rfl (k.fx 9 h176), rfl⟩) ?_
      refine .o1 (tk rfl rfl fun _ w hn k => ⟨_, v_bin rfl (k.eq1 1 39 rfl) (k.eq1 2 40 rfl) (fun _ => rfl) (r_shlU32 (by omega)), rfl⟩) ?_
      refine .o1 (tk rfl rfl fun _ w hn k => ⟨_, v_conv rfl (k.eq1 3 41 rfl) (run_conv (by kernel_rfl) (by kernel_rfl) (by kernel_rfl) (wrap_i32m _)), rfl⟩) ?_
      refine .o1 (tk rfl rfl fun _ w hn k => ⟨_, v_conv rfl (k.eq1 4 42 rfl) (run_conv (by kernel_rfl) (by kernel_rfl) (by kernel_rfl) (IntWalk.i64_in _ (by omega))), rfl⟩) ?_
      refine .o1 (ck rfl rfl rfl (fun _ w hn k => ⟨#[iv (i32of (((i32M a) % 4294967296) * 2 ^ ((u32M b).tmod 32).toNat % 4294967296))], args1 (k.eq1 5 43 rfl), fun _ => by kernel_rfl, whole_c (i32of (((i32M a) % 4294967296) * 2 ^ ((u32M b).tmod 32).toNat % 4294967296)) _⟩) fun _ => rfl) ?_
      refine .off ?_
      exact .nil
    intro a184 w185 hn186 ha187
    have hs188 := ha187.size.trans hs171
    have hd189 := ha187.defers.trans hd172
    have h190 := ha187.fx 6 h174
    have h191 := ha187.ge 6 44 rfl
    have hb192 := hb180.new_ hn186
    have hN193 := hN181.transNew hn186
    clear hs171 hd172 h173 h174 h175 h176 h177 hv183 hb179 hq22 hb180 hN181 ha187 hn186
    obtain ⟨w194, -, hst195, hb196, hu197, hf198⟩ := s_two (v0 := iv 0) (v1 := iv (i32of (((i32M a) % 4294967296) * 2 ^ ((u32M b).tmod 32).toNat % 4294967296))) Tryd.sizeOf23 rfl rfl rfl hb192
    refine st_act rfl rfl fun K199 hL200 => a_store' rfl h190 h191 hst195 (hL200 _ _ trivial ?_)
    have hN201 := hN193.trans hu197 (fun k hk hkb => by subst hkb; omega)
    clear hb192 hst195 K199 hL200 hN193 hu197 hf198
    refine st_nil ?_
    clear h191
    refine hK _ _ ?_
    clear hK K
    refine wp_ret (ret_k hd189 (v := nv (Nm.mk 0 (i32of (((i32M a) % 4294967296) * 2 ^ ((u32M b).tmod 32).toNat % 4294967296)))) (res_c rfl h190 (l_two Tryd.isAgg23 Tryd.sizeOf23 hb196)) ?_)
    refine ⟨?_, hN201⟩
    show Ending.returned (nv (Nm.mk 0 (i32of (((i32M a) % 4294967296) * 2 ^ ((u32M b).tmod 32).toNat % 4294967296)))) = Ending.returned (nv (bitM op a b))
    first | rfl | (simp [bitM, shM, ht72, ht109, ht146, ht182])
  have ht182d := of_decide_eq_false ht182
  have hv202 : a167.eval (.tmp 36) = .bool false := h178.trans (congrArg Value.bool ht182)
  clear h178
  refine wp_cond_false hv202 ?_
  refine wp_seq_k fun K hK => ?_
  refine wp_g0 [true, true] [] 59
    [ve (.bool (decide (op = 5))),
     ve (.bool (decide (op = 5)))] hs171 (.eq (.eq (.nil))) ?_ ?_
  · skip
    refine .o1 (tk rfl rfl fun _ w hn k => ⟨_, v_bin rfl (k.fx 17 h177) rfl (fun _ => rfl) (r_eql rfl), rfl⟩) ?_
    refine .o1 (tk rfl rfl fun _ w hn k => ⟨_, v_assign rfl (k.eq1 0 46 rfl), rfl⟩) ?_
    exact .nil
  intro a203 w204 hn205 ha206
  have hs207 := ha206.size.trans hs171
  have hd208 := ha206.defers.trans hd172
  have h209 := ha206.fx 4 h173
  have h210 := ha206.fx 6 h174
  have h211 := ha206.fx 7 h175
  have h212 := ha206.fx 9 h176
  have h213 := ha206.fx 17 h177
  have h214 := ha206.ge 1 45 rfl
  have hb215 := hb179.new_ hn205
  have hb216 := hb180.new_ hn205
  have hN217 := hN181.transNew hn205
  clear hs171 hd172 h173 h174 h175 h176 h177 hv202 hb179 hb180 hN181 ha206 hn205
  refine st_nil ?_
  refine hK _ _ ?_
  clear hK K
  rcases Bool.eq_false_or_eq_true (decide (op = 5)) with ht218 | ht218
  · skip
    have ht218d := of_decide_eq_true ht218
    have hv219 : a203.eval (.tmp 45) = .bool true := h214.trans (congrArg Value.bool ht218)
    clear h214
    refine wp_cond_true hv219 ?_
    refine wp_seq_k fun K hK => ?_
    refine wp_g0 [true, true, true, true, false] [(4, false)] 59
      [ve (iv (i32M a)),
       ve (iv ((u32M b).tmod 32)),
       ve (iv ((i32M a) / 2 ^ ((u32M b).tmod 32).toNat)),
       ve (nv (Nm.mk 0 ((i32M a) / 2 ^ ((u32M b).tmod 32).toNat))),
       vt] hs207 (.eq (.eq (.eq (.eq (.tt (.nil)))))) ?_ ?_
    · skip
      refine .o1 (tk rfl rfl fun _ w hn k => ⟨_, v_move rfl (k.fx 7 h211), rfl⟩) ?_
      refine .o1 (tk rfl rfl fun _ w hn k => ⟨_, v_move rfl (k.fx 9 h212), rfl⟩) ?_
      refine .o1 (tk rfl rfl fun _ w hn k => ⟨_, v_bin rfl (k.eq1 0 47 rfl) (k.eq1 1 48 rfl) (fun _ => rfl) (r_shrI (by omega)), rfl⟩) ?_
      refine .o1 (ck rfl rfl rfl (fun _ w hn k => ⟨#[iv ((i32M a) / 2 ^ ((u32M b).tmod 32).toNat)], args1 (k.eq1 2 49 rfl), fun _ => by kernel_rfl, whole_c ((i32M a) / 2 ^ ((u32M b).tmod 32).toNat) _⟩) fun _ => rfl) ?_
      refine .off ?_
      exact .nil
    intro a220 w221 hn222 ha223
    have hs224 := ha223.size.trans hs207
    have hd225 := ha223.defers.trans hd208
    have h226 := ha223.fx 6 h210
    have h227 := ha223.ge 3 50 rfl
    have hb228 := hb216.new_ hn222
    have hN229 := hN217.transNew hn222
    clear hs207 hd208 h209 h210 h211 h212 h213 hv219 hb215 hq22 hb216 hN217 ha223 hn222
    obtain ⟨w230, -, hst231, hb232, hu233, hf234⟩ := s_two (v0 := iv 0) (v1 := iv ((i32M a) / 2 ^ ((u32M b).tmod 32).toNat)) Tryd.sizeOf23 rfl rfl rfl hb228
    refine st_act rfl rfl fun K235 hL236 => a_store' rfl h226 h227 hst231 (hL236 _ _ trivial ?_)
    have hN237 := hN229.trans hu233 (fun k hk hkb => by subst hkb; omega)
    clear hb228 hst231 K235 hL236 hN229 hu233 hf234
    refine st_nil ?_
    clear h227
    refine hK _ _ ?_
    clear hK K
    refine wp_ret (ret_k hd225 (v := nv (Nm.mk 0 ((i32M a) / 2 ^ ((u32M b).tmod 32).toNat))) (res_c rfl h226 (l_two Tryd.isAgg23 Tryd.sizeOf23 hb232)) ?_)
    refine ⟨?_, hN237⟩
    show Ending.returned (nv (Nm.mk 0 ((i32M a) / 2 ^ ((u32M b).tmod 32).toNat))) = Ending.returned (nv (bitM op a b))
    first | rfl | (simp [bitM, shM, ht72, ht109, ht146, ht182, ht218])
  have ht218d := of_decide_eq_false ht218
  have hv238 : a203.eval (.tmp 45) = .bool false := h214.trans (congrArg Value.bool ht218)
  clear h214
  refine wp_cond_false hv238 ?_
  refine wp_seq_k fun K hK => ?_
  refine wp_g0 [true, true] [] 59
    [ve (.bool (decide (op = 6))),
     ve (.bool (decide (op = 6)))] hs207 (.eq (.eq (.nil))) ?_ ?_
  · skip
    refine .o1 (tk rfl rfl fun _ w hn k => ⟨_, v_bin rfl (k.fx 17 h213) rfl (fun _ => rfl) (r_eql rfl), rfl⟩) ?_
    refine .o1 (tk rfl rfl fun _ w hn k => ⟨_, v_assign rfl (k.eq1 0 52 rfl), rfl⟩) ?_
    exact .nil
  intro a239 w240 hn241 ha242
  have hs243 := ha242.size.trans hs207
  have hd244 := ha242.defers.trans hd208
  have h245 := ha242.fx 4 h209
  have h246 := ha242.fx 6 h210
  have h247 := ha242.fx 9 h212
  have h248 := ha242.ge 1 51 rfl
  have hb249 := hb215.new_ hn241
  have hb250 := hb216.new_ hn241
  have hN251 := hN217.transNew hn241
  clear hs207 hd208 h209 h210 h211 h212 h213 hv238 hb215 hb216 hN217 ha242 hn241
  refine st_nil ?_
  refine hK _ _ ?_
  clear hK K
  rcases Bool.eq_false_or_eq_true (decide (op = 6)) with ht252 | ht252
  · skip
    have ht252d := of_decide_eq_true ht252
    have hv253 : a239.eval (.tmp 51) = .bool true := h248.trans (congrArg Value.bool ht252)
    clear h248
    refine wp_cond_true hv253 ?_
    refine wp_seq_k fun K hK => ?_
    refine wp_g0 [true, true, true, true, true, false] [(5, false)] 59
      [ve (nv a),
       ve (iv (u32M a)),
       ve (iv ((u32M b).tmod 32)),
       ve (iv ((u32M a) / 2 ^ ((u32M b).tmod 32).toNat)),
       ve (nv (Nm.mk 0 ((u32M a) / 2 ^ ((u32M b).tmod 32).toNat))),
       vt] hs243 (.eq (.eq (.eq (.eq (.eq (.tt (.nil))))))) ?_ ?_
    · skip
      refine .o1 (tk rfl rfl fun _ w hn k => ⟨_, v_load rfl (k.fx 4 h245) (l_two Tryd.isAgg23 Tryd.sizeOf23 (hb249.new_ hn)), rfl⟩) ?_
      refine .o1 (ck rfl rfl rfl (fun _ w hn k => ⟨#[nv a], args1 (k.eq1 0 53 rfl), fun _ => by kernel_rfl, u32_c a _⟩) fun _ => rfl) ?_
      refine .o1 (tk rfl rfl fun _ w hn k => ⟨_, v_move rfl (k.fx 9 h247), rfl⟩) ?_
      refine .o1 (tk rfl rfl fun _ w hn k => ⟨_, v_bin rfl (k.eq1 1 54 rfl) (k.eq1 2 55 rfl) (fun _ => rfl) (r_shrI (by omega)), rfl⟩) ?_
      refine .o1 (ck rfl rfl rfl (fun _ w hn k => ⟨#[iv ((u32M a) / 2 ^ ((u32M b).tmod 32).toNat)], args1 (k.eq1 3 56 rfl), fun _ => by kernel_rfl, whole_c ((u32M a) / 2 ^ ((u32M b).tmod 32).toNat) _⟩) fun _ => rfl) ?_
      refine .off ?_
      exact .nil
    intro a254 w255 hn256 ha257
    have hs258 := ha257.size.trans hs243
    have hd259 := ha257.defers.trans hd244
    have h260 := ha257.fx 6 h246
    have h261 := ha257.ge 4 57 rfl
    have hb262 := hb250.new_ hn256
    have hN263 := hN251.transNew hn256
    clear hs243 hd244 h245 h246 h247 hv253 hb249 hq22 hb250 hN251 ha257 hn256
    have hu32_a := u32_bd a
    obtain ⟨w264, -, hst265, hb266, hu267, hf268⟩ := s_two (v0 := iv 0) (v1 := iv ((u32M a) / 2 ^ ((u32M b).tmod 32).toNat)) Tryd.sizeOf23 rfl rfl rfl hb262
    refine st_act rfl rfl fun K269 hL270 => a_store' rfl h260 h261 hst265 (hL270 _ _ trivial ?_)
    have hN271 := hN263.trans hu267 (fun k hk hkb => by subst hkb; omega)
    clear hb262 hst265 K269 hL270 hN263 hu267 hf268
    refine st_nil ?_
    clear h261
    refine hK _ _ ?_
    clear hK K
    refine wp_ret (ret_k hd259 (v := nv (Nm.mk 0 ((u32M a) / 2 ^ ((u32M b).tmod 32).toNat))) (res_c rfl h260 (l_two Tryd.isAgg23 Tryd.sizeOf23 hb266)) ?_)
    refine ⟨?_, hN271⟩
    show Ending.returned (nv (Nm.mk 0 ((u32M a) / 2 ^ ((u32M b).tmod 32).toNat))) = Ending.returned (nv (bitM op a b))
    first | rfl | (simp [bitM, shM, ht72, ht109, ht146, ht182, ht218, ht252])
  have ht252d := of_decide_eq_false ht252
  have hv272 : a239.eval (.tmp 51) = .bool false := h248.trans (congrArg Value.bool ht252)
  clear h248
  refine wp_cond_false hv272 ?_
  refine wp_skip ?_
  refine hK _ _ ?_
  clear hK K
  refine wp_seq_k fun K hK => ?_
  refine wp_g0 [true, false] [(1, false)] 59
    [ve (nv (Nm.mk 2 0)),
     vt] hs243 (.eq (.tt (.nil))) ?_ ?_
  · skip
    refine .o1 (ck rfl rfl rfl (fun _ w hn k => ⟨#[], rfl, fun _ => by kernel_rfl, nan_c  _⟩) fun _ => rfl) ?_
    refine .off ?_
    exact .nil
  intro a273 w274 hn275 ha276
  have hs277 := ha276.size.trans hs243
  have hd278 := ha276.defers.trans hd244
  have h279 := ha276.fx 6 h246
  have h280 := ha276.ge 0 58 rfl
  have hb281 := hb250.new_ hn275
  have hN282 := hN251.transNew hn275
  clear hs243 hd244 h245 h246 h247 hv272 hb249 hq22 hb250 hN251 ha276 hn275
  obtain ⟨w283, -, hst284, hb285, hu286, hf287⟩ := s_two (v0 := iv 2) (v1 := iv 0) Tryd.sizeOf23 rfl rfl rfl hb281
  refine st_act rfl rfl fun K288 hL289 => a_store' rfl h279 h280 hst284 (hL289 _ _ trivial ?_)
  have hN290 := hN282.trans hu286 (fun k hk hkb => by subst hkb; omega)
  clear hb281 hst284 K288 hL289 hN282 hu286 hf287
  refine st_nil ?_
  clear h280
  refine hK _ _ ?_
  clear hK K
  refine wp_ret (ret_k hd278 (v := nv (Nm.mk 2 0)) (res_c rfl h279 (l_two Tryd.isAgg23 Tryd.sizeOf23 hb285)) ?_)
  refine ⟨?_, hN290⟩
  show Ending.returned (nv (Nm.mk 2 0)) = Ending.returned (nv (bitM op a b))
  first | rfl | (simp [bitM, shM, ht72, ht109, ht146, ht182, ht218, ht252])
end Go.Proofs.YtldakajmhfdfgaaDoor
