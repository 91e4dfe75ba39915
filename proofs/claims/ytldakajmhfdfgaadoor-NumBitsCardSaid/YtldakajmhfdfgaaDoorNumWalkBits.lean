/- NumBits: the walk -/
import Derived.Test.YtldakajmhfdfgaaDoorNumF
import Derived.Test.YtldakajmhfdfgaaDoorNumR2
namespace Go.Proofs.YtldakajmhfdfgaaDoor
open Go.RowKit
set_option linter.unusedSimpArgs false
set_option linter.unusedVariables false
set_option maxHeartbeats 8000000 in
set_option maxRecDepth 100000 in
theorem bits_walk (op : Int) (a : Nm) (b : Nm) (w : World) : Calls Tryd.prog 7 #[iv op, nv a, nv b] w (IsRet (.bool true) w) := by
  refine enter_abs Tryd.func7 rfl fun a0 hs0 hd0 hp => ?_
  have hs0 : a0.tmps.size = 66 := hs0
  have hN0 : New w w := Upd.refl _ _
  have hp0 : a0.eval (.tmp 0) = iv op := hp 0 _ rfl
  have hp1 : a0.eval (.tmp 1) = nv a := hp 1 _ rfl
  have hp2 : a0.eval (.tmp 2) = nv b := hp 2 _ rfl
  clear hp
  refine wp_seq_k fun K hK => ?_
  refine wp_g [true, true, true] [] [] 66
    [IsNew w 23 [iv a.k, iv a.n],
     IsNew w 23 [iv b.k, iv b.n],
     ve (.bool false)]
    [0, 1] (newsCons (fun v w h => IsNew.old h) (newsCons (fun v w h => IsNew.old h) newsNil)) hs0 (.nw (.nw (.eq (.nil)))) ?_ (fun i h => by cases h) ?_
  · skip
    refine .o2 (step_allocN (cs := [iv a.k, iv a.n]) (t := 23) rfl (noG rfl) (fun _ w hn k => v_box rfl (k.fx 1 hp1) (fun w => rfl)) (fun q _ hq hb => ⟨q, rfl, hq, hb⟩)) ?_
    refine .o2 (step_allocN (cs := [iv b.k, iv b.n]) (t := 23) rfl (noG rfl) (fun _ w hn k => v_box rfl (k.fx 2 hp2) (fun w => rfl)) (fun q _ hq hb => ⟨q, rfl, hq, hb⟩)) ?_
    refine .o1 (tk rfl rfl fun _ w hn k => ⟨_, v_assign rfl rfl, rfl⟩) ?_
    exact .nil
  intro a1 w2 hn3 ha4
  have hs5 := ha4.size.trans hs0
  have hd6 := ha4.defers.trans hd0
  have h7 := ha4.fx 0 hp0
  obtain ⟨q9, h8, hq10, hb11⟩ : IsNew _ _ _ _ _ := ha4.got 0 4 rfl (by kernel_rfl)
  obtain ⟨q13, h12, hq14, hb15⟩ : IsNew _ _ _ _ _ := ha4.got 1 5 rfl (by kernel_rfl)
  have h16 := ha4.ge 2 6 rfl
  have hq17 := Nat.le_trans hN0.size hq10
  have hq18 := Nat.le_trans hN0.size hq14
  have hN19 := hN0.transNew hn3
  clear hs0 hd0 hp0 hp1 hp2 hq10 hq14 hN0 ha4 hn3
  refine st_nil ?_
  refine hK _ _ ?_
  clear hK K
  refine wp_seq_k fun K hK => ?_
  refine wp_seq_k fun K hK => ?_
  refine wp_g0 [true, true] [] 66
    [ve (.bool true),
     ve (.bool false)] hs5 (.eq (.eq (.nil))) ?_ ?_
  · skip
    refine .o1 (ck rfl rfl rfl (fun _ w hn k => ⟨#[], rfl, fun _ => by kernel_rfl, first_c  _⟩) fun _ => rfl) ?_
    refine .o1 (tk rfl rfl fun _ w hn k => ⟨_, v_not rfl (k.eq1 0 11 rfl), rfl⟩) ?_
    exact .nil
  intro a20 w21 hn22 ha23
  have hs24 := ha23.size.trans hs5
  have hd25 := ha23.defers.trans hd6
  have h26 := ha23.fx 0 h7
  have h27 := ha23.fx 4 h8
  have h28 := ha23.fx 5 h12
  have h29 := ha23.fx 6 h16
  have h30 := ha23.ge 1 12 rfl
  have hb31 := hb11.new_ hn22
  have hb32 := hb15.new_ hn22
  have hN33 := hN19.transNew hn22
  clear hs5 hd6 h7 h8 h12 h16 hb11 hb15 hN19 ha23 hn22
  refine st_nil ?_
  refine hK _ _ ?_
  clear hK K
  refine wp_cond_false h30 ?_
  refine wp_skip ?_
  refine hK _ _ ?_
  clear hK K
  refine wp_seq_k fun K hK => ?_
  refine wp_g0 [true, true, true, true, true, true, true] [] 66
    [ve (nv a),
     ve (.tuple #[iv ((indexM a).1), .bool ((indexM a).2)]),
     ve (.tuple #[iv ((indexM a).1), .bool ((indexM a).2)]),
     ve (iv ((indexM a).1)),
     ve (.bool ((indexM a).2)),
     ve (iv ((indexM a).1)),
     ve (.bool ((indexM a).2))] hs24 (.eq (.eq (.eq (.eq (.eq (.eq (.eq (.nil)))))))) ?_ ?_
  · skip
    refine .o1 (tk rfl rfl fun _ w hn k => ⟨_, v_load rfl (k.fx 4 h27) (l_two Tryd.isAgg23 Tryd.sizeOf23 (hb31.new_ hn)), rfl⟩) ?_
    refine .o1 (ck rfl rfl rfl (fun _ w hn k => ⟨#[nv a], args1 (k.eq1 0 14 rfl), fun _ => by kernel_rfl, index_c a _⟩) fun _ => rfl) ?_
    refine .o1 (tk rfl rfl fun _ w hn k => ⟨_, v_move rfl (k.eq1 1 15 rfl), rfl⟩) ?_
    refine .o1 (tk rfl rfl fun _ w hn k => ⟨_, v_extract rfl (k.eq1 2 13 rfl) rfl, rfl⟩) ?_
    refine .o1 (tk rfl rfl fun _ w hn k => ⟨_, v_extract rfl (k.eq1 2 13 rfl) rfl, rfl⟩) ?_
    refine .o1 (tk rfl rfl fun _ w hn k => ⟨_, v_assign rfl (k.eq1 3 16 rfl), rfl⟩) ?_
    refine .o1 (tk rfl rfl fun _ w hn k => ⟨_, v_assign rfl (k.eq1 4 17 rfl), rfl⟩) ?_
    exact .nil
  intro a34 w35 hn36 ha37
  have hs38 := ha37.size.trans hs24
  have hd39 := ha37.defers.trans hd25
  have h40 := ha37.fx 0 h26
  have h41 := ha37.fx 4 h27
  have h42 := ha37.fx 5 h28
  have h43 := ha37.fx 6 h29
  have h44 := ha37.ge 5 7 rfl
  have h45 := ha37.ge 6 8 rfl
  have hb46 := hb31.new_ hn36
  have hb47 := hb32.new_ hn36
  have hN48 := hN33.transNew hn36
  clear hs24 hd25 h26 h27 h28 h29 h30 hb31 hb32 hN33 ha37 hn36
  refine st_nil ?_
  refine hK _ _ ?_
  clear hK K
  refine wp_seq_k fun K hK => ?_
  refine wp_g0 [true, true, true, true, true, true, true] [] 66
    [ve (nv a),
     ve (.tuple #[iv ((indexM a).1), .bool ((indexM a).2)]),
     ve (.tuple #[iv ((indexM a).1), .bool ((indexM a).2)]),
     ve (iv ((indexM a).1)),
     ve (.bool ((indexM a).2)),
     ve (iv ((indexM a).1)),
     ve (.bool ((indexM a).2))] hs38 (.eq (.eq (.eq (.eq (.eq (.eq (.eq (.nil)))))))) ?_ ?_
  · skip
    refine .o1 (tk rfl rfl fun _ w hn k => ⟨_, v_load rfl (k.fx 4 h41) (l_two Tryd.isAgg23 Tryd.sizeOf23 (hb46.new_ hn)), rfl⟩) ?_
    refine .o1 (ck rfl rfl rfl (fun _ w hn k => ⟨#[nv a], args1 (k.eq1 0 19 rfl), fun _ => by kernel_rfl, rindex_c a _⟩) fun _ => rfl) ?_
    refine .o1 (tk rfl rfl fun _ w hn k => ⟨_, v_move rfl (k.eq1 1 20 rfl), rfl⟩) ?_
    refine .o1 (tk rfl rfl fun _ w hn k => ⟨_, v_extract rfl (k.eq1 2 18 rfl) rfl, rfl⟩) ?_
    refine .o1 (tk rfl rfl fun _ w hn k => ⟨_, v_extract rfl (k.eq1 2 18 rfl) rfl, rfl⟩) ?_
    refine .o1 (tk rfl rfl fun _ w hn k => ⟨_, v_assign rfl (k.eq1 3 21 rfl), rfl⟩) ?_
    refine .o1 (tk rfl rfl fun _ w hn k => ⟨_, v_assign rfl (k.eq1 4 22 rfl), rfl⟩) ?_
    exact .nil
  intro a49 w50 hn51 ha52
  have hs53 := ha52.size.trans hs38
  have hd54 := ha52.defers.trans hd39
  have h55 := ha52.fx 0 h40
  have h56 := ha52.fx 4 h41
  have h57 := ha52.fx 5 h42
  have h58 := ha52.fx 6 h43
  have h59 := ha52.fx 7 h44
  have h60 := ha52.fx 8 h45
  have h61 := ha52.ge 5 9 rfl
  have h62 := ha52.ge 6 10 rfl
  have hb63 := hb46.new_ hn51
  have hb64 := hb47.new_ hn51
  have hN65 := hN48.transNew hn51
  clear hs38 hd39 h40 h41 h42 h43 h44 h45 hb46 hb47 hN48 ha52 hn51
  refine st_nil ?_
  refine hK _ _ ?_
  clear hK K
  refine wp_seq_k fun K hK => ?_
  have ht66 : (decide ((i32M a) = (i32M a))) = true := decide_eq_true rfl
  have ht66d := of_decide_eq_true ht66
  have ht67 : (decide ((u32M a) = (u32M a))) = true := decide_eq_true rfl
  have ht67d := of_decide_eq_true ht67
  have ht68 : (eqN (wholeM a) (wholeM a)) = true := eqN_refl _
  have ht69 : (decide (((indexM a).1) = ((indexM a).1))) = true := decide_eq_true rfl
  have ht69d := of_decide_eq_true ht69
  rcases Bool.eq_false_or_eq_true ((indexM a).2) with ht70 | ht70
  · skip
    have hv71 : a49.eval (.tmp 8) = .bool true := h60.trans (congrArg Value.bool ht70)
    clear h60
    have hv72 : a49.eval (.tmp 10) = .bool true := h62.trans (congrArg Value.bool ht70)
    clear h62
    refine wp_g0 [true, true, true, true, true, true, true, true, true, true, true, true, true, true, true, true, true, true, true, true, true, true, true, true, true, true, true, true, true, true, true, true, true, true, true, true, true, true, true, true, true, true, true, true] [] 66
      [ve (.bool true),
       ve (.bool true),
       ve (nv a),
       ve (iv (i32M a)),
       ve (nv a),
       ve (iv (i32M a)),
       ve (.bool true),
       ve (.bool true),
       ve (.bool true),
       ve (nv a),
       ve (iv (u32M a)),
       ve (nv a),
       ve (iv (u32M a)),
       ve (.bool true),
       ve (.bool true),
       ve (.bool true),
       ve (nv a),
       ve (nv (wholeM a)),
       ve (nv a),
       ve (nv (wholeM a)),
       ve (.bool true),
       ve (.bool true),
       ve (.bool true),
       ve (iv ((indexM a).1)),
       ve (iv ((indexM a).1)),
       ve (.bool true),
       ve (.bool true),
       ve (.bool true),
       ve (.bool true),
       ve (.bool true),
       ve (.bool true),
       ve (.bool true),
       ve (.bool true),
       ve (iv op),
       ve (nv a),
       ve (nv b),
       ve (nv (bitM op a b)),
       ve (iv op),
       ve (nv a),
       ve (nv b),
       ve (nv (bitM op a b)),
       ve (.bool (eqN (bitM op a b) (bitM op a b))),
       ve (.bool (eqN (bitM op a b) (bitM op a b))),
       ve (.bool (eqN (bitM op a b) (bitM op a b)))] hs53 (.eq (.eq (.eq (.eq (.eq (.eq (.eq (.eq (.eq (.eq (.eq (.eq (.eq (.eq (.eq (.eq (.eq (.eq (.eq (.eq (.eq (.eq (.eq (.eq (.eq (.eq (.eq (.eq (.eq (.eq (.eq (.eq (.eq (.eq (.eq (.eq (.eq (.eq (.eq (.eq (.eq (.eq (.eq (.eq (.nil))))))))))))))))))))))))))))))))))))))))))))) ?_ ?_
    · skip
      refine .o1 (ck rfl rfl rfl (fun _ w hn k => ⟨#[], rfl, fun _ => by kernel_rfl, first_c  _⟩) fun _ => rfl) ?_
      refine .o1 (tk rfl rfl fun _ w hn k => ⟨_, v_move rfl (k.eq1 0 23 rfl), rfl⟩) ?_
      refine .o1 (tg rfl rfl rfl (fun _ _ k => k.eq1 1 24 rfl) fun _ w hn k => ⟨_, v_load rfl (k.fx 4 h56) (l_two Tryd.isAgg23 Tryd.sizeOf23 (hb63.new_ hn)), rfl⟩) ?_
      refine .o1 (cg rfl rfl rfl (fun _ _ k => k.eq1 1 24 rfl) rfl (fun _ w hn k => ⟨#[nv a], args1 (k.eq1 2 25 rfl), fun _ => by kernel_rfl, i32_c a _⟩) fun _ => rfl) ?_
      refine .o1 (tg rfl rfl rfl (fun _ _ k => k.eq1 1 24 rfl) fun _ w hn k => ⟨_, v_load rfl (k.fx 4 h56) (l_two Tryd.isAgg23 Tryd.sizeOf23 (hb63.new_ hn)), rfl⟩) ?_
      refine .o1 (cg rfl rfl rfl (fun _ _ k => k.eq1 1 24 rfl) rfl (fun _ w hn k => ⟨#[nv a], args1 (k.eq1 4 27 rfl), fun _ => by kernel_rfl, ri32_c a _⟩) fun _ => rfl) ?_
      refine .o1 (tg rfl rfl rfl (fun _ _ k => k.eq1 1 24 rfl) fun _ w hn k => ⟨_, v_bin rfl (k.eq1 3 26 rfl) (k.eq1 5 28 rfl) (fun _ => rfl) (r_eql ht66), rfl⟩) ?_
      refine .o1 (tk rfl rfl fun _ w hn k => ⟨_, v_pickT rfl (k.eq1 1 24 rfl) (k.eq1 6 29 rfl), rfl⟩) ?_
      refine .o1 (tk rfl rfl fun _ w hn k => ⟨_, v_move rfl (k.eq1 7 30 rfl), rfl⟩) ?_
      refine .o1 (tg rfl rfl rfl (fun _ _ k => k.eq1 8 31 rfl) fun _ w hn k => ⟨_, v_load rfl (k.fx 4 h56) (l_two Tryd.isAgg23 Tryd.sizeOf23 (hb63.new_ hn)), rfl⟩) ?_
      refine .o1 (cg rfl rfl rfl (fun _ _ k => k.eq1 8 31 rfl) rfl (fun _ w hn k => ⟨#[nv a], args1 (k.eq1 9 32 rfl), fun _ => by kernel_rfl, u32_c a _⟩) fun _ => rfl) ?_
      refine .o1 (tg rfl rfl rfl (fun _ _ k => k.eq1 8 31 rfl) fun _ w hn k => ⟨_, v_load rfl (k.fx 4 h56) (l_two Tryd.isAgg23 Tryd.sizeOf23 (hb63.new_ hn)), rfl⟩) ?_
      refine .o1 (cg rfl rfl rfl (fun _ _ k => k.eq1 8 31 rfl) rfl (fun _ w hn k => ⟨#[nv a], args1 (k.eq1 11 34 rfl), fun _ => by kernel_rfl, ru32_c a _⟩) fun _ => rfl) ?_
      refine .o1 (tg rfl rfl rfl (fun _ _ k => k.eq1 8 31 rfl) fun _ w hn k => ⟨_, v_bin rfl (k.eq1 10 33 rfl) (k.eq1 12 35 rfl) (fun _ => rfl) (r_eql ht67), rfl⟩) ?_
      refine .o1 (tk rfl rfl fun _ w hn k => ⟨_, v_pickT rfl (k.eq1 8 31 rfl) (k.eq1 13 36 rfl), rfl⟩) ?_
      refine .o1 (tk rfl rfl fun _ w hn k => ⟨_, v_move rfl (k.eq1 14 37 rfl), rfl⟩) ?_
      refine .o1 (tg rfl rfl rfl (fun _ _ k => k.eq1 15 38 rfl) fun _ w hn k => ⟨_, v_load rfl (k.fx 4 h56) (l_two Tryd.isAgg23 Tryd.sizeOf23 (hb63.new_ hn)), rfl⟩) ?_
      refine .o1 (cg rfl rfl rfl (fun _ _ k => k.eq1 15 38 rfl) rfl (fun _ w hn k => ⟨#[nv a], args1 (k.eq1 16 39 rfl), fun _ => by kernel_rfl, whole2_c a _⟩) fun _ => rfl) ?_
      refine .o1 (tg rfl rfl rfl (fun _ _ k => k.eq1 15 38 rfl) fun _ w hn k => ⟨_, v_load rfl (k.fx 4 h56) (l_two Tryd.isAgg23 Tryd.sizeOf23 (hb63.new_ hn)), rfl⟩) ?_
      refine .o1 (cg rfl rfl rfl (fun _ _ k => k.eq1 15 38 rfl) rfl (fun _ w hn k => ⟨#[nv a], args1 (k.eq1 18 41 rfl), fun _ => by kernel_rfl, rwhole_c a _⟩) fun _ => rfl) ?_
      refine .o1 (cg rfl rfl rfl (fun _ _ k => k.eq1 15 38 rfl) rfl (fun _ w hn k => ⟨#[nv (wholeM a), nv (wholeM a)], args2 (k.eq1 17 40 rfl) (k.eq1 19 42 rfl), fun _ => by kernel_rfl, rnum_c (wholeM a) (wholeM a) _⟩) fun _ => congrArg Value.bool ht68) ?_
      refine .o1 (tk rfl rfl fun _ w hn k => ⟨_, v_pickT rfl (k.eq1 15 38 rfl) (k.eq1 20 43 rfl), rfl⟩) ?_
      refine .o1 (tk rfl rfl fun _ w hn k => ⟨_, v_move rfl (k.eq1 21 44 rfl), rfl⟩) ?_
      refine .o1 (tg rfl rfl rfl (fun _ _ k => k.eq1 22 45 rfl) fun _ w hn k => ⟨_, v_move rfl (k.fx 7 h59), rfl⟩) ?_
      refine .o1 (tg rfl rfl rfl (fun _ _ k => k.eq1 22 45 rfl) fun _ w hn k => ⟨_, v_move rfl (k.fx 9 h61), rfl⟩) ?_
      refine .o1 (tg rfl rfl rfl (fun _ _ k => k.eq1 22 45 rfl) fun _ w hn k => ⟨_, v_bin rfl (k.eq1 23 46 rfl) (k.eq1 24 47 rfl) (fun _ => rfl) (r_eql ht69), rfl⟩) ?_
      refine .o1 (tk rfl rfl fun _ w hn k => ⟨_, v_pickT rfl (k.eq1 22 45 rfl) (k.eq1 25 48 rfl), rfl⟩) ?_
      refine .o1 (tk rfl rfl fun _ w hn k => ⟨_, v_move rfl (k.eq1 26 49 rfl), rfl⟩) ?_
      refine .o1 (tg rfl rfl rfl (fun _ _ k => k.eq1 27 50 rfl) fun _ w hn k => ⟨_, v_move rfl (k.fx 8 hv71), rfl⟩) ?_
      refine .o1 (tg rfl rfl rfl (fun _ _ k => k.eq1 27 50 rfl) fun _ w hn k => ⟨_, v_move rfl (k.fx 10 hv72), rfl⟩) ?_
      refine .o1 (tg rfl rfl rfl (fun _ _ k => k.eq1 27 50 rfl) fun _ w hn k => ⟨_, v_bin rfl (k.eq1 28 51 rfl) (k.eq1 29 52 rfl) (fun _ => rfl) (fun w => by kernel_rfl), rfl⟩) ?_
      refine .o1 (tk rfl rfl fun _ w hn k => ⟨_, v_pickT rfl (k.eq1 27 50 rfl) (k.eq1 30 53 rfl), rfl⟩) ?_
      refine .o1 (tk rfl rfl fun _ w hn k => ⟨_, v_move rfl (k.eq1 31 54 rfl), rfl⟩) ?_
      refine .o1 (tg rfl rfl rfl (fun _ _ k => k.eq1 32 55 rfl) fun _ w hn k => ⟨_, v_move rfl (k.fx 0 h55), rfl⟩) ?_
      refine .o1 (tg rfl rfl rfl (fun _ _ k => k.eq1 32 55 rfl) fun _ w hn k => ⟨_, v_load rfl (k.fx 4 h56) (l_two Tryd.isAgg23 Tryd.sizeOf23 (hb63.new_ hn)), rfl⟩) ?_
      refine .o1 (tg rfl rfl rfl (fun _ _ k => k.eq1 32 55 rfl) fun _ w hn k => ⟨_, v_load rfl (k.fx 5 h57) (l_two Tryd.isAgg23 Tryd.sizeOf23 (hb64.new_ hn)), rfl⟩) ?_
      refine .o1 (cg rfl rfl rfl (fun _ _ k => k.eq1 32 55 rfl) rfl (fun _ w hn k => ⟨#[iv op, nv a, nv b], args3 (k.eq1 33 56 rfl) (k.eq1 34 57 rfl) (k.eq1 35 58 rfl), fun _ => by kernel_rfl, bit_c op a b _⟩) fun _ => rfl) ?_
      refine .o1 (tg rfl rfl rfl (fun _ _ k => k.eq1 32 55 rfl) fun _ w hn k => ⟨_, v_move rfl (k.fx 0 h55), rfl⟩) ?_
      refine .o1 (tg rfl rfl rfl (fun _ _ k => k.eq1 32 55 rfl) fun _ w hn k => ⟨_, v_load rfl (k.fx 4 h56) (l_two Tryd.isAgg23 Tryd.sizeOf23 (hb63.new_ hn)), rfl⟩) ?_
      refine .o1 (tg rfl rfl rfl (fun _ _ k => k.eq1 32 55 rfl) fun _ w hn k => ⟨_, v_load rfl (k.fx 5 h57) (l_two Tryd.isAgg23 Tryd.sizeOf23 (hb64.new_ hn)), rfl⟩) ?_
      refine .o1 (cg rfl rfl rfl (fun _ _ k => k.eq1 32 55 rfl) rfl (fun _ w hn k => ⟨#[iv op, nv a, nv b], args3 (k.eq1 37 60 rfl) (k.eq1 38 61 rfl) (k.eq1 39 62 rfl), fun _ => by kernel_rfl, rbit_c op a b _⟩) fun _ => rfl) ?_
      refine .o1 (cg rfl rfl rfl (fun _ _ k => k.eq1 32 55 rfl) rfl (fun _ w hn k => ⟨#[nv (bitM op a b), nv (bitM op a b)], args2 (k.eq1 36 59 rfl) (k.eq1 40 63 rfl), fun _ => by kernel_rfl, rnum_c (bitM op a b) (bitM op a b) _⟩) fun _ => rfl) ?_
      refine .o1 (tk rfl rfl fun _ w hn k => ⟨_, v_pickT rfl (k.eq1 32 55 rfl) (k.eq1 41 64 rfl), rfl⟩) ?_
      refine .o1 (tk rfl rfl fun _ w hn k => ⟨_, v_assign rfl (k.eq1 42 65 rfl), rfl⟩) ?_
      exact .nil
    intro a73 w74 hn75 ha76
    have hs77 := ha76.size.trans hs53
    have hd78 := ha76.defers.trans hd54
    have h79 := ha76.ge 43 6 rfl
    have hN80 := hN65.transNew hn75
    clear hs53 hd54 h55 h56 h57 h58 h59 hv71 h61 hv72 hb63 hq17 hb64 hq18 hN65 ha76 hn75
    have hi32_a : -2147483648 ≤ i32M a ∧ i32M a ≤ 2147483647 := i32_bd _
    have hu32_a := u32_bd a
    refine st_nil ?_
    refine hK _ _ ?_
    clear hK K
    refine wp_ret (ret_k hd78 (v := .bool (eqN (bitM op a b) (bitM op a b))) (res_t rfl h79 _) ?_)
    exact ⟨congrArg (fun b => Ending.returned (.bool b)) (eqN_refl _), hN80⟩
  have hv81 : a49.eval (.tmp 8) = .bool false := h60.trans (congrArg Value.bool ht70)
  clear h60
  have hv82 : a49.eval (.tmp 10) = .bool false := h62.trans (congrArg Value.bool ht70)
  clear h62
  refine wp_g0 [true, true, true, true, true, true, true, true, true, true, true, true, true, true, true, true, true, true, true, true, true, true, true, true, true, true, true, true, true, true, true, true, true, true, true, true, true, true, true, true, true, true, true, true] [] 66
    [ve (.bool true),
     ve (.bool true),
     ve (nv a),
     ve (iv (i32M a)),
     ve (nv a),
     ve (iv (i32M a)),
     ve (.bool true),
     ve (.bool true),
     ve (.bool true),
     ve (nv a),
     ve (iv (u32M a)),
     ve (nv a),
     ve (iv (u32M a)),
     ve (.bool true),
     ve (.bool true),
     ve (.bool true),
     ve (nv a),
     ve (nv (wholeM a)),
     ve (nv a),
     ve (nv (wholeM a)),
     ve (.bool true),
     ve (.bool true),
     ve (.bool true),
     ve (iv ((indexM a).1)),
     ve (iv ((indexM a).1)),
     ve (.bool true),
     ve (.bool true),
     ve (.bool true),
     ve (.bool false),
     ve (.bool false),
     ve (.bool true),
     ve (.bool true),
     ve (.bool true),
     ve (iv op),
     ve (nv a),
     ve (nv b),
     ve (nv (bitM op a b)),
     ve (iv op),
     ve (nv a),
     ve (nv b),
     ve (nv (bitM op a b)),
     ve (.bool (eqN (bitM op a b) (bitM op a b))),
     ve (.bool (eqN (bitM op a b) (bitM op a b))),
     ve (.bool (eqN (bitM op a b) (bitM op a b)))] hs53 (.eq (.eq (.eq (.eq (.eq (.eq (.eq (.eq (.eq (.eq (.eq (.eq (.eq (.eq (.eq (.eq (.eq (.eq (.eq (.eq (.eq (.eq (.eq (.eq (.eq (.eq (.eq (.eq (.eq (.eq (.eq (.eq (.eq (.eq (.eq (.eq (.eq (.eq (.eq (.eq (.eq (.eq (.eq (.eq (.nil))))))))))))))))))))))))))))))))))))))))))))) ?_ ?_
  · skip
    refine .o1 (ck rfl rfl rfl (fun _ w hn k => ⟨#[], rfl, fun _ => by kernel_rfl, first_c  _⟩) fun _ => rfl) ?_
    refine .o1 (tk rfl rfl fun _ w hn k => ⟨_, v_move rfl (k.eq1 0 23 rfl), rfl⟩) ?_
    refine .o1 (tg rfl rfl rfl (fun _ _ k => k.eq1 1 24 rfl) fun _ w hn k => ⟨_, v_load rfl (k.fx 4 h56) (l_two Tryd.isAgg23 Tryd.sizeOf23 (hb63.new_ hn)), rfl⟩) ?_
    refine .o1 (cg rfl rfl rfl (fun _ _ k => k.eq1 1 24 rfl) rfl (fun _ w hn k => ⟨#[nv a], args1 (k.eq1 2 25 rfl), fun _ => by kernel_rfl, i32_c a _⟩) fun _ => rfl) ?_
    refine .o1 (tg rfl rfl rfl (fun _ _ k => k.eq1 1 24 rfl) fun _ w hn k => ⟨_, v_load rfl (k.fx 4 h56) (l_two Tryd.isAgg23 Tryd.sizeOf23 (hb63.new_ hn)), rfl⟩) ?_
    refine .o1 (cg rfl rfl rfl (fun _ _ k => k.eq1 1 24 rfl) rfl (fun _ w hn k => ⟨#[nv a], args1 (k.eq1 4 27 rfl), fun _ => by kernel_rfl, ri32_c a _⟩) fun _ => rfl) ?_
    refine .o1 (tg rfl rfl rfl (fun _ _ k => k.eq1 1 24 rfl) fun _ w hn k => ⟨_, v_bin rfl (k.eq1 3 26 rfl) (k.eq1 5 28 rfl) (fun _ => rfl) (r_eql ht66), rfl⟩) ?_
    refine .o1 (tk rfl rfl fun _ w hn k => ⟨_, v_pickT rfl (k.eq1 1 24 rfl) (k.eq1 6 29 rfl), rfl⟩) ?_
    refine .o1 (tk rfl rfl fun _ w hn k => ⟨_, v_move rfl (k.eq1 7 30 rfl), rfl⟩) ?_
    refine .o1 (tg rfl rfl rfl (fun _ _ k => k.eq1 8 31 rfl) fun _ w hn k => ⟨_, v_load rfl (k.fx 4 h56) (l_two Tryd.isAgg23 Tryd.sizeOf23 (hb63.new_ hn)), rfl⟩) ?_
    refine .o1 (cg rfl rfl rfl (fun _ _ k => k.eq1 8 31 rfl) rfl (fun _ w hn k => ⟨#[nv a], args1 (k.eq1 9 32 rfl), fun _ => by kernel_rfl, u32_c a _⟩) fun _ => rfl) ?_
    refine .o1 (tg rfl rfl rfl (fun _ _ k => k.eq1 8 31 rfl) fun _ w hn k => ⟨_, v_load rfl (k.fx 4 h56) (l_two Tryd.isAgg23 Tryd.sizeOf23 (hb63.new_ hn)), rfl⟩) ?_
    refine .o1 (cg rfl rfl rfl (fun _ _ k => k.eq1 8 31 rfl) rfl (fun _ w hn k => ⟨#[nv a], args1 (k.eq1 11 34 rfl), fun _ => by kernel_rfl, ru32_c a _⟩) fun _ => rfl) ?_
    refine .o1 (tg rfl rfl rfl (fun _ _ k => k.eq1 8 31 rfl) fun _ w hn k => ⟨_, v_bin rfl (k.eq1 10 33 rfl) (k.eq1 12 35 rfl) (fun _ => rfl) (r_eql ht67), rfl⟩) ?_
    refine .o1 (tk rfl rfl fun _ w hn k => ⟨_, v_pickT rfl (k.eq1 8 31 rfl) (k.eq1 13 36 rfl), rfl⟩) ?_
    refine .o1 (tk rfl rfl fun _ w hn k => ⟨_, v_move rfl (k.eq1 14 37 rfl), rfl⟩) ?_
    refine .o1 (tg rfl rfl rfl (fun _ _ k => k.eq1 15 38 rfl) fun _ w hn k => ⟨_, v_load rfl (k.fx 4 h56) (l_two Tryd.isAgg23 Tryd.sizeOf23 (hb63.new_ hn)), rfl⟩) ?_
    refine .o1 (cg rfl rfl rfl (fun _ _ k => k.eq1 15 38 rfl) rfl (fun _ w hn k => ⟨#[nv a], args1 (k.eq1 16 39 rfl), fun _ => by kernel_rfl, whole2_c a _⟩) fun _ => rfl) ?_
    refine .o1 (tg rfl rfl rfl (fun _ _ k => k.eq1 15 38 rfl) fun _ w hn k => ⟨_, v_load rfl (k.fx 4 h56) (l_two Tryd.isAgg23 Tryd.sizeOf23 (hb63.new_ hn)), rfl⟩) ?_
    refine .o1 (cg rfl rfl rfl (fun _ _ k => k.eq1 15 38 rfl) rfl (fun _ w hn k => ⟨#[nv a], args1 (k.eq1 18 41 rfl), fun _ => by kernel_rfl, rwhole_c a _⟩) fun _ => rfl) ?_
    refine .o1 (cg rfl rfl rfl (fun _ _ k => k.eq1 15 38 rfl) rfl (fun _ w hn k => ⟨#[nv (wholeM a), nv (wholeM a)], args2 (k.eq1 17 40 rfl) (k.eq1 19 42 rfl), fun _ => by kernel_rfl, rnum_c (wholeM a) (wholeM a) _⟩) fun _ => congrArg Value.bool ht68) ?_
    refine .o1 (tk rfl rfl fun _ w hn k => ⟨_, v_pickT rfl (k.eq1 15 38 rfl) (k.eq1 20 43 rfl), rfl⟩) ?_
    refine .o1 (tk rfl rfl fun _ w hn k => ⟨_, v_move rfl (k.eq1 21 44 rfl), rfl⟩) ?_
    refine .o1 (tg rfl rfl rfl (fun _ _ k => k.eq1 22 45 rfl) fun _ w hn k => ⟨_, v_move rfl (k.fx 7 h59), rfl⟩) ?_
    refine .o1 (tg rfl rfl rfl (fun _ _ k => k.eq1 22 45 rfl) fun _ w hn k => ⟨_, v_move rfl (k.fx 9 h61), rfl⟩) ?_
    refine .o1 (tg rfl rfl rfl (fun _ _ k => k.eq1 22 45 rfl) fun _ w hn k => ⟨_, v_bin rfl (k.eq1 23 46 rfl) (k.eq1 24 47 rfl) (fun _ => rfl) (r_eql ht69), rfl⟩) ?_
    refine .o1 (tk rfl rfl fun _ w hn k => ⟨_, v_pickT rfl (k.eq1 22 45 rfl) (k.eq1 25 48 rfl), rfl⟩) ?_
    refine .o1 (tk rfl rfl fun _ w hn k => ⟨_, v_move rfl (k.eq1 26 49 rfl), rfl⟩) ?_
    refine .o1 (tg rfl rfl rfl (fun _ _ k => k.eq1 27 50 rfl) fun _ w hn k => ⟨_, v_move rfl (k.fx 8 hv81), rfl⟩) ?_
    refine .o1 (tg rfl rfl rfl (fun _ _ k => k.eq1 27 50 rfl) fun _ w hn k => ⟨_, v_move rfl (k.fx 10 hv82), rfl⟩) ?_
    refine .o1 (tg rfl rfl rfl (fun _ _ k => k.eq1 27 50 rfl) fun _ w hn k => ⟨_, v_bin rfl (k.eq1 28 51 rfl) (k.eq1 29 52 rfl) (fun _ => rfl) (fun w => by kernel_rfl), rfl⟩) ?_
    refine .o1 (tk rfl rfl fun _ w hn k => ⟨_, v_pickT rfl (k.eq1 27 50 rfl) (k.eq1 30 53 rfl), rfl⟩) ?_
    refine .o1 (tk rfl rfl fun _ w hn k => ⟨_, v_move rfl (k.eq1 31 54 rfl), rfl⟩) ?_
    refine .o1 (tg rfl rfl rfl (fun _ _ k => k.eq1 32 55 rfl) fun _ w hn k => ⟨_, v_move rfl (k.fx 0 h55), rfl⟩) ?_
    refine .o1 (tg rfl rfl rfl (fun _ _ k => k.eq1 32 55 rfl) fun _ w hn k => ⟨_, v_load rfl (k.fx 4 h56) (l_two Tryd.isAgg23 Tryd.sizeOf23 (hb63.new_ hn)), rfl⟩) ?_
    refine .o1 (tg rfl rfl rfl (fun _ _ k => k.eq1 32 55 rfl) fun _ w hn k => ⟨_, v_load rfl (k.fx 5 h57) (l_two Tryd.isAgg23 Tryd.sizeOf23 (hb64.new_ hn)), rfl⟩) ?_
    refine .o1 (cg rfl rfl rfl (fun _ _ k => k.eq1 32 55 rfl) rfl (fun _ w hn k => ⟨#[iv op, nv a, nv b], args3 (k.eq1 33 56 rfl) (k.eq1 34 57 rfl) (k.eq1 35 58 rfl), fun _ => by kernel_rfl, bit_c op a b _⟩) fun _ => rfl) ?_
    refine .o1 (tg rfl rfl rfl (fun _ _ k => k.eq1 32 55 rfl) fun _ w hn k => ⟨_, v_move rfl (k.fx 0 h55), rfl⟩) ?_
    refine .o1 (tg rfl rfl rfl (fun _ _ k => k.eq1 32 55 rfl) fun _ w hn k => ⟨_, v_load rfl (k.fx 4 h56) (l_two Tryd.isAgg23 Tryd.sizeOf23 (hb63.new_ hn)), rfl⟩) ?_
    refine .o1 (tg rfl rfl rfl (fun _ _ k => k.eq1 32 55 rfl) fun _ w hn k => ⟨_, v_load rfl (k.fx 5 h57) (l_two Tryd.isAgg23 Tryd.sizeOf23 (hb64.new_ hn)), rfl⟩) ?_
    refine .o1 (cg rfl rfl rfl (fun _ _ k => k.eq1 32 55 rfl) rfl (fun _ w hn k => ⟨#[iv op, nv a, nv b], args3 (k.eq1 37 60 rfl) (k.eq1 38 61 rfl) (k.eq1 39 62 rfl), fun _ => by kernel_rfl, rbit_c op a b _⟩) fun _ => rfl) ?_
    refine .o1 (cg rfl rfl rfl (fun _ _ k => k.eq1 32 55 rfl) rfl (fun _ w hn k => ⟨#[nv (bitM op a b), nv (bitM op a b)], args2 (k.eq1 36 59 rfl) (k.eq1 40 63 rfl), fun _ => by kernel_rfl, rnum_c (bitM op a b) (bitM op a b) _⟩) fun _ => rfl) ?_
    refine .o1 (tk rfl rfl fun _ w hn k => ⟨_, v_pickT rfl (k.eq1 32 55 rfl) (k.eq1 41 64 rfl), rfl⟩) ?_
    refine .o1 (tk rfl rfl fun _ w hn k => ⟨_, v_assign rfl (k.eq1 42 65 rfl), rfl⟩) ?_
    exact .nil
  intro a83 w84 hn85 ha86
  have hs87 := ha86.size.trans hs53
  have hd88 := ha86.defers.trans hd54
  have h89 := ha86.ge 43 6 rfl
  have hN90 := hN65.transNew hn85
  clear hs53 hd54 h55 h56 h57 h58 h59 hv81 h61 hv82 hb63 hq17 hb64 hq18 hN65 ha86 hn85
  have hi32_a : -2147483648 ≤ i32M a ∧ i32M a ≤ 2147483647 := i32_bd _
  have hu32_a := u32_bd a
  refine st_nil ?_
  refine hK _ _ ?_
  clear hK K
  refine wp_ret (ret_k hd88 (v := .bool (eqN (bitM op a b) (bitM op a b))) (res_t rfl h89 _) ?_)
  exact ⟨congrArg (fun b => Ending.returned (.bool b)) (eqN_refl _), hN90⟩
end Go.Proofs.YtldakajmhfdfgaaDoor
