/- Package renref2: numbers that may be. -/
import Derived.Test.YtfhflpchfgkgcaaRefBd
namespace Go.Proofs.Ytfhflpchfgkgcaa
open Go.RowKit
set_option linter.unusedSimpArgs false
set_option linter.unusedVariables false
def RetZ (z : Int) (w : World) (en : Ending) (w' : World) : Prop := ∃ A c, en = .returned (.agg #[.bool (decide (z < 0)), sv A (canon z.natAbs) c]) ∧ SRow w' .u32 A (canon z.natAbs) c ∧ New w w'
def RetZB (z : Int) (ok : Bool) (w : World) (en : Ending) (w' : World) : Prop := ∃ A c, en = .returned (.tuple #[.agg #[.bool (decide (z < 0)), sv A (canon z.natAbs) c], .bool ok]) ∧ SRow w' .u32 A (canon z.natAbs) c ∧ New w w'
def RetZE (z : Int) (er : Int) (w : World) (en : Ending) (w' : World) : Prop := ∃ A c, en = .returned (.tuple #[.agg #[.bool (decide (z < 0)), sv A (canon z.natAbs) c], .int .i64 er]) ∧ SRow w' .u32 A (canon z.natAbs) c ∧ New w w'
theorem made_b1 {d : Bool} {n : Nat} (h : d = false) : decide (sgn d n < 0) = false := by subst h; simp [sgn]
theorem made_b2 {d : Bool} {n : Nat} (h : decide (((canon n).length : Int) ≤ 0) = true) : decide (sgn d n < 0) = false := by
  have h1 := of_decide_eq_true h
  have h2 : n = 0 := canon_nil.1 (List.eq_nil_of_length_eq_zero (by omega))
  rw [h2, sgn_zero]; rfl
theorem made_b3 {d : Bool} {n : Nat} (hd : d = true) (h : decide (((canon n).length : Int) ≤ 0) = false) : decide (sgn d n < 0) = true := by
  have h1 := of_decide_eq_false h
  rcases Nat.eq_zero_or_pos n with h2 | h2
  · rw [h2, canon_zero] at h1; simp at h1
  · rw [sgn_neg h2, hd]
set_option maxHeartbeats 4000000 in
set_option maxRecDepth 100000 in
theorem rmay_c (b : Bool) (A : Option Addr) (m : List Nat) (c : Nat) (w : World) (hr : SRow w .u32 A m c) : Calls Try.prog 49 #[.agg #[.bool b, sv A m c]] w (IsRet (.bool (mayB b m)) w) := by
  refine enter_abs Try.func49 rfl fun a0 hs0 hd0 hp => ?_
  have hs0 : a0.tmps.size = 31 := hs0
  have hN0 : New w w := Upd.refl _ _
  have hp0 : a0.eval (.tmp 0) = .agg #[.bool b, sv A m c] := hp 0 _ rfl
  clear hp
  have hmx := hr.max
  refine wp_seq_k fun K1 hK1 => ?_
  refine wp_g [true, true] [] [] 31
    [IsNew w 24 [.bool b, sv A m c],
     ve (.bool false)]
    [0] (newsCons (fun v w h => IsNew.old h) newsNil) hs0 (.nw (.eq (.nil))) ?_ (fun i h => by cases h) ?_
  · skip
    refine .o2 (step_allocN (cs := [.bool b, sv A m c]) (t := 24) rfl (noG rfl) (fun _ w hn k => v_box rfl (k.fx 0 hp0) (fun w => rfl)) (fun q _ hq hb => ⟨q, rfl, hq, hb⟩)) ?_
    refine .o1 (tk rfl rfl fun _ w hn k => ⟨_, v_assign rfl rfl, rfl⟩) ?_
    exact .nil
  intro a2 w3 hn4 ha5
  have hs6 := ha5.size.trans hs0
  have hd7 := ha5.defers.trans hd0
  obtain ⟨q9, h8, hq10, hb11⟩ : IsNew _ _ _ _ _ := ha5.got 0 1 rfl (by kernel_rfl)
  have hq12 := Nat.le_trans hN0.size hq10
  have hN13 := hN0.transNew hn4
  clear hs0 hd0 hp0 hq10 hN0 ha5 hn4
  refine st_nil ?_
  refine hK1 _ _ ?_
  clear hK1 K1
  refine wp_seq_k fun K14 hK14 => ?_
  refine wp_g0 [true, true, true, true] [] 31
    [ve (.pointer (some ⟨q9, 1, none⟩)),
     ve (sv A m c),
     ve (iv (m.length : Int)),
     ve (iv (m.length : Int))] hs6 (.eq (.eq (.eq (.eq (.nil))))) ?_ ?_
  · skip
    refine .o1 (tk rfl rfl fun _ w hn k => ⟨_, v_field rfl (k.fx 1 h8) (fun w => rfl), rfl⟩) ?_
    refine .o1 (tk rfl rfl fun _ w hn k => ⟨_, v_load rfl (k.eq1 0 4 rfl) (l_one Try.isAgg22 ((hb11.new_ hn).cell 1)), rfl⟩) ?_
    refine .o1 (tk rfl rfl fun _ w hn k => ⟨_, v_lenR rfl elW (k.eq1 1 5 rfl), rfl⟩) ?_
    refine .o1 (tk rfl rfl fun _ w hn k => ⟨_, v_assign rfl (k.eq1 2 6 rfl), rfl⟩) ?_
    exact .nil
  intro a15 w16 hn17 ha18
  have hs19 := ha18.size.trans hs6
  have hd20 := ha18.defers.trans hd7
  have h21 := ha18.fx 1 h8
  have h22 := ha18.ge 3 3 rfl
  have hb23 := hb11.new_ hn17
  have hN24 := hN13.transNew hn17
  clear hs6 hd7 h8 hb11 hN13 ha18 hn17
  refine st_nil ?_
  refine hK14 _ _ ?_
  clear hK14 K14
  refine wp_seq_k fun K25 hK25 => ?_
  rcases Bool.eq_false_or_eq_true (decide ((m.length : Int) ≤ 8)) with ht26 | ht26
  · skip
    have ht26d := of_decide_eq_true ht26
    rcases Bool.eq_false_or_eq_true (decide ((m.length : Int) = 0)) with ht27 | ht27
    · skip
      have ht27d := of_decide_eq_true ht27
      rcases Bool.eq_false_or_eq_true (b) with ht28 | ht28
      · skip
        rcases Bool.eq_false_or_eq_true (decide ((m.length : Int) ≤ 0)) with ht29 | ht29
        · skip
          have ht29d := of_decide_eq_true ht29
          refine wp_g0 [true, true, true, true, true, true, true, true, true, true, true, true, true, true, true, true, true, true, true, true, true, true, true, true, true] [] 31
            [ve (iv (m.length : Int)),
             ve (.bool true),
             ve (.bool true),
             ve (iv (m.length : Int)),
             ve (.bool true),
             ve (.bool true),
             ve (pv q9),
             ve (.bool true),
             ve (.bool false),
             ve (.bool false),
             ve (.bool false),
             ve (iv (m.length : Int)),
             ve (.bool false),
             ve (.bool false),
             ve undef,
             ve undef,
             ve undef,
             ve undef,
             ve undef,
             ve undef,
             ve undef,
             ve (.bool false),
             ve (.bool false),
             ve (.bool false),
             ve (.bool false)] hs19 (.eq (.eq (.eq (.eq (.eq (.eq (.eq (.eq (.eq (.eq (.eq (.eq (.eq (.eq (.eq (.eq (.eq (.eq (.eq (.eq (.eq (.eq (.eq (.eq (.eq (.nil)))))))))))))))))))))))))) ?_ ?_
          · skip
            refine .o1 (tk rfl rfl fun _ w hn k => ⟨_, v_move rfl (k.fx 3 h22), rfl⟩) ?_
            refine .o1 (tk rfl rfl fun _ w hn k => ⟨_, v_bin rfl (k.eq1 0 7 rfl) rfl (fun _ => rfl) (r_leqK ht26), rfl⟩) ?_
            refine .o1 (tk rfl rfl fun _ w hn k => ⟨_, v_move rfl (k.eq1 1 8 rfl), rfl⟩) ?_
            refine .o1 (tg rfl rfl rfl (fun _ _ k => k.eq1 2 9 rfl) fun _ w hn k => ⟨_, v_move rfl (k.fx 3 h22), rfl⟩) ?_
            refine .o1 (tg rfl rfl rfl (fun _ _ k => k.eq1 2 9 rfl) fun _ w hn k => ⟨_, v_bin rfl (k.eq1 3 10 rfl) rfl (fun _ => rfl) (r_eql ht27), rfl⟩) ?_
            refine .o1 (tg rfl rfl rfl (fun _ _ k => k.eq1 2 9 rfl) fun _ w hn k => ⟨_, v_move rfl (k.eq1 4 11 rfl), rfl⟩) ?_
            refine .o1 (tg rfl rfl rfl (fun _ _ k => k.eq1 5 12 rfl) fun _ w hn k => ⟨_, v_field rfl (k.fx 1 h21) (fun w => rfl), rfl⟩) ?_
            refine .o1 (tg rfl rfl rfl (fun _ _ k => k.eq1 5 12 rfl) fun _ w hn k => ⟨_, v_load rfl (k.eq1 6 13 rfl) (l_one Try.isAgg4 ((hb23.new_ hn).cell 0)), congrArg Value.bool ht28⟩) ?_
            refine .o1 (tg rfl rfl rfl (fun _ _ k => k.eq1 5 12 rfl) fun _ w hn k => ⟨_, v_not rfl (k.eq1 7 14 rfl), rfl⟩) ?_
            refine .o1 (tg rfl rfl rfl (fun _ _ k => k.eq1 2 9 rfl) fun _ w hn k => ⟨_, v_pickT rfl (k.eq1 5 12 rfl) (k.eq1 8 15 rfl), rfl⟩) ?_
            refine .o1 (tg rfl rfl rfl (fun _ _ k => k.eq1 2 9 rfl) fun _ w hn k => ⟨_, v_move rfl (k.eq1 9 16 rfl), rfl⟩) ?_
            refine .o1 (tg rfl rfl rfl (fun _ _ k => k.eq1 10 17 rfl) fun _ w hn k => ⟨_, v_move rfl (k.fx 3 h22), rfl⟩) ?_
            refine .o1 (tg rfl rfl rfl (fun _ _ k => k.eq1 10 17 rfl) fun _ w hn k => ⟨_, v_bin rfl (k.eq1 11 18 rfl) rfl (fun _ => rfl) (r_gtrK ht29), rfl⟩) ?_
            refine .o1 (tg rfl rfl rfl (fun _ _ k => k.eq1 10 17 rfl) fun _ w hn k => ⟨_, v_move rfl (k.eq1 12 19 rfl), rfl⟩) ?_
            refine .o1 (sk rfl rfl rfl (fun _ _ _ k => k.eq1 13 20 rfl) (fun _ => rfl)) ?_
            refine .o1 (sk rfl rfl rfl (fun _ _ _ k => k.eq1 13 20 rfl) (fun _ => rfl)) ?_
            refine .o1 (sk rfl rfl rfl (fun _ _ _ k => k.eq1 13 20 rfl) (fun _ => rfl)) ?_
            refine .o1 (sk rfl rfl rfl (fun _ _ _ k => k.eq1 13 20 rfl) (fun _ => rfl)) ?_
            refine .o1 (sk rfl rfl rfl (fun _ _ _ k => k.eq1 13 20 rfl) (fun _ => rfl)) ?_
            refine .o1 (sk rfl rfl rfl (fun _ _ _ k => k.eq1 13 20 rfl) (fun _ => rfl)) ?_
            refine .o1 (sk rfl rfl rfl (fun _ _ _ k => k.eq1 13 20 rfl) (fun _ => rfl)) ?_
            refine .o1 (tg rfl rfl rfl (fun _ _ k => k.eq1 10 17 rfl) fun _ w hn k => ⟨_, v_pickF rfl (k.eq1 13 20 rfl) rfl, rfl⟩) ?_
            refine .o1 (tg rfl rfl rfl (fun _ _ k => k.eq1 2 9 rfl) fun _ w hn k => ⟨_, v_pickF rfl (k.eq1 10 17 rfl) (k.eq1 21 28 rfl), rfl⟩) ?_
            refine .o1 (tk rfl rfl fun _ w hn k => ⟨_, v_pickT rfl (k.eq1 2 9 rfl) (k.eq1 22 29 rfl), rfl⟩) ?_
            refine .o1 (tk rfl rfl fun _ w hn k => ⟨_, v_assign rfl (k.eq1 23 30 rfl), rfl⟩) ?_
            exact .nil
          intro a30 w31 hn32 ha33
          have hs34 := ha33.size.trans hs19
          have hd35 := ha33.defers.trans hd20
          have h36 := ha33.ge 24 2 rfl
          have hN37 := hN24.transNew hn32
          clear hs19 hd20 h21 h22 hb23 hq12 hN24 ha33 hn32
          refine st_nil ?_
          refine hK25 _ _ ?_
          clear hK25 K25
          refine wp_ret (ret_k hd35 (v := .bool false) (res_t rfl h36 _) ?_)
          have hix : ((m.length : Int) - 1).toNat = m.length - 1 := by omega
          have q8 : decide (m.length ≤ 8) = true := decide_eq_true (by omega)
          have q0 : decide (m.length = 0) = true := decide_eq_true (by omega)
          have q1 : decide (0 < m.length) = false := decide_eq_false (by omega)
          refine ⟨?_, hN37⟩
          rw [show mayB b m = false from by unfold mayB; simp only [q8, q0, q1, ht28]; first | rfl | (exfalso; omega)]
        have ht29d := of_decide_eq_false ht29
        rcases Bool.eq_false_or_eq_true (decide (((m.getD (((m.length : Int) - 1 : Int).toNat) 0 : Nat) : Int) = 0)) with ht38 | ht38
        · skip
          have ht38d := of_decide_eq_true ht38
          refine wp_g0 [true, true, true, true, true, true, true, true, true, true, true, true, true, true, true, true, true, true, true, true, true, true, true, true, true] [] 31
            [ve (iv (m.length : Int)),
             ve (.bool true),
             ve (.bool true),
             ve (iv (m.length : Int)),
             ve (.bool true),
             ve (.bool true),
             ve (pv q9),
             ve (.bool true),
             ve (.bool false),
             ve (.bool false),
             ve (.bool false),
             ve (iv (m.length : Int)),
             ve (.bool true),
             ve (.bool true),
             ve (.pointer (some ⟨q9, 1, none⟩)),
             ve (sv A m c),
             ve (iv (m.length : Int)),
             ve (iv ((m.length : Int) - 1)),
             (fun (v : Value) (W : World) => ∃ (b11 : Nat) (o12 : Nat), v = .pointer (some ⟨b11, o12, none⟩) ∧ SElem W b11 o12 (.int .u32 ((m.getD (((m.length : Int) - 1 : Int).toNat) 0 : Nat) : Int))),
             ve (.int .u32 ((m.getD (((m.length : Int) - 1 : Int).toNat) 0 : Nat) : Int)),
             ve (.bool false),
             ve (.bool false),
             ve (.bool false),
             ve (.bool false),
             ve (.bool false)] hs19 (.eq (.eq (.eq (.eq (.eq (.eq (.eq (.eq (.eq (.eq (.eq (.eq (.eq (.eq (.eq (.eq (.eq (.eq (.cons (fun v W W' hn ⟨b11, o12, he, h0⟩ => ⟨b11, o12, he, h0.new_ hn⟩) (.eq (.eq (.eq (.eq (.eq (.eq (.nil)))))))))))))))))))))))))) ?_ ?_
          · skip
            refine .o1 (tk rfl rfl fun _ w hn k => ⟨_, v_move rfl (k.fx 3 h22), rfl⟩) ?_
            refine .o1 (tk rfl rfl fun _ w hn k => ⟨_, v_bin rfl (k.eq1 0 7 rfl) rfl (fun _ => rfl) (r_leqK ht26), rfl⟩) ?_
            refine .o1 (tk rfl rfl fun _ w hn k => ⟨_, v_move rfl (k.eq1 1 8 rfl), rfl⟩) ?_
            refine .o1 (tg rfl rfl rfl (fun _ _ k => k.eq1 2 9 rfl) fun _ w hn k => ⟨_, v_move rfl (k.fx 3 h22), rfl⟩) ?_
            refine .o1 (tg rfl rfl rfl (fun _ _ k => k.eq1 2 9 rfl) fun _ w hn k => ⟨_, v_bin rfl (k.eq1 3 10 rfl) rfl (fun _ => rfl) (r_eql ht27), rfl⟩) ?_
            refine .o1 (tg rfl rfl rfl (fun _ _ k => k.eq1 2 9 rfl) fun _ w hn k => ⟨_, v_move rfl (k.eq1 4 11 rfl), rfl⟩) ?_
            refine .o1 (tg rfl rfl rfl (fun _ _ k => k.eq1 5 12 rfl) fun _ w hn k => ⟨_, v_field rfl (k.fx 1 h21) (fun w => rfl), rfl⟩) ?_
            refine .o1 (tg rfl rfl rfl (fun _ _ k => k.eq1 5 12 rfl) fun _ w hn k => ⟨_, v_load rfl (k.eq1 6 13 rfl) (l_one Try.isAgg4 ((hb23.new_ hn).cell 0)), congrArg Value.bool ht28⟩) ?_
            refine .o1 (tg rfl rfl rfl (fun _ _ k => k.eq1 5 12 rfl) fun _ w hn k => ⟨_, v_not rfl (k.eq1 7 14 rfl), rfl⟩) ?_
            refine .o1 (tg rfl rfl rfl (fun _ _ k => k.eq1 2 9 rfl) fun _ w hn k => ⟨_, v_pickT rfl (k.eq1 5 12 rfl) (k.eq1 8 15 rfl), rfl⟩) ?_
            refine .o1 (tg rfl rfl rfl (fun _ _ k => k.eq1 2 9 rfl) fun _ w hn k => ⟨_, v_move rfl (k.eq1 9 16 rfl), rfl⟩) ?_
            refine .o1 (tg rfl rfl rfl (fun _ _ k => k.eq1 10 17 rfl) fun _ w hn k => ⟨_, v_move rfl (k.fx 3 h22), rfl⟩) ?_
            refine .o1 (tg rfl rfl rfl (fun _ _ k => k.eq1 10 17 rfl) fun _ w hn k => ⟨_, v_bin rfl (k.eq1 11 18 rfl) rfl (fun _ => rfl) (r_gtrK ht29), rfl⟩) ?_
            refine .o1 (tg rfl rfl rfl (fun _ _ k => k.eq1 10 17 rfl) fun _ w hn k => ⟨_, v_move rfl (k.eq1 12 19 rfl), rfl⟩) ?_
            refine .o1 (tg rfl rfl rfl (fun _ _ k => k.eq1 13 20 rfl) fun _ w hn k => ⟨_, v_field rfl (k.fx 1 h21) (fun w => rfl), rfl⟩) ?_
            refine .o1 (tg rfl rfl rfl (fun _ _ k => k.eq1 13 20 rfl) fun _ w hn k => ⟨_, v_load rfl (k.eq1 14 21 rfl) (l_one Try.isAgg22 ((hb23.new_ hn).cell 1)), rfl⟩) ?_
            refine .o1 (tg rfl rfl rfl (fun _ _ k => k.eq1 13 20 rfl) fun _ w hn k => ⟨_, v_move rfl (k.fx 3 h22), rfl⟩) ?_
            refine .o1 (tg rfl rfl rfl (fun _ _ k => k.eq1 13 20 rfl) fun _ w hn k => ⟨_, v_bin rfl (k.eq1 16 23 rfl) rfl (fun _ => rfl) (r_sub rfl (by omega)), rfl⟩) ?_
            refine .o1 (tg rfl rfl rfl (fun _ _ k => k.eq1 13 20 rfl) fun _ w hn k => (by
                  exact x_eaddr (k := .u32) rfl elW (k.eq1 15 22 rfl) (k.eq1 17 24 rfl) (hr.new_ (hN24.transNew hn)) (by omega) fun b9 o10 hme => ⟨b9, o10, rfl, hme⟩)) ?_
            refine .o1 (tg rfl rfl rfl (fun _ _ k => k.eq1 13 20 rfl) fun _ w hn k => (by
                  obtain ⟨b13, o14, e15, hx16⟩ : (fun (v : Value) (W : World) => ∃ (b11 : Nat) (o12 : Nat), v = .pointer (some ⟨b11, o12, none⟩) ∧ SElem W b11 o12 (.int .u32 ((m.getD (((m.length : Int) - 1 : Int).toNat) 0 : Nat) : Int))) _ _ := k.dep 18 25 (by kernel_rfl) (by kernel_rfl)
                  exact ⟨_, v_load rfl e15 (l_one Try.isAgg50 hx16.1), rfl⟩)) ?_
            refine .o1 (tg rfl rfl rfl (fun _ _ k => k.eq1 13 20 rfl) fun _ w hn k => ⟨_, v_bin rfl (k.eq1 19 26 rfl) rfl (fun _ => rfl) (r_neq ht38), rfl⟩) ?_
            refine .o1 (tg rfl rfl rfl (fun _ _ k => k.eq1 10 17 rfl) fun _ w hn k => ⟨_, v_pickT rfl (k.eq1 13 20 rfl) (k.eq1 20 27 rfl), rfl⟩) ?_
            refine .o1 (tg rfl rfl rfl (fun _ _ k => k.eq1 2 9 rfl) fun _ w hn k => ⟨_, v_pickF rfl (k.eq1 10 17 rfl) (k.eq1 21 28 rfl), rfl⟩) ?_
            refine .o1 (tk rfl rfl fun _ w hn k => ⟨_, v_pickT rfl (k.eq1 2 9 rfl) (k.eq1 22 29 rfl), rfl⟩) ?_
            refine .o1 (tk rfl rfl fun _ w hn k => ⟨_, v_assign rfl (k.eq1 23 30 rfl), rfl⟩) ?_
            exact .nil
          intro a39 w40 hn41 ha42
          have hs43 := ha42.size.trans hs19
          have hd44 := ha42.defers.trans hd20
          have h45 := ha42.ge 24 2 rfl
          have hN46 := hN24.transNew hn41
          clear hs19 hd20 h21 h22 hb23 hq12 hN24 ha42 hn41
          refine st_nil ?_
          refine hK25 _ _ ?_
          clear hK25 K25
          refine wp_ret (ret_k hd44 (v := .bool false) (res_t rfl h45 _) ?_)
          have hix : ((m.length : Int) - 1).toNat = m.length - 1 := by omega
          have q8 : decide (m.length ≤ 8) = true := decide_eq_true (by omega)
          have q0 : decide (m.length = 0) = true := decide_eq_true (by omega)
          have q1 : decide (0 < m.length) = false := decide_eq_false (by omega)
          rw [hix] at ht38d
          have q2 : decide (m.getD (m.length - 1) 0 ≠ 0) = false := decide_eq_false (by omega)
          refine ⟨?_, hN46⟩
          rw [show mayB b m = false from by unfold mayB; simp only [q8, q0, q1, ht28, q2]; first | rfl | (exfalso; omega)]
        have ht38d := of_decide_eq_false ht38
        refine wp_g0 [true, true, true, true, true, true, true, true, true, true, true, true, true, true, true, true, true, true, true, true, true, true, true, true, true] [] 31
          [ve (iv (m.length : Int)),
           ve (.bool true),
           ve (.bool true),
           ve (iv (m.length : Int)),
           ve (.bool true),
           ve (.bool true),
           ve (pv q9),
           ve (.bool true),
           ve (.bool false),
           ve (.bool false),
           ve (.bool false),
           ve (iv (m.length : Int)),
           ve (.bool true),
           ve (.bool true),
           ve (.pointer (some ⟨q9, 1, none⟩)),
           ve (sv A m c),
           ve (iv (m.length : Int)),
           ve (iv ((m.length : Int) - 1)),
           (fun (v : Value) (W : World) => ∃ (b19 : Nat) (o20 : Nat), v = .pointer (some ⟨b19, o20, none⟩) ∧ SElem W b19 o20 (.int .u32 ((m.getD (((m.length : Int) - 1 : Int).toNat) 0 : Nat) : Int))),
           ve (.int .u32 ((m.getD (((m.length : Int) - 1 : Int).toNat) 0 : Nat) : Int)),
           ve (.bool true),
           ve (.bool true),
           ve (.bool true),
           ve (.bool true),
           ve (.bool true)] hs19 (.eq (.eq (.eq (.eq (.eq (.eq (.eq (.eq (.eq (.eq (.eq (.eq (.eq (.eq (.eq (.eq (.eq (.eq (.cons (fun v W W' hn ⟨b19, o20, he, h0⟩ => ⟨b19, o20, he, h0.new_ hn⟩) (.eq (.eq (.eq (.eq (.eq (.eq (.nil)))))))))))))))))))))))))) ?_ ?_
        · skip
          refine .o1 (tk rfl rfl fun _ w hn k => ⟨_, v_move rfl (k.fx 3 h22), rfl⟩) ?_
          refine .o1 (tk rfl rfl fun _ w hn k => ⟨_, v_bin rfl (k.eq1 0 7 rfl) rfl (fun _ => rfl) (r_leqK ht26), rfl⟩) ?_
          refine .o1 (tk rfl rfl fun _ w hn k => ⟨_, v_move rfl (k.eq1 1 8 rfl), rfl⟩) ?_
          refine .o1 (tg rfl rfl rfl (fun _ _ k => k.eq1 2 9 rfl) fun _ w hn k => ⟨_, v_move rfl (k.fx 3 h22), rfl⟩) ?_
          refine .o1 (tg rfl rfl rfl (fun _ _ k => k.eq1 2 9 rfl) fun _ w hn k => ⟨_, v_bin rfl (k.eq1 3 10 rfl) rfl (fun _ => rfl) (r_eql ht27), rfl⟩) ?_
          refine .o1 (tg rfl rfl rfl (fun _ _ k => k.eq1 2 9 rfl) fun _ w hn k => ⟨_, v_move rfl (k.eq1 4 11 rfl), rfl⟩) ?_
          refine .o1 (tg rfl rfl rfl (fun _ _ k => k.eq1 5 12 rfl) fun _ w hn k => ⟨_, v_field rfl (k.fx 1 h21) (fun w => rfl), rfl⟩) ?_
          refine .o1 (tg rfl rfl rfl (fun _ _ k => k.eq1 5 12 rfl) fun _ w hn k => ⟨_, v_load rfl (k.eq1 6 13 rfl) (l_one Try.isAgg4 ((hb23.new_ hn).cell 0)), congrArg Value.bool ht28⟩) ?_
          refine .o1 (tg rfl rfl rfl (fun _ _ k => k.eq1 5 12 rfl) fun _ w hn k => ⟨_, v_not rfl (k.eq1 7 14 rfl), rfl⟩) ?_
          refine .o1 (tg rfl rfl rfl (fun _ _ k => k.eq1 2 9 rfl) fun _ w hn k => ⟨_, v_pickT rfl (k.eq1 5 12 rfl) (k.eq1 8 15 rfl), rfl⟩) ?_
          refine .o1 (tg rfl rfl rfl (fun _ _ k => k.eq1 2 9 rfl) fun _ w hn k => ⟨_, v_move rfl (k.eq1 9 16 rfl), rfl⟩) ?_
          refine .o1 (tg rfl rfl rfl (fun _ _ k => k.eq1 10 17 rfl) fun _ w hn k => ⟨_, v_move rfl (k.fx 3 h22), rfl⟩) ?_
          refine .o1 (tg rfl rfl rfl (fun _ _ k => k.eq1 10 17 rfl) fun _ w hn k => ⟨_, v_bin rfl (k.eq1 11 18 rfl) rfl (fun _ => rfl) (r_gtrK ht29), rfl⟩) ?_
          refine .o1 (tg rfl rfl rfl (fun _ _ k => k.eq1 10 17 rfl) fun _ w hn k => ⟨_, v_move rfl (k.eq1 12 19 rfl), rfl⟩) ?_
          refine .o1 (tg rfl rfl rfl (fun _ _ k => k.eq1 13 20 rfl) fun _ w hn k => ⟨_, v_field rfl (k.fx 1 h21) (fun w => rfl), rfl⟩) ?_
          refine .o1 (tg rfl rfl rfl (fun _ _ k => k.eq1 13 20 rfl) fun _ w hn k => ⟨_, v_load rfl (k.eq1 14 21 rfl) (l_one Try.isAgg22 ((hb23.new_ hn).cell 1)), rfl⟩) ?_
          refine .o1 (tg rfl rfl rfl (fun _ _ k => k.eq1 13 20 rfl) fun _ w hn k => ⟨_, v_move rfl (k.fx 3 h22), rfl⟩) ?_
          refine .o1 (tg rfl rfl rfl (fun _ _ k => k.eq1 13 20 rfl) fun _ w hn k => ⟨_, v_bin rfl (k.eq1 16 23 rfl) rfl (fun _ => rfl) (r_sub rfl (by omega)), rfl⟩) ?_
          refine .o1 (tg rfl rfl rfl (fun _ _ k => k.eq1 13 20 rfl) fun _ w hn k => (by
                exact x_eaddr (k := .u32) rfl elW (k.eq1 15 22 rfl) (k.eq1 17 24 rfl) (hr.new_ (hN24.transNew hn)) (by omega) fun b17 o18 hme => ⟨b17, o18, rfl, hme⟩)) ?_
          refine .o1 (tg rfl rfl rfl (fun _ _ k => k.eq1 13 20 rfl) fun _ w hn k => (by
                obtain ⟨b21, o22, e23, hx24⟩ : (fun (v : Value) (W : World) => ∃ (b19 : Nat) (o20 : Nat), v = .pointer (some ⟨b19, o20, none⟩) ∧ SElem W b19 o20 (.int .u32 ((m.getD (((m.length : Int) - 1 : Int).toNat) 0 : Nat) : Int))) _ _ := k.dep 18 25 (by kernel_rfl) (by kernel_rfl)
                exact ⟨_, v_load rfl e23 (l_one Try.isAgg50 hx24.1), rfl⟩)) ?_
          refine .o1 (tg rfl rfl rfl (fun _ _ k => k.eq1 13 20 rfl) fun _ w hn k => ⟨_, v_bin rfl (k.eq1 19 26 rfl) rfl (fun _ => rfl) (r_neq ht38), rfl⟩) ?_
          refine .o1 (tg rfl rfl rfl (fun _ _ k => k.eq1 10 17 rfl) fun _ w hn k => ⟨_, v_pickT rfl (k.eq1 13 20 rfl) (k.eq1 20 27 rfl), rfl⟩) ?_
          refine .o1 (tg rfl rfl rfl (fun _ _ k => k.eq1 2 9 rfl) fun _ w hn k => ⟨_, v_pickF rfl (k.eq1 10 17 rfl) (k.eq1 21 28 rfl), rfl⟩) ?_
          refine .o1 (tk rfl rfl fun _ w hn k => ⟨_, v_pickT rfl (k.eq1 2 9 rfl) (k.eq1 22 29 rfl), rfl⟩) ?_
          refine .o1 (tk rfl rfl fun _ w hn k => ⟨_, v_assign rfl (k.eq1 23 30 rfl), rfl⟩) ?_
          exact .nil
        intro a47 w48 hn49 ha50
        have hs51 := ha50.size.trans hs19
        have hd52 := ha50.defers.trans hd20
        have h53 := ha50.ge 24 2 rfl
        have hN54 := hN24.transNew hn49
        clear hs19 hd20 h21 h22 hb23 hq12 hN24 ha50 hn49
        refine st_nil ?_
        refine hK25 _ _ ?_
        clear hK25 K25
        refine wp_ret (ret_k hd52 (v := .bool true) (res_t rfl h53 _) ?_)
        have hix : ((m.length : Int) - 1).toNat = m.length - 1 := by omega
        have q8 : decide (m.length ≤ 8) = true := decide_eq_true (by omega)
        have q0 : decide (m.length = 0) = true := decide_eq_true (by omega)
        have q1 : decide (0 < m.length) = false := decide_eq_false (by omega)
        rw [hix] at ht38d
        have q2 : decide (m.getD (m.length - 1) 0 ≠ 0) = true := decide_eq_true (by omega)
        refine ⟨?_, hN54⟩
        rw [show mayB b m = true from by unfold mayB; simp only [q8, q0, q1, ht28, q2]; first | rfl | (exfalso; omega)]
      refine wp_g0 [true, true, true, true, true, true, true, true, true, true, true, true, true, true, true, true, true, true, true, true, true, true, true, true, true] [] 31
        [ve (iv (m.length : Int)),
         ve (.bool true),
         ve (.bool true),
         ve (iv (m.length : Int)),
         ve (.bool true),
         ve (.bool true),
         ve (pv q9),
         ve (.bool false),
         ve (.bool true),
         ve (.bool true),
         ve (.bool true),
         ve undef,
         ve undef,
         ve undef,
         ve undef,
         ve undef,
         ve undef,
         ve undef,
         ve undef,
         ve undef,
         ve undef,
         ve undef,
         ve (.bool true),
         ve (.bool true),
         ve (.bool true)] hs19 (.eq (.eq (.eq (.eq (.eq (.eq (.eq (.eq (.eq (.eq (.eq (.eq (.eq (.eq (.eq (.eq (.eq (.eq (.eq (.eq (.eq (.eq (.eq (.eq (.eq (.nil)))))))))))))))))))))))))) ?_ ?_
      · skip
        refine .o1 (tk rfl rfl fun _ w hn k => ⟨_, v_move rfl (k.fx 3 h22), rfl⟩) ?_
        refine .o1 (tk rfl rfl fun _ w hn k => ⟨_, v_bin rfl (k.eq1 0 7 rfl) rfl (fun _ => rfl) (r_leqK ht26), rfl⟩) ?_
        refine .o1 (tk rfl rfl fun _ w hn k => ⟨_, v_move rfl (k.eq1 1 8 rfl), rfl⟩) ?_
        refine .o1 (tg rfl rfl rfl (fun _ _ k => k.eq1 2 9 rfl) fun _ w hn k => ⟨_, v_move rfl (k.fx 3 h22), rfl⟩) ?_
        refine .o1 (tg rfl rfl rfl (fun _ _ k => k.eq1 2 9 rfl) fun _ w hn k => ⟨_, v_bin rfl (k.eq1 3 10 rfl) rfl (fun _ => rfl) (r_eql ht27), rfl⟩) ?_
        refine .o1 (tg rfl rfl rfl (fun _ _ k => k.eq1 2 9 rfl) fun _ w hn k => ⟨_, v_move rfl (k.eq1 4 11 rfl), rfl⟩) ?_
        refine .o1 (tg rfl rfl rfl (fun _ _ k => k.eq1 5 12 rfl) fun _ w hn k => ⟨_, v_field rfl (k.fx 1 h21) (fun w => rfl), rfl⟩) ?_
        refine .o1 (tg rfl rfl rfl (fun _ _ k => k.eq1 5 12 rfl) fun _ w hn k => ⟨_, v_load rfl (k.eq1 6 13 rfl) (l_one Try.isAgg4 ((hb23.new_ hn).cell 0)), congrArg Value.bool ht28⟩) ?_
        refine .o1 (tg rfl rfl rfl (fun _ _ k => k.eq1 5 12 rfl) fun _ w hn k => ⟨_, v_not rfl (k.eq1 7 14 rfl), rfl⟩) ?_
        refine .o1 (tg rfl rfl rfl (fun _ _ k => k.eq1 2 9 rfl) fun _ w hn k => ⟨_, v_pickT rfl (k.eq1 5 12 rfl) (k.eq1 8 15 rfl), rfl⟩) ?_
        refine .o1 (tg rfl rfl rfl (fun _ _ k => k.eq1 2 9 rfl) fun _ w hn k => ⟨_, v_move rfl (k.eq1 9 16 rfl), rfl⟩) ?_
        refine .o1 (sk rfl rfl rfl (fun _ _ _ k => k.eq1 10 17 rfl) (fun _ => rfl)) ?_
        refine .o1 (sk rfl rfl rfl (fun _ _ _ k => k.eq1 10 17 rfl) (fun _ => rfl)) ?_
        refine .o1 (sk rfl rfl rfl (fun _ _ _ k => k.eq1 10 17 rfl) (fun _ => rfl)) ?_
        refine .o1 (su rfl rfl rfl (fun _ _ _ k => k.eq1 13 20 rfl) (fun _ => rfl)) ?_
        refine .o1 (su rfl rfl rfl (fun _ _ _ k => k.eq1 13 20 rfl) (fun _ => rfl)) ?_
        refine .o1 (su rfl rfl rfl (fun _ _ _ k => k.eq1 13 20 rfl) (fun _ => rfl)) ?_
        refine .o1 (su rfl rfl rfl (fun _ _ _ k => k.eq1 13 20 rfl) (fun _ => rfl)) ?_
        refine .o1 (su rfl rfl rfl (fun _ _ _ k => k.eq1 13 20 rfl) (fun _ => rfl)) ?_
        refine .o1 (su rfl rfl rfl (fun _ _ _ k => k.eq1 13 20 rfl) (fun _ => rfl)) ?_
        refine .o1 (su rfl rfl rfl (fun _ _ _ k => k.eq1 13 20 rfl) (fun _ => rfl)) ?_
        refine .o1 (sk rfl rfl rfl (fun _ _ _ k => k.eq1 10 17 rfl) (fun _ => rfl)) ?_
        refine .o1 (tg rfl rfl rfl (fun _ _ k => k.eq1 2 9 rfl) fun _ w hn k => ⟨_, v_pickT rfl (k.eq1 10 17 rfl) rfl, rfl⟩) ?_
        refine .o1 (tk rfl rfl fun _ w hn k => ⟨_, v_pickT rfl (k.eq1 2 9 rfl) (k.eq1 22 29 rfl), rfl⟩) ?_
        refine .o1 (tk rfl rfl fun _ w hn k => ⟨_, v_assign rfl (k.eq1 23 30 rfl), rfl⟩) ?_
        exact .nil
      intro a55 w56 hn57 ha58
      have hs59 := ha58.size.trans hs19
      have hd60 := ha58.defers.trans hd20
      have h61 := ha58.ge 24 2 rfl
      have hN62 := hN24.transNew hn57
      clear hs19 hd20 h21 h22 hb23 hq12 hN24 ha58 hn57
      refine st_nil ?_
      refine hK25 _ _ ?_
      clear hK25 K25
      refine wp_ret (ret_k hd60 (v := .bool true) (res_t rfl h61 _) ?_)
      have hix : ((m.length : Int) - 1).toNat = m.length - 1 := by omega
      have q8 : decide (m.length ≤ 8) = true := decide_eq_true (by omega)
      have q0 : decide (m.length = 0) = true := decide_eq_true (by omega)
      have q1 : decide (0 < m.length) = false := decide_eq_false (by omega)
      refine ⟨?_, hN62⟩
      rw [show mayB b m = true from by unfold mayB; simp only [q8, q0, q1, ht28]; first | rfl | (exfalso; omega)]
    have ht27d := of_decide_eq_false ht27
    rcases Bool.eq_false_or_eq_true (decide ((m.length : Int) ≤ 0)) with ht63 | ht63
    · skip
      have ht63d := of_decide_eq_true ht63
      refine wp_g0 [true, true, true, true, true, true, true, true, true, true, true, true, true, true, true, true, true, true, true, true, true, true, true, true, true] [] 31
        [ve (iv (m.length : Int)),
         ve (.bool true),
         ve (.bool true),
         ve (iv (m.length : Int)),
         ve (.bool false),
         ve (.bool false),
         ve undef,
         ve undef,
         ve undef,
         ve (.bool false),
         ve (.bool false),
         ve (iv (m.length : Int)),
         ve (.bool false),
         ve (.bool false),
         ve undef,
         ve undef,
         ve undef,
         ve undef,
         ve undef,
         ve undef,
         ve undef,
         ve (.bool false),
         ve (.bool false),
         ve (.bool false),
         ve (.bool false)] hs19 (.eq (.eq (.eq (.eq (.eq (.eq (.eq (.eq (.eq (.eq (.eq (.eq (.eq (.eq (.eq (.eq (.eq (.eq (.eq (.eq (.eq (.eq (.eq (.eq (.eq (.nil)))))))))))))))))))))))))) ?_ ?_
      · skip
        refine .o1 (tk rfl rfl fun _ w hn k => ⟨_, v_move rfl (k.fx 3 h22), rfl⟩) ?_
        refine .o1 (tk rfl rfl fun _ w hn k => ⟨_, v_bin rfl (k.eq1 0 7 rfl) rfl (fun _ => rfl) (r_leqK ht26), rfl⟩) ?_
        refine .o1 (tk rfl rfl fun _ w hn k => ⟨_, v_move rfl (k.eq1 1 8 rfl), rfl⟩) ?_
        refine .o1 (tg rfl rfl rfl (fun _ _ k => k.eq1 2 9 rfl) fun _ w hn k => ⟨_, v_move rfl (k.fx 3 h22), rfl⟩) ?_
        refine .o1 (tg rfl rfl rfl (fun _ _ k => k.eq1 2 9 rfl) fun _ w hn k => ⟨_, v_bin rfl (k.eq1 3 10 rfl) rfl (fun _ => rfl) (r_eql ht27), rfl⟩) ?_
        refine .o1 (tg rfl rfl rfl (fun _ _ k => k.eq1 2 9 rfl) fun _ w hn k => ⟨_, v_move rfl (k.eq1 4 11 rfl), rfl⟩) ?_
        refine .o1 (sk rfl rfl rfl (fun _ _ _ k => k.eq1 5 12 rfl) (fun _ => rfl)) ?_
        refine .o1 (sk rfl rfl rfl (fun _ _ _ k => k.eq1 5 12 rfl) (fun _ => rfl)) ?_
        refine .o1 (sk rfl rfl rfl (fun _ _ _ k => k.eq1 5 12 rfl) (fun _ => rfl)) ?_
        refine .o1 (tg rfl rfl rfl (fun _ _ k => k.eq1 2 9 rfl) fun _ w hn k => ⟨_, v_pickF rfl (k.eq1 5 12 rfl) rfl, rfl⟩) ?_
        refine .o1 (tg rfl rfl rfl (fun _ _ k => k.eq1 2 9 rfl) fun _ w hn k => ⟨_, v_move rfl (k.eq1 9 16 rfl), rfl⟩) ?_
        refine .o1 (tg rfl rfl rfl (fun _ _ k => k.eq1 10 17 rfl) fun _ w hn k => ⟨_, v_move rfl (k.fx 3 h22), rfl⟩) ?_
        refine .o1 (tg rfl rfl rfl (fun _ _ k => k.eq1 10 17 rfl) fun _ w hn k => ⟨_, v_bin rfl (k.eq1 11 18 rfl) rfl (fun _ => rfl) (r_gtrK ht63), rfl⟩) ?_
        refine .o1 (tg rfl rfl rfl (fun _ _ k => k.eq1 10 17 rfl) fun _ w hn k => ⟨_, v_move rfl (k.eq1 12 19 rfl), rfl⟩) ?_
        refine .o1 (sk rfl rfl rfl (fun _ _ _ k => k.eq1 13 20 rfl) (fun _ => rfl)) ?_
        refine .o1 (sk rfl rfl rfl (fun _ _ _ k => k.eq1 13 20 rfl) (fun _ => rfl)) ?_
        refine .o1 (sk rfl rfl rfl (fun _ _ _ k => k.eq1 13 20 rfl) (fun _ => rfl)) ?_
        refine .o1 (sk rfl rfl rfl (fun _ _ _ k => k.eq1 13 20 rfl) (fun _ => rfl)) ?_
        refine .o1 (sk rfl rfl rfl (fun _ _ _ k => k.eq1 13 20 rfl) (fun _ => rfl)) ?_
        refine .o1 (sk rfl rfl rfl (fun _ _ _ k => k.eq1 13 20 rfl) (fun _ => rfl)) ?_
        refine .o1 (sk rfl rfl rfl (fun _ _ _ k => k.eq1 13 20 rfl) (fun _ => rfl)) ?_
        refine .o1 (tg rfl rfl rfl (fun _ _ k => k.eq1 10 17 rfl) fun _ w hn k => ⟨_, v_pickF rfl (k.eq1 13 20 rfl) rfl, rfl⟩) ?_
        refine .o1 (tg rfl rfl rfl (fun _ _ k => k.eq1 2 9 rfl) fun _ w hn k => ⟨_, v_pickF rfl (k.eq1 10 17 rfl) (k.eq1 21 28 rfl), rfl⟩) ?_
        refine .o1 (tk rfl rfl fun _ w hn k => ⟨_, v_pickT rfl (k.eq1 2 9 rfl) (k.eq1 22 29 rfl), rfl⟩) ?_
        refine .o1 (tk rfl rfl fun _ w hn k => ⟨_, v_assign rfl (k.eq1 23 30 rfl), rfl⟩) ?_
        exact .nil
      intro a64 w65 hn66 ha67
      have hs68 := ha67.size.trans hs19
      have hd69 := ha67.defers.trans hd20
      have h70 := ha67.ge 24 2 rfl
      have hN71 := hN24.transNew hn66
      clear hs19 hd20 h21 h22 hb23 hq12 hN24 ha67 hn66
      refine st_nil ?_
      refine hK25 _ _ ?_
      clear hK25 K25
      refine wp_ret (ret_k hd69 (v := .bool false) (res_t rfl h70 _) ?_)
      have hix : ((m.length : Int) - 1).toNat = m.length - 1 := by omega
      have q8 : decide (m.length ≤ 8) = true := decide_eq_true (by omega)
      have q0 : decide (m.length = 0) = false := decide_eq_false (by omega)
      have q1 : decide (0 < m.length) = true := decide_eq_true (by omega)
      refine ⟨?_, hN71⟩
      rw [show mayB b m = false from by unfold mayB; simp only [q8, q0, q1]; first | rfl | (exfalso; omega)]
    have ht63d := of_decide_eq_false ht63
    rcases Bool.eq_false_or_eq_true (decide (((m.getD (((m.length : Int) - 1 : Int).toNat) 0 : Nat) : Int) = 0)) with ht72 | ht72
    · skip
      have ht72d := of_decide_eq_true ht72
      refine wp_g0 [true, true, true, true, true, true, true, true, true, true, true, true, true, true, true, true, true, true, true, true, true, true, true, true, true] [] 31
        [ve (iv (m.length : Int)),
         ve (.bool true),
         ve (.bool true),
         ve (iv (m.length : Int)),
         ve (.bool false),
         ve (.bool false),
         ve undef,
         ve undef,
         ve undef,
         ve (.bool false),
         ve (.bool false),
         ve (iv (m.length : Int)),
         ve (.bool true),
         ve (.bool true),
         ve (.pointer (some ⟨q9, 1, none⟩)),
         ve (sv A m c),
         ve (iv (m.length : Int)),
         ve (iv ((m.length : Int) - 1)),
         (fun (v : Value) (W : World) => ∃ (b35 : Nat) (o36 : Nat), v = .pointer (some ⟨b35, o36, none⟩) ∧ SElem W b35 o36 (.int .u32 ((m.getD (((m.length : Int) - 1 : Int).toNat) 0 : Nat) : Int))),
         ve (.int .u32 ((m.getD (((m.length : Int) - 1 : Int).toNat) 0 : Nat) : Int)),
         ve (.bool false),
         ve (.bool false),
         ve (.bool false),
         ve (.bool false),
         ve (.bool false)] hs19 (.eq (.eq (.eq (.eq (.eq (.eq (.eq (.eq (.eq (.eq (.eq (.eq (.eq (.eq (.eq (.eq (.eq (.eq (.cons (fun v W W' hn ⟨b35, o36, he, h0⟩ => ⟨b35, o36, he, h0.new_ hn⟩) (.eq (.eq (.eq (.eq (.eq (.eq (.nil)))))))))))))))))))))))))) ?_ ?_
      · skip
        refine .o1 (tk rfl rfl fun _ w hn k => ⟨_, v_move rfl (k.fx 3 h22), rfl⟩) ?_
        refine .o1 (tk rfl rfl fun _ w hn k => ⟨_, v_bin rfl (k.eq1 0 7 rfl) rfl (fun _ => rfl) (r_leqK ht26), rfl⟩) ?_
        refine .o1 (tk rfl rfl fun _ w hn k => ⟨_, v_move rfl (k.eq1 1 8 rfl), rfl⟩) ?_
        refine .o1 (tg rfl rfl rfl (fun _ _ k => k.eq1 2 9 rfl) fun _ w hn k => ⟨_, v_move rfl (k.fx 3 h22), rfl⟩) ?_
        refine .o1 (tg rfl rfl rfl (fun _ _ k => k.eq1 2 9 rfl) fun _ w hn k => ⟨_, v_bin rfl (k.eq1 3 10 rfl) rfl (fun _ => rfl) (r_eql ht27), rfl⟩) ?_
        refine .o1 (tg rfl rfl rfl (fun _ _ k => k.eq1 2 9 rfl) fun _ w hn k => ⟨_, v_move rfl (k.eq1 4 11 rfl), rfl⟩) ?_
        refine .o1 (sk rfl rfl rfl (fun _ _ _ k => k.eq1 5 12 rfl) (fun _ => rfl)) ?_
        refine .o1 (sk rfl rfl rfl (fun _ _ _ k => k.eq1 5 12 rfl) (fun _ => rfl)) ?_
        refine .o1 (sk rfl rfl rfl (fun _ _ _ k => k.eq1 5 12 rfl) (fun _ => rfl)) ?_
        refine .o1 (tg rfl rfl rfl (fun _ _ k => k.eq1 2 9 rfl) fun _ w hn k => ⟨_, v_pickF rfl (k.eq1 5 12 rfl) rfl, rfl⟩) ?_
        refine .o1 (tg rfl rfl rfl (fun _ _ k => k.eq1 2 9 rfl) fun _ w hn k => ⟨_, v_move rfl (k.eq1 9 16 rfl), rfl⟩) ?_
        refine .o1 (tg rfl rfl rfl (fun _ _ k => k.eq1 10 17 rfl) fun _ w hn k => ⟨_, v_move rfl (k.fx 3 h22), rfl⟩) ?_
        refine .o1 (tg rfl rfl rfl (fun _ _ k => k.eq1 10 17 rfl) fun _ w hn k => ⟨_, v_bin rfl (k.eq1 11 18 rfl) rfl (fun _ => rfl) (r_gtrK ht63), rfl⟩) ?_
        refine .o1 (tg rfl rfl rfl (fun _ _ k => k.eq1 10 17 rfl) fun _ w hn k => ⟨_, v_move rfl (k.eq1 12 19 rfl), rfl⟩) ?_
        refine .o1 (tg rfl rfl rfl (fun _ _ k => k.eq1 13 20 rfl) fun _ w hn k => ⟨_, v_field rfl (k.fx 1 h21) (fun w => rfl), rfl⟩) ?_
        refine .o1 (tg rfl rfl rfl (fun _ _ k => k.eq1 13 20 rfl) fun _ w hn k => ⟨_, v_load rfl (k.eq1 14 21 rfl) (l_one Try.isAgg22 ((hb23.new_ hn).cell 1)), rfl⟩) ?_
        refine .o1 (tg rfl rfl rfl (fun _ _ k => k.eq1 13 20 rfl) fun _ w hn k => ⟨_, v_move rfl (k.fx 3 h22), rfl⟩) ?_
        refine .o1 (tg rfl rfl rfl (fun _ _ k => k.eq1 13 20 rfl) fun _ w hn k => ⟨_, v_bin rfl (k.eq1 16 23 rfl) rfl (fun _ => rfl) (r_sub rfl (by omega)), rfl⟩) ?_
        refine .o1 (tg rfl rfl rfl (fun _ _ k => k.eq1 13 20 rfl) fun _ w hn k => (by
              exact x_eaddr (k := .u32) rfl elW (k.eq1 15 22 rfl) (k.eq1 17 24 rfl) (hr.new_ (hN24.transNew hn)) (by omega) fun b33 o34 hme => ⟨b33, o34, rfl, hme⟩)) ?_
        refine .o1 (tg rfl rfl rfl (fun _ _ k => k.eq1 13 20 rfl) fun _ w hn k => (by
              obtain ⟨b37, o38, e39, hx40⟩ : (fun (v : Value) (W : World) => ∃ (b35 : Nat) (o36 : Nat), v = .pointer (some ⟨b35, o36, none⟩) ∧ SElem W b35 o36 (.int .u32 ((m.getD (((m.length : Int) - 1 : Int).toNat) 0 : Nat) : Int))) _ _ := k.dep 18 25 (by kernel_rfl) (by kernel_rfl)
              exact ⟨_, v_load rfl e39 (l_one Try.isAgg50 hx40.1), rfl⟩)) ?_
        refine .o1 (tg rfl rfl rfl (fun _ _ k => k.eq1 13 20 rfl) fun _ w hn k => ⟨_, v_bin rfl (k.eq1 19 26 rfl) rfl (fun _ => rfl) (r_neq ht72), rfl⟩) ?_
        refine .o1 (tg rfl rfl rfl (fun _ _ k => k.eq1 10 17 rfl) fun _ w hn k => ⟨_, v_pickT rfl (k.eq1 13 20 rfl) (k.eq1 20 27 rfl), rfl⟩) ?_
        refine .o1 (tg rfl rfl rfl (fun _ _ k => k.eq1 2 9 rfl) fun _ w hn k => ⟨_, v_pickF rfl (k.eq1 10 17 rfl) (k.eq1 21 28 rfl), rfl⟩) ?_
        refine .o1 (tk rfl rfl fun _ w hn k => ⟨_, v_pickT rfl (k.eq1 2 9 rfl) (k.eq1 22 29 rfl), rfl⟩) ?_
        refine .o1 (tk rfl rfl fun _ w hn k => ⟨_, v_assign rfl (k.eq1 23 30 rfl), rfl⟩) ?_
        exact .nil
      intro a73 w74 hn75 ha76
      have hs77 := ha76.size.trans hs19
      have hd78 := ha76.defers.trans hd20
      have h79 := ha76.ge 24 2 rfl
      have hN80 := hN24.transNew hn75
      clear hs19 hd20 h21 h22 hb23 hq12 hN24 ha76 hn75
      refine st_nil ?_
      refine hK25 _ _ ?_
      clear hK25 K25
      refine wp_ret (ret_k hd78 (v := .bool false) (res_t rfl h79 _) ?_)
      have hix : ((m.length : Int) - 1).toNat = m.length - 1 := by omega
      have q8 : decide (m.length ≤ 8) = true := decide_eq_true (by omega)
      have q0 : decide (m.length = 0) = false := decide_eq_false (by omega)
      have q1 : decide (0 < m.length) = true := decide_eq_true (by omega)
      rw [hix] at ht72d
      have q2 : decide (m.getD (m.length - 1) 0 ≠ 0) = false := decide_eq_false (by omega)
      refine ⟨?_, hN80⟩
      rw [show mayB b m = false from by unfold mayB; simp only [q8, q0, q1, q2]; first | rfl | (exfalso; omega)]
    have ht72d := of_decide_eq_false ht72
    refine wp_g0 [true, true, true, true, true, true, true, true, true, true, true, true, true, true, true, true, true, true, true, true, true, true, true, true, true] [] 31
      [ve (iv (m.length : Int)),
       ve (.bool true),
       ve (.bool true),
       ve (iv (m.length : Int)),
       ve (.bool false),
       ve (.bool false),
       ve undef,
       ve undef,
       ve undef,
       ve (.bool false),
       ve (.bool false),
       ve (iv (m.length : Int)),
       ve (.bool true),
       ve (.bool true),
       ve (.pointer (some ⟨q9, 1, none⟩)),
       ve (sv A m c),
       ve (iv (m.length : Int)),
       ve (iv ((m.length : Int) - 1)),
       (fun (v : Value) (W : World) => ∃ (b43 : Nat) (o44 : Nat), v = .pointer (some ⟨b43, o44, none⟩) ∧ SElem W b43 o44 (.int .u32 ((m.getD (((m.length : Int) - 1 : Int).toNat) 0 : Nat) : Int))),
       ve (.int .u32 ((m.getD (((m.length : Int) - 1 : Int).toNat) 0 : Nat) : Int)),
       ve (.bool true),
       ve (.bool true),
       ve (.bool true),
       ve (.bool true),
       ve (.bool true)] hs19 (.eq (.eq (.eq (.eq (.eq (.eq (.eq (.eq (.eq (.eq (.eq (.eq (.eq (.eq (.eq (.eq (.eq (.eq (.cons (fun v W W' hn ⟨b43, o44, he, h0⟩ => ⟨b43, o44, he, h0.new_ hn⟩) (.eq (.eq (.eq (.eq (.eq (.eq (.nil)))))))))))))))))))))))))) ?_ ?_
    · skip
      refine .o1 (tk rfl rfl fun _ w hn k => ⟨_, v_move rfl (k.fx 3 h22), rfl⟩) ?_
      refine .o1 (tk rfl rfl fun _ w hn k => ⟨_, v_bin rfl (k.eq1 0 7 rfl) rfl (fun _ => rfl) (r_leqK ht26), rfl⟩) ?_
      refine .o1 (tk rfl rfl fun _ w hn k => ⟨_, v_move rfl (k.eq1 1 8 rfl), rfl⟩) ?_
      refine .o1 (tg rfl rfl rfl (fun _ _ k => k.eq1 2 9 rfl) fun _ w hn k => ⟨_, v_move rfl (k.fx 3 h22), rfl⟩) ?_
      refine .o1 (tg rfl rfl rfl (fun _ _ k => k.eq1 2 9 rfl) fun _ w hn k => ⟨_, v_bin rfl (k.eq1 3 10 rfl) rfl (fun _ => rfl) (r_eql ht27), rfl⟩) ?_
      refine .o1 (tg rfl rfl rfl (fun _ _ k => k.eq1 2 9 rfl) fun _ w hn k => ⟨_, v_move rfl (k.eq1 4 11 rfl), rfl⟩) ?_
      refine .o1 (sk rfl rfl rfl (fun _ _ _ k => k.eq1 5 12 rfl) (fun _ => rfl)) ?_
      refine .o1 (sk rfl rfl rfl (fun _ _ _ k => k.eq1 5 12 rfl) (fun _ => rfl)) ?_
      refine .o1 (sk rfl rfl rfl (fun _ _ _ k => k.eq1 5 12 rfl) (fun _ => rfl)) ?_
      refine .o1 (tg rfl rfl rfl (fun _ _ k => k.eq1 2 9 rfl) fun _ w hn k => ⟨_, v_pickF rfl (k.eq1 5 12 rfl) rfl, rfl⟩) ?_
      refine .o1 (tg rfl rfl rfl (fun _ _ k => k.eq1 2 9 rfl) fun _ w hn k => ⟨_, v_move rfl (k.eq1 9 16 rfl), rfl⟩) ?_
      refine .o1 (tg rfl rfl rfl (fun _ _ k => k.eq1 10 17 rfl) fun _ w hn k => ⟨_, v_move rfl (k.fx 3 h22), rfl⟩) ?_
      refine .o1 (tg rfl rfl rfl (fun _ _ k => k.eq1 10 17 rfl) fun _ w hn k => ⟨_, v_bin rfl (k.eq1 11 18 rfl) rfl (fun _ => rfl) (r_gtrK ht63), rfl⟩) ?_
      refine .o1 (tg rfl rfl rfl (fun _ _ k => k.eq1 10 17 rfl) fun _ w hn k => ⟨_, v_move rfl (k.eq1 12 19 rfl), rfl⟩) ?_
      refine .o1 (tg rfl rfl rfl (fun _ _ k => k.eq1 13 20 rfl) fun _ w hn k => ⟨_, v_field rfl (k.fx 1 h21) (fun w => rfl), rfl⟩) ?_
      refine .o1 (tg rfl rfl rfl (fun _ _ k => k.eq1 13 20 rfl) fun _ w hn k => ⟨_, v_load rfl (k.eq1 14 21 rfl) (l_one Try.isAgg22 ((hb23.new_ hn).cell 1)), rfl⟩) ?_
      refine .o1 (tg rfl rfl rfl (fun _ _ k => k.eq1 13 20 rfl) fun _ w hn k => ⟨_, v_move rfl (k.fx 3 h22), rfl⟩) ?_
      refine .o1 (tg rfl rfl rfl (fun _ _ k => k.eq1 13 20 rfl) fun _ w hn k => ⟨_, v_bin rfl (k.eq1 16 23 rfl) rfl (fun _ => rfl) (r_sub rfl (by omega)), rfl⟩) ?_
      refine .o1 (tg rfl rfl rfl (fun _ _ k => k.eq1 13 20 rfl) fun _ w hn k => (by
            exact x_eaddr (k := .u32) rfl elW (k.eq1 15 22 rfl) (k.eq1 17 24 rfl) (hr.new_ (hN24.transNew hn)) (by omega) fun b41 o42 hme => ⟨b41, o42, rfl, hme⟩)) ?_
      refine .o1 (tg rfl rfl rfl (fun _ _ k => k.eq1 13 20 rfl) fun _ w hn k => (by
            obtain ⟨b45, o46, e47, hx48⟩ : (fun (v : Value) (W : World) => ∃ (b43 : Nat) (o44 : Nat), v = .pointer (some ⟨b43, o44, none⟩) ∧ SElem W b43 o44 (.int .u32 ((m.getD (((m.length : Int) - 1 : Int).toNat) 0 : Nat) : Int))) _ _ := k.dep 18 25 (by kernel_rfl) (by kernel_rfl)
            exact ⟨_, v_load rfl e47 (l_one Try.isAgg50 hx48.1), rfl⟩)) ?_
      refine .o1 (tg rfl rfl rfl (fun _ _ k => k.eq1 13 20 rfl) fun _ w hn k => ⟨_, v_bin rfl (k.eq1 19 26 rfl) rfl (fun _ => rfl) (r_neq ht72), rfl⟩) ?_
      refine .o1 (tg rfl rfl rfl (fun _ _ k => k.eq1 10 17 rfl) fun _ w hn k => ⟨_, v_pickT rfl (k.eq1 13 20 rfl) (k.eq1 20 27 rfl), rfl⟩) ?_
      refine .o1 (tg rfl rfl rfl (fun _ _ k => k.eq1 2 9 rfl) fun _ w hn k => ⟨_, v_pickF rfl (k.eq1 10 17 rfl) (k.eq1 21 28 rfl), rfl⟩) ?_
      refine .o1 (tk rfl rfl fun _ w hn k => ⟨_, v_pickT rfl (k.eq1 2 9 rfl) (k.eq1 22 29 rfl), rfl⟩) ?_
      refine .o1 (tk rfl rfl fun _ w hn k => ⟨_, v_assign rfl (k.eq1 23 30 rfl), rfl⟩) ?_
      exact .nil
    intro a81 w82 hn83 ha84
    have hs85 := ha84.size.trans hs19
    have hd86 := ha84.defers.trans hd20
    have h87 := ha84.ge 24 2 rfl
    have hN88 := hN24.transNew hn83
    clear hs19 hd20 h21 h22 hb23 hq12 hN24 ha84 hn83
    refine st_nil ?_
    refine hK25 _ _ ?_
    clear hK25 K25
    refine wp_ret (ret_k hd86 (v := .bool true) (res_t rfl h87 _) ?_)
    have hix : ((m.length : Int) - 1).toNat = m.length - 1 := by omega
    have q8 : decide (m.length ≤ 8) = true := decide_eq_true (by omega)
    have q0 : decide (m.length = 0) = false := decide_eq_false (by omega)
    have q1 : decide (0 < m.length) = true := decide_eq_true (by omega)
    rw [hix] at ht72d
    have q2 : decide (m.getD (m.length - 1) 0 ≠ 0) = true := decide_eq_true (by omega)
    refine ⟨?_, hN88⟩
    rw [show mayB b m = true from by unfold mayB; simp only [q8, q0, q1, q2]; first | rfl | (exfalso; omega)]
  have ht26d := of_decide_eq_false ht26
  refine wp_g0 [true, true, true, true, true, true, true, true, true, true, true, true, true, true, true, true, true, true, true, true, true, true, true, true, true] [] 31
    [ve (iv (m.length : Int)),
     ve (.bool false),
     ve (.bool false),
     ve undef,
     ve undef,
     ve undef,
     ve undef,
     ve undef,
     ve undef,
     ve undef,
     ve undef,
     ve undef,
     ve undef,
     ve undef,
     ve undef,
     ve undef,
     ve undef,
     ve undef,
     ve undef,
     ve undef,
     ve undef,
     ve undef,
     ve undef,
     ve (.bool false),
     ve (.bool false)] hs19 (.eq (.eq (.eq (.eq (.eq (.eq (.eq (.eq (.eq (.eq (.eq (.eq (.eq (.eq (.eq (.eq (.eq (.eq (.eq (.eq (.eq (.eq (.eq (.eq (.eq (.nil)))))))))))))))))))))))))) ?_ ?_
  · skip
    refine .o1 (tk rfl rfl fun _ w hn k => ⟨_, v_move rfl (k.fx 3 h22), rfl⟩) ?_
    refine .o1 (tk rfl rfl fun _ w hn k => ⟨_, v_bin rfl (k.eq1 0 7 rfl) rfl (fun _ => rfl) (r_leqK ht26), rfl⟩) ?_
    refine .o1 (tk rfl rfl fun _ w hn k => ⟨_, v_move rfl (k.eq1 1 8 rfl), rfl⟩) ?_
    refine .o1 (sk rfl rfl rfl (fun _ _ _ k => k.eq1 2 9 rfl) (fun _ => rfl)) ?_
    refine .o1 (sk rfl rfl rfl (fun _ _ _ k => k.eq1 2 9 rfl) (fun _ => rfl)) ?_
    refine .o1 (sk rfl rfl rfl (fun _ _ _ k => k.eq1 2 9 rfl) (fun _ => rfl)) ?_
    refine .o1 (su rfl rfl rfl (fun _ _ _ k => k.eq1 5 12 rfl) (fun _ => rfl)) ?_
    refine .o1 (su rfl rfl rfl (fun _ _ _ k => k.eq1 5 12 rfl) (fun _ => rfl)) ?_
    refine .o1 (su rfl rfl rfl (fun _ _ _ k => k.eq1 5 12 rfl) (fun _ => rfl)) ?_
    refine .o1 (sk rfl rfl rfl (fun _ _ _ k => k.eq1 2 9 rfl) (fun _ => rfl)) ?_
    refine .o1 (sk rfl rfl rfl (fun _ _ _ k => k.eq1 2 9 rfl) (fun _ => rfl)) ?_
    refine .o1 (su rfl rfl rfl (fun _ _ _ k => k.eq1 10 17 rfl) (fun _ => rfl)) ?_
    refine .o1 (su rfl rfl rfl (fun _ _ _ k => k.eq1 10 17 rfl) (fun _ => rfl)) ?_
    refine .o1 (su rfl rfl rfl (fun _ _ _ k => k.eq1 10 17 rfl) (fun _ => rfl)) ?_
    refine .o1 (su rfl rfl rfl (fun _ _ _ k => k.eq1 13 20 rfl) (fun _ => rfl)) ?_
    refine .o1 (su rfl rfl rfl (fun _ _ _ k => k.eq1 13 20 rfl) (fun _ => rfl)) ?_
    refine .o1 (su rfl rfl rfl (fun _ _ _ k => k.eq1 13 20 rfl) (fun _ => rfl)) ?_
    refine .o1 (su rfl rfl rfl (fun _ _ _ k => k.eq1 13 20 rfl) (fun _ => rfl)) ?_
    refine .o1 (su rfl rfl rfl (fun _ _ _ k => k.eq1 13 20 rfl) (fun _ => rfl)) ?_
    refine .o1 (su rfl rfl rfl (fun _ _ _ k => k.eq1 13 20 rfl) (fun _ => rfl)) ?_
    refine .o1 (su rfl rfl rfl (fun _ _ _ k => k.eq1 13 20 rfl) (fun _ => rfl)) ?_
    refine .o1 (su rfl rfl rfl (fun _ _ _ k => k.eq1 10 17 rfl) (fun _ => rfl)) ?_
    refine .o1 (sk rfl rfl rfl (fun _ _ _ k => k.eq1 2 9 rfl) (fun _ => rfl)) ?_
    refine .o1 (tk rfl rfl fun _ w hn k => ⟨_, v_pickF rfl (k.eq1 2 9 rfl) rfl, rfl⟩) ?_
    refine .o1 (tk rfl rfl fun _ w hn k => ⟨_, v_assign rfl (k.eq1 23 30 rfl), rfl⟩) ?_
    exact .nil
  intro a89 w90 hn91 ha92
  have hs93 := ha92.size.trans hs19
  have hd94 := ha92.defers.trans hd20
  have h95 := ha92.ge 24 2 rfl
  have hN96 := hN24.transNew hn91
  clear hs19 hd20 h21 h22 hb23 hq12 hN24 ha92 hn91
  refine st_nil ?_
  refine hK25 _ _ ?_
  clear hK25 K25
  refine wp_ret (ret_k hd94 (v := .bool false) (res_t rfl h95 _) ?_)
  have hix : ((m.length : Int) - 1).toNat = m.length - 1 := by omega
  have q8 : decide (m.length ≤ 8) = false := decide_eq_false (by omega)
  refine ⟨?_, hN96⟩
  rw [show mayB b m = false from by unfold mayB; simp only [q8]; first | rfl | (exfalso; omega)]
set_option maxHeartbeats 4000000 in
set_option maxRecDepth 100000 in
theorem rgood_c (b : Bool) (A : Option Addr) (m : List Nat) (c : Nat) (w : World) (hr : SRow w .u32 A m c) (hl : Limbs m) : Calls Try.prog 61 #[.agg #[.bool b, sv A m c]] w (RetZ (goodI b m) w) := by
  refine enter_abs Try.func61 rfl fun a0 hs0 hd0 hp => ?_
  have hs0 : a0.tmps.size = 7 := hs0
  have hN0 : New w w := Upd.refl _ _
  have hp0 : a0.eval (.tmp 0) = .agg #[.bool b, sv A m c] := hp 0 _ rfl
  clear hp
  refine wp_seq_k fun K1 hK1 => ?_
  refine wp_g [true, true] [] [] 7
    [IsNew w 24 [.bool b, sv A m c],
     IsNew w 24 [.bool false, sv none ([]) 0]]
    [0, 1] (newsCons (fun v w h => IsNew.old h) (newsCons (fun v w h => IsNew.old h) newsNil)) hs0 (.nw (.nw (.nil))) ?_ (fun i h => by cases h) ?_
  · skip
    refine .o2 (step_allocN (cs := [.bool b, sv A m c]) (t := 24) rfl (noG rfl) (fun _ w hn k => v_box rfl (k.fx 0 hp0) (fun w => rfl)) (fun q _ hq hb => ⟨q, rfl, hq, hb⟩)) ?_
    refine .o2 (step_allocN (cs := [.bool false, sv none ([]) 0]) (t := 24) rfl (noG rfl) (fun _ w hn k => rfl) (fun q _ hq hb => ⟨q, rfl, hq, hb⟩)) ?_
    exact .nil
  intro a2 w3 hn4 ha5
  have hs6 := ha5.size.trans hs0
  have hd7 := ha5.defers.trans hd0
  obtain ⟨q9, h8, hq10, hb11⟩ : IsNew _ _ _ _ _ := ha5.got 0 1 rfl (by kernel_rfl)
  obtain ⟨q13, h12, hq14, hb15⟩ : IsNew _ _ _ _ _ := ha5.got 1 2 rfl (by kernel_rfl)
  have hne16 : q9 ≠ q13 := ha5.ne 0 1 1 2 h8 h12
  have hq17 := Nat.le_trans hN0.size hq10
  have hq18 := Nat.le_trans hN0.size hq14
  have hN19 := hN0.transNew hn4
  clear hs0 hd0 hp0 hq10 hq14 hN0 ha5 hn4
  refine st_nil ?_
  refine hK1 _ _ ?_
  clear hK1 K1
  refine wp_seq_k fun K20 hK20 => ?_
  refine wp_seq_k fun K21 hK21 => ?_
  refine wp_g0 [true, true] [] 7
    [ve (.agg #[.bool b, sv A m c]),
     ve (.bool (mayB b m))] hs6 (.eq (.eq (.nil))) ?_ ?_
  · skip
    refine .o1 (tk rfl rfl fun _ w hn k => ⟨_, v_load rfl (k.fx 1 h8) (l_two Try.isAgg24 Try.sizeOf24 (hb11.new_ hn)), rfl⟩) ?_
    refine .o1 (ck rfl rfl rfl (fun _ w hn k => ⟨#[.agg #[.bool b, sv A m c]], args1 (k.eq1 0 3 rfl), fun _ => by kernel_rfl, rmay_c _ _ _ _ _ (hr.new_ (hN19.transNew hn))⟩) fun _ => rfl) ?_
    exact .nil
  intro a22 w23 hn24 ha25
  have hs26 := ha25.size.trans hs6
  have hd27 := ha25.defers.trans hd7
  have h28 := ha25.fx 1 h8
  have h29 := ha25.fx 2 h12
  have h30 := ha25.ge 1 4 rfl
  have hb31 := hb11.new_ hn24
  have hb32 := hb15.new_ hn24
  have hN33 := hN19.transNew hn24
  clear hs6 hd7 h8 h12 hb11 hb15 hN19 ha25 hn24
  refine st_nil ?_
  refine hK21 _ _ ?_
  clear hK21 K21
  rcases Bool.eq_false_or_eq_true (mayB b m) with ht34 | ht34
  · skip
    have hv35 : a22.eval (.tmp 4) = .bool true := h30.trans (congrArg Value.bool ht34)
    clear h30
    refine wp_cond_true hv35 ?_
    refine wp_seq_k fun K36 hK36 => ?_
    refine wp_g0 [true, false] [(1, false)] 7
      [ve (.agg #[.bool b, sv A m c]),
       vt] hs26 (.eq (.tt (.nil))) ?_ ?_
    · skip
      refine .o1 (tk rfl rfl fun _ w hn k => ⟨_, v_load rfl (k.fx 1 h28) (l_two Try.isAgg24 Try.sizeOf24 (hb31.new_ hn)), rfl⟩) ?_
      refine .off ?_
      exact .nil
    intro a37 w38 hn39 ha40
    have hs41 := ha40.size.trans hs26
    have hd42 := ha40.defers.trans hd27
    have h43 := ha40.fx 2 h29
    have h44 := ha40.ge 0 5 rfl
    have hb45 := hb32.new_ hn39
    have hN46 := hN33.transNew hn39
    clear hs26 hd27 h28 h29 hv35 hb31 hq17 hb32 hN33 ha40 hn39
    obtain ⟨w47, -, hst48, hb49, hu50, hf51⟩ := s_two (v0 := .bool b) (v1 := sv A m c) Try.sizeOf24 rfl rfl rfl hb45
    refine st_act rfl rfl fun K52 hL53 => a_store' rfl h43 h44 hst48 (hL53 _ _ trivial ?_)
    have hN54 := hN46.trans hu50 (fun k hk hkb => by subst hkb; omega)
    clear hb45 hst48 K52 hL53 hN46 hu50 hf51
    refine st_nil ?_
    clear h44
    refine hK36 _ _ ?_
    clear hK36 K36
    refine wp_ret (ret_k hd42 (v := .agg #[.bool b, sv A m c]) (res_c rfl h43 (l_two Try.isAgg24 Try.sizeOf24 hb49)) ?_)
    have hz1 : (decide (goodI b m < 0)) = b := by rw [neg_good hl, ht34]; rfl
    have hz2 : canon (goodI b m).natAbs = m := by rw [canon_good hl, ht34]; rfl
    exact ⟨A, c, by rw [hz1, hz2], by rw [hz2]; exact (hr.new_ hN54), hN54⟩
  have hv55 : a22.eval (.tmp 4) = .bool false := h30.trans (congrArg Value.bool ht34)
  clear h30
  refine wp_cond_false hv55 ?_
  refine wp_skip ?_
  refine hK20 _ _ ?_
  clear hK20 K20
  refine wp_seq_k fun K56 hK56 => ?_
  refine wp_g0 [true, false] [(1, false)] 7
    [ve (.agg #[.bool false, sv none ([]) 0]),
     vt] hs26 (.eq (.tt (.nil))) ?_ ?_
  · skip
    refine .o1 (tk rfl rfl fun _ w hn k => ⟨_, v_build (ps := []) rfl parts0 (by kernel_rfl), rfl⟩) ?_
    refine .off ?_
    exact .nil
  intro a57 w58 hn59 ha60
  have hs61 := ha60.size.trans hs26
  have hd62 := ha60.defers.trans hd27
  have h63 := ha60.fx 2 h29
  have h64 := ha60.ge 0 6 rfl
  have hb65 := hb32.new_ hn59
  have hN66 := hN33.transNew hn59
  clear hs26 hd27 h28 h29 hv55 hb31 hq17 hb32 hN33 ha60 hn59
  obtain ⟨w67, -, hst68, hb69, hu70, hf71⟩ := s_two (v0 := .bool false) (v1 := sv none ([]) 0) Try.sizeOf24 rfl rfl rfl hb65
  refine st_act rfl rfl fun K72 hL73 => a_store' rfl h63 h64 hst68 (hL73 _ _ trivial ?_)
  have hN74 := hN66.trans hu70 (fun k hk hkb => by subst hkb; omega)
  clear hb65 hst68 K72 hL73 hN66 hu70 hf71
  refine st_nil ?_
  clear h64
  refine hK56 _ _ ?_
  clear hK56 K56
  refine wp_ret (ret_k hd62 (v := .agg #[.bool false, sv none ([]) 0]) (res_c rfl h63 (l_two Try.isAgg24 Try.sizeOf24 hb69)) ?_)
  have hz1 : (decide (goodI b m < 0)) = false := by rw [neg_good hl, ht34]; rfl
  have hz2 : canon (goodI b m).natAbs = [] := by rw [canon_good hl, ht34]; rfl
  exact ⟨none, 0, by rw [hz1, hz2], by rw [hz2]; exact (SRow.nil _ _), hN74⟩
set_option maxHeartbeats 4000000 in
set_option maxRecDepth 100000 in
theorem rmade_c (d : Bool) (A : Option Addr) (m : List Nat) (c : Nat) (w : World) (hr : SRow w .u32 A m c) (hl : Limbs m) (hs : m.length ≤ 1000000) : Calls Try.prog 57 #[.bool d, sv A m c] w (RetZ (sgn d (val m)) w) := by
  refine enter_abs Try.func57 rfl fun a0 hs0 hd0 hp => ?_
  have hs0 : a0.tmps.size = 16 := hs0
  have hN0 : New w w := Upd.refl _ _
  have hp0 : a0.eval (.tmp 0) = .bool d := hp 0 _ rfl
  have hp1 : a0.eval (.tmp 1) = sv A m c := hp 1 _ rfl
  clear hp
  refine wp_seq_k fun K1 hK1 => ?_
  refine wp_g [true] [] [] 16
    [IsNew w 24 [.bool false, sv none ([]) 0]]
    [0] (newsCons (fun v w h => IsNew.old h) newsNil) hs0 (.nw (.nil)) ?_ (fun i h => by cases h) ?_
  · skip
    refine .o2 (step_allocN (cs := [.bool false, sv none ([]) 0]) (t := 24) rfl (noG rfl) (fun _ w hn k => rfl) (fun q _ hq hb => ⟨q, rfl, hq, hb⟩)) ?_
    exact .nil
  intro a2 w3 hn4 ha5
  have hs6 := ha5.size.trans hs0
  have hd7 := ha5.defers.trans hd0
  have h8 := ha5.fx 0 hp0
  have h9 := ha5.fx 1 hp1
  obtain ⟨q11, h10, hq12, hb13⟩ : IsNew _ _ _ _ _ := ha5.got 0 4 rfl (by kernel_rfl)
  have hq14 := Nat.le_trans hN0.size hq12
  have hN15 := hN0.transNew hn4
  clear hs0 hd0 hp0 hp1 hq12 hN0 ha5 hn4
  refine st_nil ?_
  refine hK1 _ _ ?_
  clear hK1 K1
  refine wp_seq_k fun K16 hK16 => ?_
  refine wp_g0 [true, true, true] [] 16
    [ve (sv A m c),
     (fun (v : Value) (W : World) => ∃ (A3 : Option Addr) (c4 : Nat), v = sv A3 (canon (val m)) c4 ∧ SOwn W w3.heap.size 50 .u32 A3 (canon (val m)) c4),
     (fun (v : Value) (W : World) => ∃ (A9 : Option Addr) (c10 : Nat), v = sv A9 (canon (val m)) c10 ∧ SOwn W w3.heap.size 50 .u32 A9 (canon (val m)) c10)] hs6 (.eq (.cons (fun v W W' hn ⟨A3, c4, he, h0⟩ => ⟨A3, c4, he, h0.new_ hn⟩) (.cons (fun v W W' hn ⟨A9, c10, he, h0⟩ => ⟨A9, c10, he, h0.new_ hn⟩) (.nil)))) ?_ ?_
  · skip
    refine .o1 (tk rfl rfl fun _ w hn k => ⟨_, v_move rfl (k.fx 1 h9), rfl⟩) ?_
    refine .o1 (tkC rfl (noG rfl) rfl fun _ w hn k => (by
          refine ⟨#[sv A m c], _, args1 (k.eq1 0 6 rfl), fun w => by kernel_rfl, rtrim_c _ _ _ _ (hr.new_ (hN15.transNew hn)) hl (by first | omega | (simp only [List.length_nil, List.length_cons, List.length_set, List.length_replicate]; omega)), ?_⟩
          rintro e w' ⟨A1, c2, rfl, hmo, hm⟩
          exact ⟨_, rfl, hm, ⟨A1, c2, rfl, (hmo.more hn.size)⟩⟩)) ?_
    refine .o1 (tk rfl rfl fun _ w hn k => (by
          obtain ⟨A5, c6, e7, hx8⟩ : (fun (v : Value) (W : World) => ∃ (A3 : Option Addr) (c4 : Nat), v = sv A3 (canon (val m)) c4 ∧ SOwn W w3.heap.size 50 .u32 A3 (canon (val m)) c4) _ _ := k.dep 1 7 (by kernel_rfl) (by kernel_rfl)
          exact ⟨_, v_assign rfl e7, ⟨A5, c6, rfl, hx8⟩⟩)) ?_
    exact .nil
  intro a17 w18 hn19 ha20
  have hs21 := ha20.size.trans hs6
  have hd22 := ha20.defers.trans hd7
  have h23 := ha20.fx 0 h8
  have h24 := ha20.fx 4 h10
  obtain ⟨A26, cc27, h25, hr28⟩ : (fun (v : Value) (W : World) => ∃ (A9 : Option Addr) (c10 : Nat), v = sv A9 (canon (val m)) c10 ∧ SOwn W w3.heap.size 50 .u32 A9 (canon (val m)) c10) _ _ := ha20.got 2 5 rfl (by kernel_rfl)
  have h25 : a17.eval (.tmp 5) = sv A26 (canon (val m)) cc27 := h25
  have hb29 := hb13.new_ hn19
  have hr30 := hr28.more hN15.size
  have hN31 := hN15.transNew hn19
  clear hs6 hd7 h8 h9 h10 hb13 hr28 hN15 ha20 hn19
  refine st_nil ?_
  refine hK16 _ _ ?_
  clear hK16 K16
  refine wp_seq_k fun K32 hK32 => ?_
  rcases Bool.eq_false_or_eq_true (d) with ht33 | ht33
  · skip
    have hv34 : a17.eval (.tmp 0) = .bool true := h23.trans (congrArg Value.bool ht33)
    clear h23
    rcases Bool.eq_false_or_eq_true (decide (((canon (val m)).length : Int) ≤ 0)) with ht35 | ht35
    · skip
      have ht35d := of_decide_eq_true ht35
      refine wp_g0 [true, true, true, true, true, true, true, true, false] [(8, false)] 16
        [ve (.bool true),
         ve (.bool true),
         ve (sv A26 (canon (val m)) cc27),
         ve (iv ((canon (val m)).length : Int)),
         ve (.bool false),
         ve (.bool false),
         ve (sv A26 (canon (val m)) cc27),
         ve (.agg #[.bool false, sv A26 (canon (val m)) cc27]),
         vt] hs21 (.eq (.eq (.eq (.eq (.eq (.eq (.eq (.eq (.tt (.nil)))))))))) ?_ ?_
      · skip
        refine .o1 (tk rfl rfl fun _ w hn k => ⟨_, v_move rfl (k.fx 0 hv34), rfl⟩) ?_
        refine .o1 (tk rfl rfl fun _ w hn k => ⟨_, v_move rfl (k.eq1 0 8 rfl), rfl⟩) ?_
        refine .o1 (tg rfl rfl rfl (fun _ _ k => k.eq1 1 9 rfl) fun _ w hn k => ⟨_, v_move rfl (k.fx 5 h25), rfl⟩) ?_
        refine .o1 (tg rfl rfl rfl (fun _ _ k => k.eq1 1 9 rfl) fun _ w hn k => ⟨_, v_lenR rfl elW (k.eq1 2 10 rfl), rfl⟩) ?_
        refine .o1 (tg rfl rfl rfl (fun _ _ k => k.eq1 1 9 rfl) fun _ w hn k => ⟨_, v_bin rfl (k.eq1 3 11 rfl) rfl (fun _ => rfl) (r_gtrK ht35), rfl⟩) ?_
        refine .o1 (tk rfl rfl fun _ w hn k => ⟨_, v_pickT rfl (k.eq1 1 9 rfl) (k.eq1 4 12 rfl), rfl⟩) ?_
        refine .o1 (tk rfl rfl fun _ w hn k => ⟨_, v_move rfl (k.fx 5 h25), rfl⟩) ?_
        refine .o1 (tk rfl rfl fun _ w hn k => ⟨_, v_build (ps := [(0, .bool false), (1, sv A26 (canon (val m)) cc27)]) rfl (parts2 (k.eq1 5 13 rfl) (k.eq1 6 14 rfl)) (by kernel_rfl), rfl⟩) ?_
        refine .off ?_
        exact .nil
      intro a36 w37 hn38 ha39
      have hs40 := ha39.size.trans hs21
      have hd41 := ha39.defers.trans hd22
      have h42 := ha39.fx 4 h24
      have h43 := ha39.ge 7 15 rfl
      have hb44 := hb29.new_ hn38
      have hr45 := hr30.new_ hn38
      have hN46 := hN31.transNew hn38
      clear hs21 hd22 hv34 h24 h25 hb29 hr30 hN31 ha39 hn38
      obtain ⟨w47, -, hst48, hb49, hu50, hf51⟩ := s_two (v0 := .bool false) (v1 := sv A26 (canon (val m)) cc27) Try.sizeOf24 rfl rfl rfl hb44
      refine st_act rfl rfl fun K52 hL53 => a_store' rfl h42 h43 hst48 (hL53 _ _ trivial ?_)
      have hr54 := hr45.far hb44 hu50 (by decide)
      have hN55 := hN46.trans hu50 (fun k hk hkb => by subst hkb; omega)
      clear hb44 hst48 K52 hL53 hN46 hr45 hu50 hf51
      refine st_nil ?_
      clear h43
      refine hK32 _ _ ?_
      clear hK32 K32
      refine wp_ret (ret_k hd41 (v := .agg #[.bool false, sv A26 (canon (val m)) cc27]) (res_c rfl h42 (l_two Try.isAgg24 Try.sizeOf24 hb49)) ?_)
      have hz1 : (decide (sgn d (val m) < 0)) = false := made_b2 ht35
      have hz2 : canon (sgn d (val m)).natAbs = (canon (val m)) := by rw [natAbs_sgn]
      exact ⟨A26, cc27, by rw [hz1, hz2], by rw [hz2]; exact hr54.row, hN55⟩
    have ht35d := of_decide_eq_false ht35
    refine wp_g0 [true, true, true, true, true, true, true, true, false] [(8, false)] 16
      [ve (.bool true),
       ve (.bool true),
       ve (sv A26 (canon (val m)) cc27),
       ve (iv ((canon (val m)).length : Int)),
       ve (.bool true),
       ve (.bool true),
       ve (sv A26 (canon (val m)) cc27),
       ve (.agg #[.bool true, sv A26 (canon (val m)) cc27]),
       vt] hs21 (.eq (.eq (.eq (.eq (.eq (.eq (.eq (.eq (.tt (.nil)))))))))) ?_ ?_
    · skip
      refine .o1 (tk rfl rfl fun _ w hn k => ⟨_, v_move rfl (k.fx 0 hv34), rfl⟩) ?_
      refine .o1 (tk rfl rfl fun _ w hn k => ⟨_, v_move rfl (k.eq1 0 8 rfl), rfl⟩) ?_
      refine .o1 (tg rfl rfl rfl (fun _ _ k => k.eq1 1 9 rfl) fun _ w hn k => ⟨_, v_move rfl (k.fx 5 h25), rfl⟩) ?_
      refine .o1 (tg rfl rfl rfl (fun _ _ k => k.eq1 1 9 rfl) fun _ w hn k => ⟨_, v_lenR rfl elW (k.eq1 2 10 rfl), rfl⟩) ?_
      refine .o1 (tg rfl rfl rfl (fun _ _ k => k.eq1 1 9 rfl) fun _ w hn k => ⟨_, v_bin rfl (k.eq1 3 11 rfl) rfl (fun _ => rfl) (r_gtrK ht35), rfl⟩) ?_
      refine .o1 (tk rfl rfl fun _ w hn k => ⟨_, v_pickT rfl (k.eq1 1 9 rfl) (k.eq1 4 12 rfl), rfl⟩) ?_
      refine .o1 (tk rfl rfl fun _ w hn k => ⟨_, v_move rfl (k.fx 5 h25), rfl⟩) ?_
      refine .o1 (tk rfl rfl fun _ w hn k => ⟨_, v_build (ps := [(0, .bool true), (1, sv A26 (canon (val m)) cc27)]) rfl (parts2 (k.eq1 5 13 rfl) (k.eq1 6 14 rfl)) (by kernel_rfl), rfl⟩) ?_
      refine .off ?_
      exact .nil
    intro a56 w57 hn58 ha59
    have hs60 := ha59.size.trans hs21
    have hd61 := ha59.defers.trans hd22
    have h62 := ha59.fx 4 h24
    have h63 := ha59.ge 7 15 rfl
    have hb64 := hb29.new_ hn58
    have hr65 := hr30.new_ hn58
    have hN66 := hN31.transNew hn58
    clear hs21 hd22 hv34 h24 h25 hb29 hr30 hN31 ha59 hn58
    obtain ⟨w67, -, hst68, hb69, hu70, hf71⟩ := s_two (v0 := .bool true) (v1 := sv A26 (canon (val m)) cc27) Try.sizeOf24 rfl rfl rfl hb64
    refine st_act rfl rfl fun K72 hL73 => a_store' rfl h62 h63 hst68 (hL73 _ _ trivial ?_)
    have hr74 := hr65.far hb64 hu70 (by decide)
    have hN75 := hN66.trans hu70 (fun k hk hkb => by subst hkb; omega)
    clear hb64 hst68 K72 hL73 hN66 hr65 hu70 hf71
    refine st_nil ?_
    clear h63
    refine hK32 _ _ ?_
    clear hK32 K32
    refine wp_ret (ret_k hd61 (v := .agg #[.bool true, sv A26 (canon (val m)) cc27]) (res_c rfl h62 (l_two Try.isAgg24 Try.sizeOf24 hb69)) ?_)
    have hz1 : (decide (sgn d (val m) < 0)) = true := made_b3 ht33 ht35
    have hz2 : canon (sgn d (val m)).natAbs = (canon (val m)) := by rw [natAbs_sgn]
    exact ⟨A26, cc27, by rw [hz1, hz2], by rw [hz2]; exact hr74.row, hN75⟩
  have hv76 : a17.eval (.tmp 0) = .bool false := h23.trans (congrArg Value.bool ht33)
  clear h23
  refine wp_g0 [true, true, true, true, true, true, true, true, false] [(8, false)] 16
    [ve (.bool false),
     ve (.bool false),
     ve undef,
     ve undef,
     ve undef,
     ve (.bool false),
     ve (sv A26 (canon (val m)) cc27),
     ve (.agg #[.bool false, sv A26 (canon (val m)) cc27]),
     vt] hs21 (.eq (.eq (.eq (.eq (.eq (.eq (.eq (.eq (.tt (.nil)))))))))) ?_ ?_
  · skip
    refine .o1 (tk rfl rfl fun _ w hn k => ⟨_, v_move rfl (k.fx 0 hv76), rfl⟩) ?_
    refine .o1 (tk rfl rfl fun _ w hn k => ⟨_, v_move rfl (k.eq1 0 8 rfl), rfl⟩) ?_
    refine .o1 (sk rfl rfl rfl (fun _ _ _ k => k.eq1 1 9 rfl) (fun _ => rfl)) ?_
    refine .o1 (sk rfl rfl rfl (fun _ _ _ k => k.eq1 1 9 rfl) (fun _ => rfl)) ?_
    refine .o1 (sk rfl rfl rfl (fun _ _ _ k => k.eq1 1 9 rfl) (fun _ => rfl)) ?_
    refine .o1 (tk rfl rfl fun _ w hn k => ⟨_, v_pickF rfl (k.eq1 1 9 rfl) rfl, rfl⟩) ?_
    refine .o1 (tk rfl rfl fun _ w hn k => ⟨_, v_move rfl (k.fx 5 h25), rfl⟩) ?_
    refine .o1 (tk rfl rfl fun _ w hn k => ⟨_, v_build (ps := [(0, .bool false), (1, sv A26 (canon (val m)) cc27)]) rfl (parts2 (k.eq1 5 13 rfl) (k.eq1 6 14 rfl)) (by kernel_rfl), rfl⟩) ?_
    refine .off ?_
    exact .nil
  intro a77 w78 hn79 ha80
  have hs81 := ha80.size.trans hs21
  have hd82 := ha80.defers.trans hd22
  have h83 := ha80.fx 4 h24
  have h84 := ha80.ge 7 15 rfl
  have hb85 := hb29.new_ hn79
  have hr86 := hr30.new_ hn79
  have hN87 := hN31.transNew hn79
  clear hs21 hd22 hv76 h24 h25 hb29 hr30 hN31 ha80 hn79
  obtain ⟨w88, -, hst89, hb90, hu91, hf92⟩ := s_two (v0 := .bool false) (v1 := sv A26 (canon (val m)) cc27) Try.sizeOf24 rfl rfl rfl hb85
  refine st_act rfl rfl fun K93 hL94 => a_store' rfl h83 h84 hst89 (hL94 _ _ trivial ?_)
  have hr95 := hr86.far hb85 hu91 (by decide)
  have hN96 := hN87.trans hu91 (fun k hk hkb => by subst hkb; omega)
  clear hb85 hst89 K93 hL94 hN87 hr86 hu91 hf92
  refine st_nil ?_
  clear h84
  refine hK32 _ _ ?_
  clear hK32 K32
  refine wp_ret (ret_k hd82 (v := .agg #[.bool false, sv A26 (canon (val m)) cc27]) (res_c rfl h83 (l_two Try.isAgg24 Try.sizeOf24 hb90)) ?_)
  have hz1 : (decide (sgn d (val m) < 0)) = false := made_b1 ht33
  have hz2 : canon (sgn d (val m)).natAbs = (canon (val m)) := by rw [natAbs_sgn]
  exact ⟨A26, cc27, by rw [hz1, hz2], by rw [hz2]; exact hr95.row, hN96⟩
end Go.Proofs.Ytfhflpchfgkgcaa
