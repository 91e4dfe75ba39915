/- Package renref2: numbers. -/
import Derived.Test.YtfhflpchfgkgcaaRefBd
namespace Go.Proofs.Ytfhflpchfgkgcaa
open Go.RowKit
set_option linter.unusedSimpArgs false
set_option linter.unusedVariables false
def RetZ (z : Int) (w : World) (en : Ending) (w' : World) : Prop := ∃ A c, en = .returned (.agg #[.bool (decide (z < 0)), sv A (canon z.natAbs) c]) ∧ SRow w' .u32 A (canon z.natAbs) c ∧ New w w'
def RetZB (z : Int) (ok : Bool) (w : World) (en : Ending) (w' : World) : Prop := ∃ A c, en = .returned (.tuple #[.agg #[.bool (decide (z < 0)), sv A (canon z.natAbs) c], .bool ok]) ∧ SRow w' .u32 A (canon z.natAbs) c ∧ New w w'
def RetZE (z : Int) (er : Int) (w : World) (en : Ending) (w' : World) : Prop := ∃ A c, en = .returned (.tuple #[.agg #[.bool (decide (z < 0)), sv A (canon z.natAbs) c], .int .i64 er]) ∧ SRow w' .u32 A (canon z.natAbs) c ∧ New w w'
theorem made_b1 {d : Bool} {n : Nat} (h : d = false) : decide (sgn d n < 0) = false := by subst h; simp [sgn]
theorem made_b2 {d : Bool} {n : Nat} (h : decide (((canon n).length : Int) ≤ 0) = true) : decide (sgn d n < 0) = false := by
  have h1 := of_decide_eq_true h
  have h2 : n = 0 := canon_nil.1 (List.eq_nil_of_length_eq_zero (by omega))
  rw [h2, sgn_zero]; rfl
theorem made_b3 {d : Bool} {n : Nat} (hd : d = true) (h : decide (((canon n).length : Int) ≤ 0) = false) : decide (sgn d n < 0) = true := by
  have h1 := of_decide_eq_false h
  rcases Nat.eq_zero_or_pos n with h2 | h2
  · rw [h2, canon_zero] at h1; simp at h1
  · rw [sgn_neg h2, hd]
theorem fits_yes {z : Int} (h : decide (((canon z.natAbs).length : Int) ≤ 8) = true) : capI z = z ∧ okI z = true := by
  have h1 := of_decide_eq_true h
  have h2 := (canon_len8 z.natAbs).1 (by omega)
  exact ⟨by unfold capI; rw [if_pos h2], decide_eq_true h2⟩
theorem fits_no {z : Int} (h : decide (((canon z.natAbs).length : Int) ≤ 8) = false) : capI z = 0 ∧ okI z = false := by
  have h1 := of_decide_eq_false h
  have h2 : ¬ z.natAbs < 2 ^ 256 := fun h3 => h1 (by have := (canon_len8 z.natAbs).2 h3; omega)
  exact ⟨by unfold capI; rw [if_neg h2], decide_eq_false h2⟩
theorem sum_len {x y : Int} (hx : x.natAbs < 2 ^ 256) (hy : y.natAbs < 2 ^ 256) : (canon (val (canon x.natAbs) + val (canon y.natAbs))).length ≤ 9 := by
  rw [val_canon, val_canon]
  exact canon_len_le (by omega)
theorem dif_len {x y : Int} (hx : x.natAbs < 2 ^ 256) : (canon (val (canon x.natAbs) - val (canon y.natAbs))).length ≤ 8 := by
  rw [val_canon, val_canon]
  exact (canon_len8 _).2 (by omega)
theorem mul_len {x y : Int} (hx : x.natAbs < 2 ^ 256) (hy : y.natAbs < 2 ^ 256) : (canon (val (canon x.natAbs) * val (canon y.natAbs))).length ≤ 16 := by
  rw [val_canon, val_canon]
  refine canon_len_le ?_
  have h1 : x.natAbs * y.natAbs ≤ (2 ^ 256 - 1) * (2 ^ 256 - 1) := Nat.mul_le_mul (by omega) (by omega)
  have h2 : (2 ^ 256 - 1) * (2 ^ 256 - 1) < 4294967296 ^ 16 := by decide +kernel
  omega
theorem sum_same {x y : Int} {d : Bool} (hx : decide (x < 0) = d) (hy : decide (y < 0) = d) : sgn d (val (canon (val (canon x.natAbs) + val (canon y.natAbs)))) = x + y := by
  rw [val_canon, val_canon, val_canon]; exact add_same hx.symm hy.symm
theorem sum_gt {x y : Int} {d d' : Bool} (hx : decide (x < 0) = d) (hy : decide (y < 0) = d') (hne : d ≠ d') (h : decide (cmpN (val (canon x.natAbs)) (val (canon y.natAbs)) < 0) = false) : sgn d (val (canon (val (canon x.natAbs) - val (canon y.natAbs)))) = x + y := by
  have h1 := cmpN_ge h
  rw [val_canon, val_canon] at h1
  rw [val_canon, val_canon, val_canon]; exact add_diff hx.symm hy.symm hne h1
theorem sum_lt {x y : Int} {d d' : Bool} (hx : decide (x < 0) = d) (hy : decide (y < 0) = d') (hne : d ≠ d') (h : decide (cmpN (val (canon x.natAbs)) (val (canon y.natAbs)) < 0) = true) : sgn d' (val (canon (val (canon y.natAbs) - val (canon x.natAbs)))) = x + y := by
  have h1 := cmpN_lt h
  rw [val_canon, val_canon] at h1
  rw [val_canon, val_canon, val_canon, Int.add_comm]; exact add_diff hy.symm hx.symm (Ne.symm hne) (Nat.le_of_lt h1)
theorem neg_sgn {z : Int} {d : Bool} (h : decide (z < 0) = d) : sgn (!d) (val (canon z.natAbs)) = -z := by
  rw [val_canon]
  cases d
  · have := of_decide_eq_false h
    show -((z.natAbs : Nat) : Int) = -z
    omega
  · have := of_decide_eq_true h
    show ((z.natAbs : Nat) : Int) = -z
    omega
theorem mul_sgn {x y : Int} {d d' : Bool} (hx : decide (x < 0) = d) (hy : decide (y < 0) = d') : sgn (d != d') (val (canon (val (canon x.natAbs) * val (canon y.natAbs)))) = x * y := by
  rw [val_canon, val_canon, val_canon]; exact sgn_mul hx.symm hy.symm
set_option maxHeartbeats 4000000 in
set_option maxRecDepth 100000 in
theorem rmay_c (b : Bool) (A : Option Addr) (m : List Nat) (c : Nat) (w : World) (hr : SRow w .u32 A m c) : Calls Try.prog 49 #[.agg #[.bool b, sv A m c]] w (IsRet (.bool (mayB b m)) w) := by
  refine enter_abs Try.func49 rfl fun a0 hs0 hd0 hp => ?_
  have hs0 : a0.tmps.size = 31 := hs0
  have hN0 : New w w := Upd.refl _ _
  have hp0 : a0.eval (.tmp 0) = .agg #[.bool b, sv A m c] := hp 0 _ rfl
  clear hp
  have hmx := hr.max
  refine wp_seq_k fun K1 hK1 => ?_
  refine wp_g [true, true] [] [] 31
    [IsNew w 24 [.bool b, sv A m c],
     ve (.bool false)]
    [0] (newsCons (fun v w h => IsNew.old h) newsNil) hs0 (.nw (.eq (.nil))) ?_ (fun i h => by cases h) ?_
  · skip
    refine .o2 (step_allocN (cs := [.bool b, sv A m c]) (t := 24) rfl (noG rfl) (fun _ w hn k => v_box rfl (k.fx 0 hp0) (fun w => rfl)) (fun q _ hq hb => ⟨q, rfl, hq, hb⟩)) ?_
    refine .o1 (tk rfl rfl fun _ w hn k => ⟨_, v_assign rfl rfl, rfl⟩) ?_
    exact .nil
  intro a2 w3 hn4 ha5
  have hs6 := ha5.size.trans hs0
  have hd7 := ha5.defers.trans hd0
  obtain ⟨q9, h8, hq10, hb11⟩ : IsNew _ _ _ _ _ := ha5.got 0 1 rfl (by kernel_rfl)
  have hq12 := Nat.le_trans hN0.size hq10
  have hN13 := hN0.transNew hn4
  clear hs0 hd0 hp0 hq10 hN0 ha5 hn4
  refine st_nil ?_
  refine hK1 _ _ ?_
  clear hK1 K1
  refine wp_seq_k fun K14 hK14 => ?_
  refine wp_g0 [true, true, true, true] [] 31
    [ve (.pointer (some ⟨q9, 1, none⟩)),
     ve (sv A m c),
     ve (iv (m.length : Int)),
     ve (iv (m.length : Int))] hs6 (.eq (.eq (.eq (.eq (.nil))))) ?_ ?_
  · skip
    refine .o1 (tk rfl rfl fun _ w hn k => ⟨_, v_field rfl (k.fx 1 h8) (fun w => rfl), rfl⟩) ?_
    refine .o1 (tk rfl rfl fun _ w hn k => ⟨_, v_load rfl (k.eq1 0 4 rfl) (l_one Try.isAgg22 ((hb11.new_ hn).cell 1)), rfl⟩) ?_
    refine .o1 (tk rfl rfl fun _ w hn k => ⟨_, v_lenR rfl elW (k.eq1 1 5 rfl), rfl⟩) ?_
    refine .o1 (tk rfl rfl fun _ w hn k => ⟨_, v_assign rfl (k.eq1 2 6 rfl), rfl⟩) ?_
    exact .nil
  intro a15 w16 hn17 ha18
  have hs19 := ha18.size.trans hs6
  have hd20 := ha18.defers.trans hd7
  have h21 := ha18.fx 1 h8
  have h22 := ha18.ge 3 3 rfl
  have hb23 := hb11.new_ hn17
  have hN24 := hN13.transNew hn17
  clear hs6 hd7 h8 hb11 hN13 ha18 hn17
  refine st_nil ?_
  refine hK14 _ _ ?_
  clear hK14 K14
  refine wp_seq_k fun K25 hK25 => ?_
  rcases Bool.eq_false_or_eq_true (decide ((m.length : Int) ≤ 8)) with ht26 | ht26
  · skip
    have ht26d := of_decide_eq_true ht26
    rcases Bool.eq_false_or_eq_true (decide ((m.length : Int) = 0)) with ht27 | ht27
    · skip
      have ht27d := of_decide_eq_true ht27
      rcases Bool.eq_false_or_eq_true (b) with ht28 | ht28
      · skip
        rcases Bool.eq_false_or_eq_true (decide ((m.length : Int) ≤ 0)) with ht29 | ht29
        · skip
          have ht29d := of_decide_eq_true ht29
          refine wp_g0 [true, true, true, true, true, true, true, true, true, true, true, true, true, true, true, true, true, true, true, true, true, true, true, true, true] [] 31
            [ve (iv (m.length : Int)),
             ve (.bool true),
             ve (.bool true),
             ve (iv (m.length : Int)),
             ve (.bool true),
             ve (.bool true),
             ve (pv q9),
             ve (.bool true),
             ve (.bool false),
             ve (.bool false),
             ve (.bool false),
             ve (iv (m.length : Int)),
             ve (.bool false),
             ve (.bool false),
             ve undef,
             ve undef,
             ve undef,
             ve undef,
             ve undef,
             ve undef,
             ve undef,
             ve (.bool false),
             ve (.bool false),
             ve (.bool false),
             ve (.bool false)] hs19 (.eq (.eq (.eq (.eq (.eq (.eq (.eq (.eq (.eq (.eq (.eq (.eq (.eq (.eq (.eq (.eq (.eq (.eq (.eq (.eq (.eq (.eq (.eq (.eq (.eq (.nil)))))))))))))))))))))))))) ?_ ?_
          · skip
            refine .o1 (tk rfl rfl fun _ w hn k => ⟨_, v_move rfl (k.fx 3 h22), rfl⟩) ?_
            refine .o1 (tk rfl rfl fun _ w hn k => ⟨_, v_bin rfl (k.eq1 0 7 rfl) rfl (fun _ => rfl) (r_leqK ht26), rfl⟩) ?_
            refine .o1 (tk rfl rfl fun _ w hn k => ⟨_, v_move rfl (k.eq1 1 8 rfl), rfl⟩) ?_
            refine .o1 (tg rfl rfl rfl (fun _ _ k => k.eq1 2 9 rfl) fun _ w hn k => ⟨_, v_move rfl (k.fx 3 h22), rfl⟩) ?_
            refine .o1 (tg rfl rfl rfl (fun _ _ k => k.eq1 2 9 rfl) fun _ w hn k => ⟨_, v_bin rfl (k.eq1 3 10 rfl) rfl (fun _ => rfl) (r_eql ht27), rfl⟩) ?_
            refine .o1 (tg rfl rfl rfl (fun _ _ k => k.eq1 2 9 rfl) fun _ w hn k => ⟨_, v_move rfl (k.eq1 4 11 rfl), rfl⟩) ?_
            refine .o1 (tg rfl rfl rfl (fun _ _ k => k.eq1 5 12 rfl) fun _ w hn k => ⟨_, v_field rfl (k.fx 1 h21) (fun w => rfl), rfl⟩) ?_
            refine .o1 (tg rfl rfl rfl (fun _ _ k => k.eq1 5 12 rfl) fun _ w hn k => ⟨_, v_load rfl (k.eq1 6 13 rfl) (l_one Try.isAgg4 ((hb23.new_ hn).cell 0)), congrArg Value.bool ht28⟩) ?_
            refine .o1 (tg rfl rfl rfl (fun _ _ k => k.eq1 5 12 rfl) fun _ w hn k => ⟨_, v_not rfl (k.eq1 7 14 rfl), rfl⟩) ?_
            refine .o1 (tg rfl rfl rfl (fun _ _ k => k.eq1 2 9 rfl) fun _ w hn k => ⟨_, v_pickT rfl (k.eq1 5 12 rfl) (k.eq1 8 15 rfl), rfl⟩) ?_
            refine .o1 (tg rfl rfl rfl (fun _ _ k => k.eq1 2 9 rfl) fun _ w hn k => ⟨_, v_move rfl (k.eq1 9 16 rfl), rfl⟩) ?_
            refine .o1 (tg rfl rfl rfl (fun _ _ k => k.eq1 10 17 rfl) fun _ w hn k => ⟨_, v_move rfl (k.fx 3 h22), rfl⟩) ?_
            refine .o1 (tg rfl rfl rfl (fun _ _ k => k.eq1 10 17 rfl) fun _ w hn k => ⟨_, v_bin rfl (k.eq1 11 18 rfl) rfl (fun _ => rfl) (r_gtrK ht29), rfl⟩) ?_
            refine .o1 (tg rfl rfl rfl (fun _ _ k => k.eq1 10 17 rfl) fun _ w hn k => ⟨_, v_move rfl (k.eq1 12 19 rfl), rfl⟩) ?_
            refine .o1 (sk rfl rfl rfl (fun _ _ _ k => k.eq1 13 20 rfl) (fun _ => rfl)) ?_
            refine .o1 (sk rfl rfl rfl (fun _ _ _ k => k.eq1 13 20 rfl) (fun _ => rfl)) ?_
            refine .o1 (sk rfl rfl rfl (fun _ _ _ k => k.eq1 13 20 rfl) (fun _ => rfl)) ?_
            refine .o1 (sk rfl rfl rfl (fun _ _ _ k => k.eq1 13 20 rfl) (fun _ => rfl)) ?_
            refine .o1 (sk rfl rfl rfl (fun _ _ _ k => k.eq1 13 20 rfl) (fun _ => rfl)) ?_
            refine .o1 (sk rfl rfl rfl (fun _ _ _ k => k.eq1 13 20 rfl) (fun _ => rfl)) ?_
            refine .o1 (sk rfl rfl rfl (fun _ _ _ k => k.eq1 13 20 rfl) (fun _ => rfl)) ?_
            refine .o1 (tg rfl rfl rfl (fun _ _ k => k.eq1 10 17 rfl) fun _ w hn k => ⟨_, v_pickF rfl (k.eq1 13 20 rfl) rfl, rfl⟩) ?_
            refine .o1 (tg rfl rfl rfl (fun _ _ k => k.eq1 2 9 rfl) fun _ w hn k => ⟨_, v_pickF rfl (k.eq1 10 17 rfl) (k.eq1 21 28 rfl), rfl⟩) ?_
            refine .o1 (tk rfl rfl fun _ w hn k => ⟨_, v_pickT rfl (k.eq1 2 9 rfl) (k.eq1 22 29 rfl), rfl⟩) ?_
            refine .o1 (tk rfl rfl fun _ w hn k => ⟨_, v_assign rfl (k.eq1 23 30 rfl), rfl⟩) ?_
            exact .nil
          intro a30 w31 hn32 ha33
          have hs34 := ha33.size.trans hs19
          have hd35 := ha33.defers.trans hd20
          have h36 := ha33.ge 24 2 rfl
          have hN37 := hN24.transNew hn32
          clear hs19 hd20 h21 h22 hb23 hq12 hN24 ha33 hn32
          refine st_nil ?_
          refine hK25 _ _ ?_
          clear hK25 K25
          refine wp_ret (ret_k hd35 (v := .bool false) (res_t rfl h36 _) ?_)
          have hix : ((m.length : Int) - 1).toNat = m.length - 1 := by omega
          have q8 : decide (m.length ≤ 8) = true := decide_eq_true (by omega)
          have q0 : decide (m.length = 0) = true := decide_eq_true (by omega)
          have q1 : decide (0 < m.length) = false := decide_eq_false (by omega)
          refine ⟨?_, hN37⟩
          rw [show mayB b m = false from by unfold mayB; simp only [q8, q0, q1, ht28]; first | rfl | (exfalso; omega)]
        have ht29d := of_decide_eq_false ht29
        rcases Bool.eq_false_or_eq_true (decide (((m.getD (((m.length : Int) - 1 : Int).toNat) 0 : Nat) : Int) = 0)) with ht38 | ht38
        · skip
          have ht38d := of_decide_eq_true ht38
          refine wp_g0 [true, true, true, true, true, true, true, true, true, true, true, true, true, true, true, true, true, true, true, true, true, true, true, true, true] [] 31
            [ve (iv (m.length : Int)),
             ve (.bool true),
             ve (.bool true),
             ve (iv (m.length : Int)),
             ve (.bool true),
             ve (.bool true),
             ve (pv q9),
             ve (.bool true),
             ve (.bool false),
             ve (.bool false),
             ve (.bool false),
             ve (iv (m.length : Int)),
             ve (.bool true),
             ve (.bool true),
             ve (.pointer (some ⟨q9, 1, none⟩)),
             ve (sv A m c),
             ve (iv (m.length : Int)),
             ve (iv ((m.length : Int) - 1)),
             (fun (v : Value) (W : World) => ∃ (b11 : Nat) (o12 : Nat), v = .pointer (some ⟨b11, o12, none⟩) ∧ SElem W b11 o12 (.int .u32 ((m.getD (((m.length : Int) - 1 : Int).toNat) 0 : Nat) : Int))),
             ve (.int .u32 ((m.getD (((m.length : Int) - 1 : Int).toNat) 0 : Nat) : Int)),
             ve (.bool false),
             ve (.bool false),
             ve (.bool false),
             ve (.bool false),
             ve (.bool false)] hs19 (.eq (.eq (.eq (.eq (.eq (.eq (.eq (.eq (.eq (.eq (.eq (.eq (.eq (.eq (.eq (.eq (.eq (.eq (.cons (fun v W W' hn ⟨b11, o12, he, h0⟩ => ⟨b11, o12, he, h0.new_ hn⟩) (.eq (.eq (.eq (.eq (.eq (.eq (.nil)))))))))))))))))))))))))) ?_ ?_
          · skip
            refine .o1 (tk rfl rfl fun _ w hn k => ⟨_, v_move rfl (k.fx 3 h22), rfl⟩) ?_
            refine .o1 (tk rfl rfl fun _ w hn k => ⟨_, v_bin rfl (k.eq1 0 7 rfl) rfl (fun _ => rfl) (r_leqK ht26), rfl⟩) ?_
            refine .o1 (tk rfl rfl fun _ w hn k => ⟨_, v_move rfl (k.eq1 1 8 rfl), rfl⟩) ?_
            refine .o1 (tg rfl rfl rfl (fun _ _ k => k.eq1 2 9 rfl) fun _ w hn k => ⟨_, v_move rfl (k.fx 3 h22), rfl⟩) ?_
            refine .o1 (tg rfl rfl rfl (fun _ _ k => k.eq1 2 9 rfl) fun _ w hn k => ⟨_, v_bin rfl (k.eq1 3 10 rfl) rfl (fun _ => rfl) (r_eql ht27), rfl⟩) ?_
            refine .o1 (tg rfl rfl rfl (fun _ _ k => k.eq1 2 9 rfl) fun _ w hn k => ⟨_, v_move rfl (k.eq1 4 11 rfl), rfl⟩) ?_
            refine .o1 (tg rfl rfl rfl (fun _ _ k => k.eq1 5 12 rfl) fun _ w hn k => ⟨_, v_field rfl (k.fx 1 h21) (fun w => rfl), rfl⟩) ?_
            refine .o1 (tg rfl rfl rfl (fun _ _ k => k.eq1 5 12 rfl) fun _ w hn k => ⟨_, v_load rfl (k.eq1 6 13 rfl) (l_one Try.isAgg4 ((hb23.new_ hn).cell 0)), congrArg Value.bool ht28⟩) ?_
            refine .o1 (tg rfl rfl rfl (fun _ _ k => k.eq1 5 12 rfl) fun _ w hn k => ⟨_, v_not rfl (k.eq1 7 14 rfl), rfl⟩) ?_
            refine .o1 (tg rfl rfl rfl (fun _ _ k => k.eq1 2 9 rfl) fun _ w hn k => ⟨_, v_pickT rfl (k.eq1 5 12 rfl) (k.eq1 8 15 rfl), rfl⟩) ?_
            refine .o1 (tg rfl rfl rfl (fun _ _ k => k.eq1 2 9 rfl) fun _ w hn k => ⟨_, v_move rfl (k.eq1 9 16 rfl), rfl⟩) ?_
            refine .o1 (tg rfl rfl rfl (fun _ _ k => k.eq1 10 17 rfl) fun _ w hn k => ⟨_, v_move rfl (k.fx 3 h22), rfl⟩) ?_
            refine .o1 (tg rfl rfl rfl (fun _ _ k => k.eq1 10 17 rfl) fun _ w hn k => ⟨_, v_bin rfl (k.eq1 11 18 rfl) rfl (fun _ => rfl) (r_gtrK ht29), rfl⟩) ?_
            refine .o1 (tg rfl rfl rfl (fun _ _ k => k.eq1 10 17 rfl) fun _ w hn k => ⟨_, v_move rfl (k.eq1 12 19 rfl), rfl⟩) ?_
            refine .o1 (tg rfl rfl rfl (fun _ _ k => k.eq1 13 20 rfl) fun _ w hn k => ⟨_, v_field rfl (k.fx 1 h21) (fun w => rfl), rfl⟩) ?_
            refine .o1 (tg rfl rfl rfl (fun _ _ k => k.eq1 13 20 rfl) fun _ w hn k => ⟨_, v_load rfl (k.eq1 14 21 rfl) (l_one Try.isAgg22 ((hb23.new_ hn).cell 1)), rfl⟩) ?_
            refine .o1 (tg rfl rfl rfl (fun _ _ k => k.eq1 13 20 rfl) fun _ w hn k => ⟨_, v_move rfl (k.fx 3 h22), rfl⟩) ?_
            refine .o1 (tg rfl rfl rfl (fun _ _ k => k.eq1 13 20 rfl) fun _ w hn k => ⟨_, v_bin rfl (k.eq1 16 23 rfl) rfl (fun _ => rfl) (r_sub rfl (by omega)), rfl⟩) ?_
            refine .o1 (tg rfl rfl rfl (fun _ _ k => k.eq1 13 20 rfl) fun _ w hn k => (by
                  exact x_eaddr (k := .u32) rfl elW (k.eq1 15 22 rfl) (k.eq1 17 24 rfl) (hr.new_ (hN24.transNew hn)) (by omega) fun b9 o10 hme => ⟨b9, o10, rfl, hme⟩)) ?_
            refine .o1 (tg rfl rfl rfl (fun _ _ k => k.eq1 13 20 rfl) fun _ w hn k => (by
                  obtain ⟨b13, o14, e15, hx16⟩ : (fun (v : Value) (W : World) => ∃ (b11 : Nat) (o12 : Nat), v = .pointer (some ⟨b11, o12, none⟩) ∧ SElem W b11 o12 (.int .u32 ((m.getD (((m.length : Int) - 1 : Int).toNat) 0 : Nat) : Int))) _ _ := k.dep 18 25 (by kernel_rfl) (by kernel_rfl)
                  exact ⟨_, v_load rfl e15 (l_one Try.isAgg50 hx16.1), rfl⟩)) ?_
            refine .o1 (tg rfl rfl rfl (fun _ _ k => k.eq1 13 20 rfl) fun _ w hn k => ⟨_, v_bin rfl (k.eq1 19 26 rfl) rfl (fun _ => rfl) (r_neq ht38), rfl⟩) ?_
            refine .o1 (tg rfl rfl rfl (fun _ _ k => k.eq1 10 17 rfl) fun _ w hn k => ⟨_, v_pickT rfl (k.eq1 13 20 rfl) (k.eq1 20 27 rfl), rfl⟩) ?_
            refine .o1 (tg rfl rfl rfl (fun _ _ k => k.eq1 2 9 rfl) fun _ w hn k => ⟨_, v_pickF rfl (k.eq1 10 17 rfl) (k.eq1 21 28 rfl), rfl⟩) ?_
            refine .o1 (tk rfl rfl fun _ w hn k => ⟨_, v_pickT rfl (k.eq1 2 9 rfl) (k.eq1 22 29 rfl), rfl⟩) ?_
            refine .o1 (tk rfl rfl fun _ w hn k => ⟨_, v_assign rfl (k.eq1 23 30 rfl), rfl⟩) ?_
            exact .nil
          intro a39 w40 hn41 ha42
          have hs43 := ha42.size.trans hs19
          have hd44 := ha42.defers.trans hd20
          have h45 := ha42.ge 24 2 rfl
          have hN46 := hN24.transNew hn41
          clear hs19 hd20 h21 h22 hb23 hq12 hN24 ha42 hn41
          refine st_nil ?_
          refine hK25 _ _ ?_
          clear hK25 K25
          refine wp_ret (ret_k hd44 (v := .bool false) (res_t rfl h45 _) ?_)
          have hix : ((m.length : Int) - 1).toNat = m.length - 1 := by omega
          have q8 : decide (m.length ≤ 8) = true := decide_eq_true (by omega)
          have q0 : decide (m.length = 0) = true := decide_eq_true (by omega)
          have q1 : decide (0 < m.length) = false := decide_eq_false (by omega)
          rw [hix] at ht38d
          have q2 : decide (m.getD (m.length - 1) 0 ≠ 0) = false := decide_eq_false (by omega)
          refine ⟨?_, hN46⟩
          rw [show mayB b m = false from by unfold mayB; simp only [q8, q0, q1, ht28, q2]; first | rfl | (exfalso; omega)]
        have ht38d := of_decide_eq_false ht38
        refine wp_g0 [true, true, true, true, true, true, true, true, true, true, true, true, true, true, true, true, true, true, true, true, true, true, true, true, true] [] 31
          [ve (iv (m.length : Int)),
           ve (.bool true),
           ve (.bool true),
           ve (iv (m.length : Int)),
           ve (.bool true),
           ve (.bool true),
           ve (pv q9),
           ve (.bool true),
           ve (.bool false),
           ve (.bool false),
           ve (.bool false),
           ve (iv (m.length : Int)),
           ve (.bool true),
           ve (.bool true),
           ve (.pointer (some ⟨q9, 1, none⟩)),
           ve (sv A m c),
           ve (iv (m.length : Int)),
           ve (iv ((m.length : Int) - 1)),
           (fun (v : Value) (W : World) => ∃ (b19 : Nat) (o20 : Nat), v = .pointer (some ⟨b19, o20, none⟩) ∧ SElem W b19 o20 (.int .u32 ((m.getD (((m.length : Int) - 1 : Int).toNat) 0 : Nat) : Int))),
           ve (.int .u32 ((m.getD (((m.length : Int) - 1 : Int).toNat) 0 : Nat) : Int)),
           ve (.bool true),
           ve (.bool true),
           ve (.bool true),
           ve (.bool true),
           ve (.bool true)] hs19 (.eq (.eq (.eq (.eq (.eq (.eq (.eq (.eq (.eq (.eq (.eq (.eq (.eq (.eq (.eq (.eq (.eq (.eq (.cons (fun v W W' hn ⟨b19, o20, he, h0⟩ => ⟨b19, o20, he, h0.new_ hn⟩) (.eq (.eq (.eq (.eq (.eq (.eq (.nil)))))))))))))))))))))))))) ?_ ?_
        · skip
          refine .o1 (tk rfl rfl fun _ w hn k => ⟨_, v_move rfl (k.fx 3 h22), rfl⟩) ?_
          refine .o1 (tk rfl rfl fun _ w hn k => ⟨_, v_bin rfl (k.eq1 0 7 rfl) rfl (fun _ => rfl) (r_leqK ht26), rfl⟩) ?_
          refine .o1 (tk rfl rfl fun _ w hn k => ⟨_, v_move rfl (k.eq1 1 8 rfl), rfl⟩) ?_
          refine .o1 (tg rfl rfl rfl (fun _ _ k => k.eq1 2 9 rfl) fun _ w hn k => ⟨_, v_move rfl (k.fx 3 h22), rfl⟩) ?_
          refine .o1 (tg rfl rfl rfl (fun _ _ k => k.eq1 2 9 rfl) fun _ w hn k => ⟨_, v_bin rfl (k.eq1 3 10 rfl) rfl (fun _ => rfl) (r_eql ht27), rfl⟩) ?_
          refine .o1 (tg rfl rfl rfl (fun _ _ k => k.eq1 2 9 rfl) fun _ w hn k => ⟨_, v_move rfl (k.eq1 4 11 rfl), rfl⟩) ?_
          refine .o1 (tg rfl rfl rfl (fun _ _ k => k.eq1 5 12 rfl) fun _ w hn k => ⟨_, v_field rfl (k.fx 1 h21) (fun w => rfl), rfl⟩) ?_
          refine .o1 (tg rfl rfl rfl (fun _ _ k => k.eq1 5 12 rfl) fun _ w hn k => ⟨_, v_load rfl (k.eq1 6 13 rfl) (l_one Try.isAgg4 ((hb23.new_ hn).cell 0)), congrArg Value.bool ht28⟩) ?_
          refine .o1 (tg rfl rfl rfl (fun _ _ k => k.eq1 5 12 rfl) fun _ w hn k => ⟨_, v_not rfl (k.eq1 7 14 rfl), rfl⟩) ?_
          refine .o1 (tg rfl rfl rfl (fun _ _ k => k.eq1 2 9 rfl) fun _ w hn k => ⟨_, v_pickT rfl (k.eq1 5 12 rfl) (k.eq1 8 15 rfl), rfl⟩) ?_
          refine .o1 (tg rfl rfl rfl (fun _ _ k => k.eq1 2 9 rfl) fun _ w hn k => ⟨_, v_move rfl (k.eq1 9 16 rfl), rfl⟩) ?_
          refine .o1 (tg rfl rfl rfl (fun _ _ k => k.eq1 10 17 rfl) fun _ w hn k => ⟨_, v_move rfl (k.fx 3 h22), rfl⟩) ?_
          refine .o1 (tg rfl rfl rfl (fun _ _ k => k.eq1 10 17 rfl) fun _ w hn k => ⟨_, v_bin rfl (k.eq1 11 18 rfl) rfl (fun _ => rfl) (r_gtrK ht29), rfl⟩) ?_
          refine .o1 (tg rfl rfl rfl (fun _ _ k => k.eq1 10 17 rfl) fun _ w hn k => ⟨_, v_move rfl (k.eq1 12 19 rfl), rfl⟩) ?_
          refine .o1 (tg rfl rfl rfl (fun _ _ k => k.eq1 13 20 rfl) fun _ w hn k => ⟨_, v_field rfl (k.fx 1 h21) (fun w => rfl), rfl⟩) ?_
          refine .o1 (tg rfl rfl rfl (fun _ _ k => k.eq1 13 20 rfl) fun _ w hn k => ⟨_, v_load rfl (k.eq1 14 21 rfl) (l_one Try.isAgg22 ((hb23.new_ hn).cell 1)), rfl⟩) ?_
          refine .o1 (tg rfl rfl rfl (fun _ _ k => k.eq1 13 20 rfl) fun _ w hn k => ⟨_, v_move rfl (k.fx 3 h22), rfl⟩) ?_
          refine .o1 (tg rfl rfl rfl (fun _ _ k => k.eq1 13 20 rfl) fun _ w hn k => ⟨_, v_bin rfl (k.eq1 16 23 rfl) rfl (fun _ => rfl) (r_sub rfl (by omega)), rfl⟩) ?_
          refine .o1 (tg rfl rfl rfl (fun _ _ k => k.eq1 13 20 rfl) fun _ w hn k => (by
                exact x_eaddr (k := .u32) rfl elW (k.eq1 15 22 rfl) (k.eq1 17 24 rfl) (hr.new_ (hN24.transNew hn)) (by omega) fun b17 o18 hme => ⟨b17, o18, rfl, hme⟩)) ?_
          refine .o1 (tg rfl rfl rfl (fun _ _ k => k.eq1 13 20 rfl) fun _ w hn k => (by
                obtain ⟨b21, o22, e23, hx24⟩ : (fun (v : Value) (W : World) => ∃ (b19 : Nat) (o20 : Nat), v = .pointer (some ⟨b19, o20, none⟩) ∧ SElem W b19 o20 (.int .u32 ((m.getD (((m.length : Int) - 1 : Int).toNat) 0 : Nat) : Int))) _ _ := k.dep 18 25 (by kernel_rfl) (by kernel_rfl)
                exact ⟨_, v_load rfl e23 (l_one Try.isAgg50 hx24.1), rfl⟩)) ?_
          refine .o1 (tg rfl rfl rfl (fun _ _ k => k.eq1 13 20 rfl) fun _ w hn k => ⟨_, v_bin rfl (k.eq1 19 26 rfl) rfl (fun _ => rfl) (r_neq ht38), rfl⟩) ?_
          refine .o1 (tg rfl rfl rfl (fun _ _ k => k.eq1 10 17 rfl) fun _ w hn k => ⟨_, v_pickT rfl (k.eq1 13 20 rfl) (k.eq1 20 27 rfl), rfl⟩) ?_
          refine .o1 (tg rfl rfl rfl (fun _ _ k => k.eq1 2 9 rfl) fun _ w hn k => ⟨_, v_pickF rfl (k.eq1 10 17 rfl) (k.eq1 21 28 rfl), rfl⟩) ?_
          refine .o1 (tk rfl rfl fun _ w hn k => ⟨_, v_pickT rfl (k.eq1 2 9 rfl) (k.eq1 22 29 rfl), rfl⟩) ?_
          refine .o1 (tk rfl rfl fun _ w hn k => ⟨_, v_assign rfl (k.eq1 23 30 rfl), rfl⟩) ?_
          exact .nil
        intro a47 w48 hn49 ha50
        have hs51 := ha50.size.trans hs19
        have hd52 := ha50.defers.trans hd20
        have h53 := ha50.ge 24 2 rfl
        have hN54 := hN24.transNew hn49
        clear hs19 hd20 h21 h22 hb23 hq12 hN24 ha50 hn49
        refine st_nil ?_
        refine hK25 _ _ ?_
        clear hK25 K25
        refine wp_ret (ret_k hd52 (v := .bool true) (res_t rfl h53 _) ?_)
        have hix : ((m.length : Int) - 1).toNat = m.length - 1 := by omega
        have q8 : decide (m.length ≤ 8) = true := decide_eq_true (by omega)
        have q0 : decide (m.length = 0) = true := decide_eq_true (by omega)
        have q1 : decide (0 < m.length) = false := decide_eq_false (by omega)
        rw [hix] at ht38d
        have q2 : decide (m.getD (m.length - 1) 0 ≠ 0) = true := decide_eq_true (by omega)
        refine ⟨?_, hN54⟩
        rw [show mayB b m = true from by unfold mayB; simp only [q8, q0, q1, ht28, q2]; first | rfl | (exfalso; omega)]
      refine wp_g0 [true, true, true, true, true, true, true, true, true, true, true, true, true, true, true, true, true, true, true, true, true, true, true, true, true] [] 31
        [ve (iv (m.length : Int)),
         ve (.bool true),
         ve (.bool true),
         ve (iv (m.length : Int)),
         ve (.bool true),
         ve (.bool true),
         ve (pv q9),
         ve (.bool false),
         ve (.bool true),
         ve (.bool true),
         ve (.bool true),
         ve undef,
         ve undef,
         ve undef,
         ve undef,
         ve undef,
         ve undef,
         ve undef,
         ve undef,
         ve undef,
         ve undef,
         ve undef,
         ve (.bool true),
         ve (.bool true),
         ve (.bool true)] hs19 (.eq (.eq (.eq (.eq (.eq (.eq (.eq (.eq (.eq (.eq (.eq (.eq (.eq (.eq (.eq (.eq (.eq (.eq (.eq (.eq (.eq (.eq (.eq (.eq (.eq (.nil)))))))))))))))))))))))))) ?_ ?_
      · skip
        refine .o1 (tk rfl rfl fun _ w hn k => ⟨_, v_move rfl (k.fx 3 h22), rfl⟩) ?_
        refine .o1 (tk rfl rfl fun _ w hn k => ⟨_, v_bin rfl (k.eq1 0 7 rfl) rfl (fun _ => rfl) (r_leqK ht26), rfl⟩) ?_
        refine .o1 (tk rfl rfl fun _ w hn k => ⟨_, v_move rfl (k.eq1 1 8 rfl), rfl⟩) ?_
        refine .o1 (tg rfl rfl rfl (fun _ _ k => k.eq1 2 9 rfl) fun _ w hn k => ⟨_, v_move rfl (k.fx 3 h22), rfl⟩) ?_
        refine .o1 (tg rfl rfl rfl (fun _ _ k => k.eq1 2 9 rfl) fun _ w hn k => ⟨_, v_bin rfl (k.eq1 3 10 rfl) rfl (fun _ => rfl) (r_eql ht27), rfl⟩) ?_
        refine .o1 (tg rfl rfl rfl (fun _ _ k => k.eq1 2 9 rfl) fun _ w hn k => ⟨_, v_move rfl (k.eq1 4 11 rfl), rfl⟩) ?_
        refine .o1 (tg rfl rfl rfl (fun _ _ k => k.eq1 5 12 rfl) fun _ w hn k => ⟨_, v_field rfl (k.fx 1 h21) (fun w => rfl), rfl⟩) ?_
        refine .o1 (tg rfl rfl rfl (fun _ _ k => k.eq1 5 12 rfl) fun _ w hn k => ⟨_, v_load rfl (k.eq1 6 13 rfl) (l_one Try.isAgg4 ((hb23.new_ hn).cell 0)), congrArg Value.bool ht28⟩) ?_
        refine .o1 (tg rfl rfl rfl (fun _ _ k => k.eq1 5 12 rfl) fun _ w hn k => ⟨_, v_not rfl (k.eq1 7 14 rfl), rfl⟩) ?_
        refine .o1 (tg rfl rfl rfl (fun _ _ k => k.eq1 2 9 rfl) fun _ w hn k => ⟨_, v_pickT rfl (k.eq1 5 12 rfl) (k.eq1 8 15 rfl), rfl⟩) ?_
        refine .o1 (tg rfl rfl rfl (fun _ _ k => k.eq1 2 9 rfl) fun _ w hn k => ⟨_, v_move rfl (k.eq1 9 16 rfl), rfl⟩) ?_
        refine .o1 (sk rfl rfl rfl (fun _ _ _ k => k.eq1 10 17 rfl) (fun _ => rfl)) ?_
        refine .o1 (sk rfl rfl rfl (fun _ _ _ k => k.eq1 10 17 rfl) (fun _ => rfl)) ?_
        refine .o1 (sk rfl rfl rfl (fun _ _ _ k => k.eq1 10 17 rfl) (fun _ => rfl)) ?_
        refine .o1 (su rfl rfl rfl (fun _ _ _ k => k.eq1 13 20 rfl) (fun _ => rfl)) ?_
        refine .o1 (su rfl rfl rfl (fun _ _ _ k => k.eq1 13 20 rfl) (fun _ => rfl)) ?_
        refine .o1 (su rfl rfl rfl (fun _ _ _ k => k.eq1 13 20 rfl) (fun _ => rfl)) ?_
        refine .o1 (su rfl rfl rfl (fun _ _ _ k => k.eq1 13 20 rfl) (fun _ => rfl)) ?_
        refine .o1 (su rfl rfl rfl (fun _ _ _ k => k.eq1 13 20 rfl) (fun _ => rfl)) ?_
        refine .o1 (su rfl rfl rfl (fun _ _ _ k => k.eq1 13 20 rfl) (fun _ => rfl)) ?_
        refine .o1 (su rfl rfl rfl (fun _ _ _ k => k.eq1 13 20 rfl) (fun _ => rfl)) ?_
        refine .o1 (sk rfl rfl rfl (fun _ _ _ k => k.eq1 10 17 rfl) (fun _ => rfl)) ?_
        refine .o1 (tg rfl rfl rfl (fun _ _ k => k.eq1 2 9 rfl) fun _ w hn k => ⟨_, v_pickT rfl (k.eq1 10 17 rfl) rfl, rfl⟩) ?_
        refine .o1 (tk rfl rfl fun _ w hn k => ⟨_, v_pickT rfl (k.eq1 2 9 rfl) (k.eq1 22 29 rfl), rfl⟩) ?_
        refine .o1 (tk rfl rfl fun _ w hn k => ⟨_, v_assign rfl (k.eq1 23 30 rfl), rfl⟩) ?_
        exact .nil
      intro a55 w56 hn57 ha58
      have hs59 := ha58.size.trans hs19
      have hd60 := ha58.defers.trans hd20
      have h61 := ha58.ge 24 2 rfl
      have hN62 := hN24.transNew hn57
      clear hs19 hd20 h21 h22 hb23 hq12 hN24 ha58 hn57
      refine st_nil ?_
      refine hK25 _ _ ?_
      clear hK25 K25
      refine wp_ret (ret_k hd60 (v := .bool true) (res_t rfl h61 _) ?_)
      have hix : ((m.length : Int) - 1).toNat = m.length - 1 := by omega
      have q8 : decide (m.length ≤ 8) = true := decide_eq_true (by omega)
      have q0 : decide (m.length = 0) = true := decide_eq_true (by omega)
      have q1 : decide (0 < m.length) = false := decide_eq_false (by omega)
      refine ⟨?_, hN62⟩
      rw [show mayB b m = true from by unfold mayB; simp only [q8, q0, q1, ht28]; first | rfl | (exfalso; omega)]
    have ht27d := of_decide_eq_false ht27
    rcases Bool.eq_false_or_eq_true (decide ((m.length : Int) ≤ 0)) with ht63 | ht63
    · skip
      have ht63d := of_decide_eq_true ht63
      refine wp_g0 [true, true, true, true, true, true, true, true, true, true, true, true, true, true, true, true, true, true, true, true, true, true, true, true, true] [] 31
        [ve (iv (m.length : Int)),
         ve (.bool true),
         ve (.bool true),
         ve (iv (m.length : Int)),
         ve (.bool false),
         ve (.bool false),
         ve undef,
         ve undef,
         ve undef,
         ve (.bool false),
         ve (.bool false),
         ve (iv (m.length : Int)),
         ve (.bool false),
         ve (.bool false),
         ve undef,
         ve undef,
         ve undef,
         ve undef,
         ve undef,
         ve undef,
         ve undef,
         ve (.bool false),
         ve (.bool false),
         ve (.bool false),
         ve (.bool false)] hs19 (.eq (.eq (.eq (.eq (.eq (.eq (.eq (.eq (.eq (.eq (.eq (.eq (.eq (.eq (.eq (.eq (.eq (.eq (.eq (.eq (.eq (.eq (.eq (.eq (.eq (.nil)))))))))))))))))))))))))) ?_ ?_
      · skip
        refine .o1 (tk rfl rfl fun _ w hn k => ⟨_, v_move rfl (k.fx 3 h22), rfl⟩) ?_
        refine .o1 (tk rfl rfl fun _ w hn k => ⟨_, v_bin rfl (k.eq1 0 7 rfl) rfl (fun _ => rfl) (r_leqK ht26), rfl⟩) ?_
        refine .o1 (tk rfl rfl fun _ w hn k => ⟨_, v_move rfl (k.eq1 1 8 rfl), rfl⟩) ?_
        refine .o1 (tg rfl rfl rfl (fun _ _ k => k.eq1 2 9 rfl) fun _ w hn k => ⟨_, v_move rfl (k.fx 3 h22), rfl⟩) ?_
        refine .o1 (tg rfl rfl rfl (fun _ _ k => k.eq1 2 9 rfl) fun _ w hn k => ⟨_, v_bin rfl (k.eq1 3 10 rfl) rfl (fun _ => rfl) (r_eql ht27), rfl⟩) ?_
        refine .o1 (tg rfl rfl rfl (fun _ _ k => k.eq1 2 9 rfl) fun _ w hn k => ⟨_, v_move rfl (k.eq1 4 11 rfl), rfl⟩) ?_
        refine .o1 (sk rfl rfl rfl (fun _ _ _ k => k.eq1 5 12 rfl) (fun _ => rfl)) ?_
        refine .o1 (sk rfl rfl rfl (fun _ _ _ k => k.eq1 5 12 rfl) (fun _ => rfl)) ?_
        refine .o1 (sk rfl rfl rfl (fun _ _ _ k => k.eq1 5 12 rfl) (fun _ => rfl)) ?_
        refine .o1 (tg rfl rfl rfl (fun _ _ k => k.eq1 2 9 rfl) fun _ w hn k => ⟨_, v_pickF rfl (k.eq1 5 12 rfl) rfl, rfl⟩) ?_
        refine .o1 (tg rfl rfl rfl (fun _ _ k => k.eq1 2 9 rfl) fun _ w hn k => ⟨_, v_move rfl (k.eq1 9 16 rfl), rfl⟩) ?_
        refine .o1 (tg rfl rfl rfl (fun _ _ k => k.eq1 10 17 rfl) fun _ w hn k => ⟨_, v_move rfl (k.fx 3 h22), rfl⟩) ?_
        refine .o1 (tg rfl rfl rfl (fun _ _ k => k.eq1 10 17 rfl) fun _ w hn k => ⟨_, v_bin rfl (k.eq1 11 18 rfl) rfl (fun _ => rfl) (r_gtrK ht63), rfl⟩) ?_
        refine .o1 (tg rfl rfl rfl (fun _ _ k => k.eq1 10 17 rfl) fun _ w hn k => ⟨_, v_move rfl (k.eq1 12 19 rfl), rfl⟩) ?_
        refine .o1 (sk rfl rfl rfl (fun _ _ _ k => k.eq1 13 20 rfl) (fun _ => rfl)) ?_
        refine .o1 (sk rfl rfl rfl (fun _ _ _ k => k.eq1 13 20 rfl) (fun _ => rfl)) ?_
        refine .o1 (sk rfl rfl rfl (fun _ _ _ k => k.eq1 13 20 rfl) (fun _ => rfl)) ?_
        refine .o1 (sk rfl rfl rfl (fun _ _ _ k => k.eq1 13 20 rfl) (fun _ => rfl)) ?_
        refine .o1 (sk rfl rfl rfl (fun _ _ _ k => k.eq1 13 20 rfl) (fun _ => rfl)) ?_
        refine .o1 (sk rfl rfl rfl (fun _ _ _ k => k.eq1 13 20 rfl) (fun _ => rfl)) ?_
        refine .o1 (sk rfl rfl rfl (fun _ _ _ k => k.eq1 13 20 rfl) (fun _ => rfl)) ?_
        refine .o1 (tg rfl rfl rfl (fun _ _ k => k.eq1 10 17 rfl) fun _ w hn k => ⟨_, v_pickF rfl (k.eq1 13 20 rfl) rfl, rfl⟩) ?_
        refine .o1 (tg rfl rfl rfl (fun _ _ k => k.eq1 2 9 rfl) fun _ w hn k => ⟨_, v_pickF rfl (k.eq1 10 17 rfl) (k.eq1 21 28 rfl), rfl⟩) ?_
        refine .o1 (tk rfl rfl fun _ w hn k => ⟨_, v_pickT rfl (k.eq1 2 9 rfl) (k.eq1 22 29 rfl), rfl⟩) ?_
        refine .o1 (tk rfl rfl fun _ w hn k => ⟨_, v_assign rfl (k.eq1 23 30 rfl), rfl⟩) ?_
        exact .nil
      intro a64 w65 hn66 ha67
      have hs68 := ha67.size.trans hs19
      have hd69 := ha67.defers.trans hd20
      have h70 := ha67.ge 24 2 rfl
      have hN71 := hN24.transNew hn66
      clear hs19 hd20 h21 h22 hb23 hq12 hN24 ha67 hn66
      refine st_nil ?_
      refine hK25 _ _ ?_
      clear hK25 K25
      refine wp_ret (ret_k hd69 (v := .bool false) (res_t rfl h70 _) ?_)
      have hix : ((m.length : Int) - 1).toNat = m.length - 1 := by omega
      have q8 : decide (m.length ≤ 8) = true := decide_eq_true (by omega)
      have q0 : decide (m.length = 0) = false := decide_eq_false (by omega)
      have q1 : decide (0 < m.length) = true := decide_eq_true (by omega)
      refine ⟨?_, hN71⟩
      rw [show mayB b m = false from by unfold mayB; simp only [q8, q0, q1]; first | rfl | (exfalso; omega)]
    have ht63d := of_decide_eq_false ht63
    rcases Bool.eq_false_or_eq_true (decide (((m.getD (((m.length : Int) - 1 : Int).toNat) 0 : Nat) : Int) = 0)) with ht72 | ht72
    · skip
      have ht72d := of_decide_eq_true ht72
      refine wp_g0 [true, true, true, true, true, true, true, true, true, true, true, true, true, true, true, true, true, true, true, true, true, true, true, true, true] [] 31
        [ve (iv (m.length : Int)),
         ve (.bool true),
         ve (.bool true),
         ve (iv (m.length : Int)),
         ve (.bool false),
         ve (.bool false),
         ve undef,
         ve undef,
         ve undef,
         ve (.bool false),
         ve (.bool false),
         ve (iv (m.length : Int)),
         ve (.bool true),
         ve (.bool true),
         ve (.pointer (some ⟨q9, 1, none⟩)),
         ve (sv A m c),
         ve (iv (m.length : Int)),
         ve (iv ((m.length : Int) - 1)),
         (fun (v : Value) (W : World) => ∃ (b35 : Nat) (o36 : Nat), v = .pointer (some ⟨b35, o36, none⟩) ∧ SElem W b35 o36 (.int .u32 ((m.getD (((m.length : Int) - 1 : Int).toNat) 0 : Nat) : Int))),
         ve (.int .u32 ((m.getD (((m.length : Int) - 1 : Int).toNat) 0 : Nat) : Int)),
         ve (.bool false),
         ve (.bool false),
         ve (.bool false),
         ve (.bool false),
         ve (.bool false)] hs19 (.eq (.eq (.eq (.eq (.eq (.eq (.eq (.eq (.eq (.eq (.eq (.eq (.eq (.eq (.eq (.eq (.eq (.eq (.cons (fun v W W' hn ⟨b35, o36, he, h0⟩ => ⟨b35, o36, he, h0.new_ hn⟩) (.eq (.eq (.eq (.eq (.eq (.eq (.nil)))))))))))))))))))))))))) ?_ ?_
      · skip
        refine .o1 (tk rfl rfl fun _ w hn k => ⟨_, v_move rfl (k.fx 3 h22), rfl⟩) ?_
        refine .o1 (tk rfl rfl fun _ w hn k => ⟨_, v_bin rfl (k.eq1 0 7 rfl) rfl (fun _ => rfl) (r_leqK ht26), rfl⟩) ?_
        refine .o1 (tk rfl rfl fun _ w hn k => ⟨_, v_move rfl (k.eq1 1 8 rfl), rfl⟩) ?_
        refine .o1 (tg rfl rfl rfl (fun _ _ k => k.eq1 2 9 rfl) fun _ w hn k => ⟨_, v_move rfl (k.fx 3 h22), rfl⟩) ?_
        refine .o1 (tg rfl rfl rfl (fun _ _ k => k.eq1 2 9 rfl) fun _ w hn k => ⟨_, v_bin rfl (k.eq1 3 10 rfl) rfl (fun _ => rfl) (r_eql ht27), rfl⟩) ?_
        refine .o1 (tg rfl rfl rfl (fun _ _ k => k.eq1 2 9 rfl) fun _ w hn k => ⟨_, v_move rfl (k.eq1 4 11 rfl), rfl⟩) ?_
        refine .o1 (sk rfl rfl rfl (fun _ _ _ k => k.eq1 5 12 rfl) (fun _ => rfl)) ?_
        refine .o1 (sk rfl rfl rfl (fun _ _ _ k => k.eq1 5 12 rfl) (fun _ => rfl)) ?_
        refine .o1 (sk rfl rfl rfl (fun _ _ _ k => k.eq1 5 12 rfl) (fun _ => rfl)) ?_
        refine .o1 (tg rfl rfl rfl (fun _ _ k => k.eq1 2 9 rfl) fun _ w hn k => ⟨_, v_pickF rfl (k.eq1 5 12 rfl) rfl, rfl⟩) ?_
        refine .o1 (tg rfl rfl rfl (fun _ _ k => k.eq1 2 9 rfl) fun _ w hn k => ⟨_, v_move rfl (k.eq1 9 16 rfl), rfl⟩) ?_
        refine .o1 (tg rfl rfl rfl (fun _ _ k => k.eq1 10 17 rfl) fun _ w hn k => ⟨_, v_move rfl (k.fx 3 h22), rfl⟩) ?_
        refine .o1 (tg rfl rfl rfl (fun _ _ k => k.eq1 10 17 rfl) fun _ w hn k => ⟨_, v_bin rfl (k.eq1 11 18 rfl) rfl (fun _ => rfl) (r_gtrK ht63), rfl⟩) ?_
        refine .o1 (tg rfl rfl rfl (fun _ _ k => k.eq1 10 17 rfl) fun _ w hn k => ⟨_, v_move rfl (k.eq1 12 19 rfl), rfl⟩) ?_
        refine .o1 (tg rfl rfl rfl (fun _ _ k => k.eq1 13 20 rfl) fun _ w hn k => ⟨_, v_field rfl (k.fx 1 h21) (fun w => rfl), rfl⟩) ?_
        refine .o1 (tg rfl rfl rfl (fun _ _ k => k.eq1 13 20 rfl) fun _ w hn k => ⟨_, v_load rfl (k.eq1 14 21 rfl) (l_one Try.isAgg22 ((hb23.new_ hn).cell 1)), rfl⟩) ?_
        refine .o1 (tg rfl rfl rfl (fun _ _ k => k.eq1 13 20 rfl) fun _ w hn k => ⟨_, v_move rfl (k.fx 3 h22), rfl⟩) ?_
        refine .o1 (tg rfl rfl rfl (fun _ _ k => k.eq1 13 20 rfl) fun _ w hn k => ⟨_, v_bin rfl (k.eq1 16 23 rfl) rfl (fun _ => rfl) (r_sub rfl (by omega)), rfl⟩) ?_
        refine .o1 (tg rfl rfl rfl (fun _ _ k => k.eq1 13 20 rfl) fun _ w hn k => (by
              exact x_eaddr (k := .u32) rfl elW (k.eq1 15 22 rfl) (k.eq1 17 24 rfl) (hr.new_ (hN24.transNew hn)) (by omega) fun b33 o34 hme => ⟨b33, o34, rfl, hme⟩)) ?_
        refine .o1 (tg rfl rfl rfl (fun _ _ k => k.eq1 13 20 rfl) fun _ w hn k => (by
              obtain ⟨b37, o38, e39, hx40⟩ : (fun (v : Value) (W : World) => ∃ (b35 : Nat) (o36 : Nat), v = .pointer (some ⟨b35, o36, none⟩) ∧ SElem W b35 o36 (.int .u32 ((m.getD (((m.length : Int) - 1 : Int).toNat) 0 : Nat) : Int))) _ _ := k.dep 18 25 (by kernel_rfl) (by kernel_rfl)
              exact ⟨_, v_load rfl e39 (l_one Try.isAgg50 hx40.1), rfl⟩)) ?_
        refine .o1 (tg rfl rfl rfl (fun _ _ k => k.eq1 13 20 rfl) fun _ w hn k => ⟨_, v_bin rfl (k.eq1 19 26 rfl) rfl (fun _ => rfl) (r_neq ht72), rfl⟩) ?_
        refine .o1 (tg rfl rfl rfl (fun _ _ k => k.eq1 10 17 rfl) fun _ w hn k => ⟨_, v_pickT rfl (k.eq1 13 20 rfl) (k.eq1 20 27 rfl), rfl⟩) ?_
        refine .o1 (tg rfl rfl rfl (fun _ _ k => k.eq1 2 9 rfl) fun _ w hn k => ⟨_, v_pickF rfl (k.eq1 10 17 rfl) (k.eq1 21 28 rfl), rfl⟩) ?_
        refine .o1 (tk rfl rfl fun _ w hn k => ⟨_, v_pickT rfl (k.eq1 2 9 rfl) (k.eq1 22 29 rfl), rfl⟩) ?_
        refine .o1 (tk rfl rfl fun _ w hn k => ⟨_, v_assign rfl (k.eq1 23 30 rfl), rfl⟩) ?_
        exact .nil
      intro a73 w74 hn75 ha76
      have hs77 := ha76.size.trans hs19
      have hd78 := ha76.defers.trans hd20
      have h79 := ha76.ge 24 2 rfl
      have hN80 := hN24.transNew hn75
      clear hs19 hd20 h21 h22 hb23 hq12 hN24 ha76 hn75
      refine st_nil ?_
      refine hK25 _ _ ?_
      clear hK25 K25
      refine wp_ret (ret_k hd78 (v := .bool false) (res_t rfl h79 _) ?_)
      have hix : ((m.length : Int) - 1).toNat = m.length - 1 := by omega
      have q8 : decide (m.length ≤ 8) = true := decide_eq_true (by omega)
      have q0 : decide (m.length = 0) = false := decide_eq_false (by omega)
      have q1 : decide (0 < m.length) = true := decide_eq_true (by omega)
      rw [hix] at ht72d
      have q2 : decide (m.getD (m.length - 1) 0 ≠ 0) = false := decide_eq_false (by omega)
      refine ⟨?_, hN80⟩
      rw [show mayB b m = false from by unfold mayB; simp only [q8, q0, q1, q2]; first | rfl | (exfalso; omega)]
    have ht72d := of_decide_eq_false ht72
    refine wp_g0 [true, true, true, true, true, true, true, true, true, true, true, true, true, true, true, true, true, true, true, true, true, true, true, true, true] [] 31
      [ve (iv (m.length : Int)),
       ve (.bool true),
       ve (.bool true),
       ve (iv (m.length : Int)),
       ve (.bool false),
       ve (.bool false),
       ve undef,
       ve undef,
       ve undef,
       ve (.bool false),
       ve (.bool false),
       ve (iv (m.length : Int)),
       ve (.bool true),
       ve (.bool true),
       ve (.pointer (some ⟨q9, 1, none⟩)),
       ve (sv A m c),
       ve (iv (m.length : Int)),
       ve (iv ((m.length : Int) - 1)),
       (fun (v : Value) (W : World) => ∃ (b43 : Nat) (o44 : Nat), v = .pointer (some ⟨b43, o44, none⟩) ∧ SElem W b43 o44 (.int .u32 ((m.getD (((m.length : Int) - 1 : Int).toNat) 0 : Nat) : Int))),
       ve (.int .u32 ((m.getD (((m.length : Int) - 1 : Int).toNat) 0 : Nat) : Int)),
       ve (.bool true),
       ve (.bool true),
       ve (.bool true),
       ve (.bool true),
       ve (.bool true)] hs19 (.eq (.eq (.eq (.eq (.eq (.eq (.eq (.eq (.eq (.eq (.eq (.eq (.eq (.eq (.eq (.eq (.eq (.eq (.cons (fun v W W' hn ⟨b43, o44, he, h0⟩ => ⟨b43, o44, he, h0.new_ hn⟩) (.eq (.eq (.eq (.eq (.eq (.eq (.nil)))))))))))))))))))))))))) ?_ ?_
    · skip
      refine .o1 (tk rfl rfl fun _ w hn k => ⟨_, v_move rfl (k.fx 3 h22), rfl⟩) ?_
      refine .o1 (tk rfl rfl fun _ w hn k => ⟨_, v_bin rfl (k.eq1 0 7 rfl) rfl (fun _ => rfl) (r_leqK ht26), rfl⟩) ?_
      refine .o1 (tk rfl rfl fun _ w hn k => ⟨_, v_move rfl (k.eq1 1 8 rfl), rfl⟩) ?_
      refine .o1 (tg rfl rfl rfl (fun _ _ k => k.eq1 2 9 rfl) fun _ w hn k => ⟨_, v_move rfl (k.fx 3 h22), rfl⟩) ?_
      refine .o1 (tg rfl rfl rfl (fun _ _ k => k.eq1 2 9 rfl) fun _ w hn k => ⟨_, v_bin rfl (k.eq1 3 10 rfl) rfl (fun _ => rfl) (r_eql ht27), rfl⟩) ?_
      refine .o1 (tg rfl rfl rfl (fun _ _ k => k.eq1 2 9 rfl) fun _ w hn k => ⟨_, v_move rfl (k.eq1 4 11 rfl), rfl⟩) ?_
      refine .o1 (sk rfl rfl rfl (fun _ _ _ k => k.eq1 5 12 rfl) (fun _ => rfl)) ?_
      refine .o1 (sk rfl rfl rfl (fun _ _ _ k => k.eq1 5 12 rfl) (fun _ => rfl)) ?_
      refine .o1 (sk rfl rfl rfl (fun _ _ _ k => k.eq1 5 12 rfl) (fun _ => rfl)) ?_
      refine .o1 (tg rfl rfl rfl (fun _ _ k => k.eq1 2 9 rfl) fun _ w hn k => ⟨_, v_pickF rfl (k.eq1 5 12 rfl) rfl, rfl⟩) ?_
      refine .o1 (tg rfl rfl rfl (fun _ _ k => k.eq1 2 9 rfl) fun _ w hn k => ⟨_, v_move rfl (k.eq1 9 16 rfl), rfl⟩) ?_
      refine .o1 (tg rfl rfl rfl (fun _ _ k => k.eq1 10 17 rfl) fun _ w hn k => ⟨_, v_move rfl (k.fx 3 h22), rfl⟩) ?_
      refine .o1 (tg rfl rfl rfl (fun _ _ k => k.eq1 10 17 rfl) fun _ w hn k => ⟨_, v_bin rfl (k.eq1 11 18 rfl) rfl (fun _ => rfl) (r_gtrK ht63), rfl⟩) ?_
      refine .o1 (tg rfl rfl rfl (fun _ _ k => k.eq1 10 17 rfl) fun _ w hn k => ⟨_, v_move rfl (k.eq1 12 19 rfl), rfl⟩) ?_
      refine .o1 (tg rfl rfl rfl (fun _ _ k => k.eq1 13 20 rfl) fun _ w hn k => ⟨_, v_field rfl (k.fx 1 h21) (fun w => rfl), rfl⟩) ?_
      refine .o1 (tg rfl rfl rfl (fun _ _ k => k.eq1 13 20 rfl) fun _ w hn k => ⟨_, v_load rfl (k.eq1 14 21 rfl) (l_one Try.isAgg22 ((hb23.new_ hn).cell 1)), rfl⟩) ?_
      refine .o1 (tg rfl rfl rfl (fun _ _ k => k.eq1 13 20 rfl) fun _ w hn k => ⟨_, v_move rfl (k.fx 3 h22), rfl⟩) ?_
      refine .o1 (tg rfl rfl rfl (fun _ _ k => k.eq1 13 20 rfl) fun _ w hn k => ⟨_, v_bin rfl (k.eq1 16 23 rfl) rfl (fun _ => rfl) (r_sub rfl (by omega)), rfl⟩) ?_
      refine .o1 (tg rfl rfl rfl (fun _ _ k => k.eq1 13 20 rfl) fun _ w hn k => (by
            exact x_eaddr (k := .u32) rfl elW (k.eq1 15 22 rfl) (k.eq1 17 24 rfl) (hr.new_ (hN24.transNew hn)) (by omega) fun b41 o42 hme => ⟨b41, o42, rfl, hme⟩)) ?_
      refine .o1 (tg rfl rfl rfl (fun _ _ k => k.eq1 13 20 rfl) fun _ w hn k => (by
            obtain ⟨b45, o46, e47, hx48⟩ : (fun (v : Value) (W : World) => ∃ (b43 : Nat) (o44 : Nat), v = .pointer (some ⟨b43, o44, none⟩) ∧ SElem W b43 o44 (.int .u32 ((m.getD (((m.length : Int) - 1 : Int).toNat) 0 : Nat) : Int))) _ _ := k.dep 18 25 (by kernel_rfl) (by kernel_rfl)
            exact ⟨_, v_load rfl e47 (l_one Try.isAgg50 hx48.1), rfl⟩)) ?_
      refine .o1 (tg rfl rfl rfl (fun _ _ k => k.eq1 13 20 rfl) fun _ w hn k => ⟨_, v_bin rfl (k.eq1 19 26 rfl) rfl (fun _ => rfl) (r_neq ht72), rfl⟩) ?_
      refine .o1 (tg rfl rfl rfl (fun _ _ k => k.eq1 10 17 rfl) fun _ w hn k => ⟨_, v_pickT rfl (k.eq1 13 20 rfl) (k.eq1 20 27 rfl), rfl⟩) ?_
      refine .o1 (tg rfl rfl rfl (fun _ _ k => k.eq1 2 9 rfl) fun _ w hn k => ⟨_, v_pickF rfl (k.eq1 10 17 rfl) (k.eq1 21 28 rfl), rfl⟩) ?_
      refine .o1 (tk rfl rfl fun _ w hn k => ⟨_, v_pickT rfl (k.eq1 2 9 rfl) (k.eq1 22 29 rfl), rfl⟩) ?_
      refine .o1 (tk rfl rfl fun _ w hn k => ⟨_, v_assign rfl (k.eq1 23 30 rfl), rfl⟩) ?_
      exact .nil
    intro a81 w82 hn83 ha84
    have hs85 := ha84.size.trans hs19
    have hd86 := ha84.defers.trans hd20
    have h87 := ha84.ge 24 2 rfl
    have hN88 := hN24.transNew hn83
    clear hs19 hd20 h21 h22 hb23 hq12 hN24 ha84 hn83
    refine st_nil ?_
    refine hK25 _ _ ?_
    clear hK25 K25
    refine wp_ret (ret_k hd86 (v := .bool true) (res_t rfl h87 _) ?_)
    have hix : ((m.length : Int) - 1).toNat = m.length - 1 := by omega
    have q8 : decide (m.length ≤ 8) = true := decide_eq_true (by omega)
    have q0 : decide (m.length = 0) = false := decide_eq_false (by omega)
    have q1 : decide (0 < m.length) = true := decide_eq_true (by omega)
    rw [hix] at ht72d
    have q2 : decide (m.getD (m.length - 1) 0 ≠ 0) = true := decide_eq_true (by omega)
    refine ⟨?_, hN88⟩
    rw [show mayB b m = true from by unfold mayB; simp only [q8, q0, q1, q2]; first | rfl | (exfalso; omega)]
  have ht26d := of_decide_eq_false ht26
  refine wp_g0 [true, true, true, true, true, true, true, true, true, true, true, true, true, true, true, true, true, true, true, true, true, true, true, true, true] [] 31
    [ve (iv (m.length : Int)),
     ve (.bool false),
     ve (.bool false),
     ve undef,
     ve undef,
     ve undef,
     ve undef,
     ve undef,
     ve undef,
     ve undef,
     ve undef,
     ve undef,
     ve undef,
     ve undef,
     ve undef,
     ve undef,
     ve undef,
     ve undef,
     ve undef,
     ve undef,
     ve undef,
     ve undef,
     ve undef,
     ve (.bool false),
     ve (.bool false)] hs19 (.eq (.eq (.eq (.eq (.eq (.eq (.eq (.eq (.eq (.eq (.eq (.eq (.eq (.eq (.eq (.eq (.eq (.eq (.eq (.eq (.eq (.eq (.eq (.eq (.eq (.nil)))))))))))))))))))))))))) ?_ ?_
  · skip
    refine .o1 (tk rfl rfl fun _ w hn k => ⟨_, v_move rfl (k.fx 3 h22), rfl⟩) ?_
    refine .o1 (tk rfl rfl fun _ w hn k => ⟨_, v_bin rfl (k.eq1 0 7 rfl) rfl (fun _ => rfl) (r_leqK ht26), rfl⟩) ?_
    refine .o1 (tk rfl rfl fun _ w hn k => ⟨_, v_move rfl (k.eq1 1 8 rfl), rfl⟩) ?_
    refine .o1 (sk rfl rfl rfl (fun _ _ _ k => k.eq1 2 9 rfl) (fun _ => rfl)) ?_
    refine .o1 (sk rfl rfl rfl (fun _ _ _ k => k.eq1 2 9 rfl) (fun _ => rfl)) ?_
    refine .o1 (sk rfl rfl rfl (fun _ _ _ k => k.eq1 2 9 rfl) (fun _ => rfl)) ?_
    refine .o1 (su rfl rfl rfl (fun _ _ _ k => k.eq1 5 12 rfl) (fun _ => rfl)) ?_
    refine .o1 (su rfl rfl rfl (fun _ _ _ k => k.eq1 5 12 rfl) (fun _ => rfl)) ?_
    refine .o1 (su rfl rfl rfl (fun _ _ _ k => k.eq1 5 12 rfl) (fun _ => rfl)) ?_
    refine .o1 (sk rfl rfl rfl (fun _ _ _ k => k.eq1 2 9 rfl) (fun _ => rfl)) ?_
    refine .o1 (sk rfl rfl rfl (fun _ _ _ k => k.eq1 2 9 rfl) (fun _ => rfl)) ?_
    refine .o1 (su rfl rfl rfl (fun _ _ _ k => k.eq1 10 17 rfl) (fun _ => rfl)) ?_
    refine .o1 (su rfl rfl rfl (fun _ _ _ k => k.eq1 10 17 rfl) (fun _ => rfl)) ?_
    refine .o1 (su rfl rfl rfl (fun _ _ _ k => k.eq1 10 17 rfl) (fun _ => rfl)) ?_
    refine .o1 (su rfl rfl rfl (fun _ _ _ k => k.eq1 13 20 rfl) (fun _ => rfl)) ?_
    refine .o1 (su rfl rfl rfl (fun _ _ _ k => k.eq1 13 20 rfl) (fun _ => rfl)) ?_
    refine .o1 (su rfl rfl rfl (fun _ _ _ k => k.eq1 13 20 rfl) (fun _ => rfl)) ?_
    refine .o1 (su rfl rfl rfl (fun _ _ _ k => k.eq1 13 20 rfl) (fun _ => rfl)) ?_
    refine .o1 (su rfl rfl rfl (fun _ _ _ k => k.eq1 13 20 rfl) (fun _ => rfl)) ?_
    refine .o1 (su rfl rfl rfl (fun _ _ _ k => k.eq1 13 20 rfl) (fun _ => rfl)) ?_
    refine .o1 (su rfl rfl rfl (fun _ _ _ k => k.eq1 13 20 rfl) (fun _ => rfl)) ?_
    refine .o1 (su rfl rfl rfl (fun _ _ _ k => k.eq1 10 17 rfl) (fun _ => rfl)) ?_
    refine .o1 (sk rfl rfl rfl (fun _ _ _ k => k.eq1 2 9 rfl) (fun _ => rfl)) ?_
    refine .o1 (tk rfl rfl fun _ w hn k => ⟨_, v_pickF rfl (k.eq1 2 9 rfl) rfl, rfl⟩) ?_
    refine .o1 (tk rfl rfl fun _ w hn k => ⟨_, v_assign rfl (k.eq1 23 30 rfl), rfl⟩) ?_
    exact .nil
  intro a89 w90 hn91 ha92
  have hs93 := ha92.size.trans hs19
  have hd94 := ha92.defers.trans hd20
  have h95 := ha92.ge 24 2 rfl
  have hN96 := hN24.transNew hn91
  clear hs19 hd20 h21 h22 hb23 hq12 hN24 ha92 hn91
  refine st_nil ?_
  refine hK25 _ _ ?_
  clear hK25 K25
  refine wp_ret (ret_k hd94 (v := .bool false) (res_t rfl h95 _) ?_)
  have hix : ((m.length : Int) - 1).toNat = m.length - 1 := by omega
  have q8 : decide (m.length ≤ 8) = false := decide_eq_false (by omega)
  refine ⟨?_, hN96⟩
  rw [show mayB b m = false from by unfold mayB; simp only [q8]; first | rfl | (exfalso; omega)]
set_option maxHeartbeats 4000000 in
set_option maxRecDepth 100000 in
theorem rgood_c (b : Bool) (A : Option Addr) (m : List Nat) (c : Nat) (w : World) (hr : SRow w .u32 A m c) (hl : Limbs m) : Calls Try.prog 61 #[.agg #[.bool b, sv A m c]] w (RetZ (goodI b m) w) := by
  refine enter_abs Try.func61 rfl fun a0 hs0 hd0 hp => ?_
  have hs0 : a0.tmps.size = 7 := hs0
  have hN0 : New w w := Upd.refl _ _
  have hp0 : a0.eval (.tmp 0) = .agg #[.bool b, sv A m c] := hp 0 _ rfl
  clear hp
  refine wp_seq_k fun K1 hK1 => ?_
  refine wp_g [true, true] [] [] 7
    [IsNew w 24 [.bool b, sv A m c],
     IsNew w 24 [.bool false, sv none ([]) 0]]
    [0, 1] (newsCons (fun v w h => IsNew.old h) (newsCons (fun v w h => IsNew.old h) newsNil)) hs0 (.nw (.nw (.nil))) ?_ (fun i h => by cases h) ?_
  · skip
    refine .o2 (step_allocN (cs := [.bool b, sv A m c]) (t := 24) rfl (noG rfl) (fun _ w hn k => v_box rfl (k.fx 0 hp0) (fun w => rfl)) (fun q _ hq hb => ⟨q, rfl, hq, hb⟩)) ?_
    refine .o2 (step_allocN (cs := [.bool false, sv none ([]) 0]) (t := 24) rfl (noG rfl) (fun _ w hn k => rfl) (fun q _ hq hb => ⟨q, rfl, hq, hb⟩)) ?_
    exact .nil
  intro a2 w3 hn4 ha5
  have hs6 := ha5.size.trans hs0
  have hd7 := ha5.defers.trans hd0
  obtain ⟨q9, h8, hq10, hb11⟩ : IsNew _ _ _ _ _ := ha5.got 0 1 rfl (by kernel_rfl)
  obtain ⟨q13, h12, hq14, hb15⟩ : IsNew _ _ _ _ _ := ha5.got 1 2 rfl (by kernel_rfl)
  have hne16 : q9 ≠ q13 := ha5.ne 0 1 1 2 h8 h12
  have hq17 := Nat.le_trans hN0.size hq10
  have hq18 := Nat.le_trans hN0.size hq14
  have hN19 := hN0.transNew hn4
  clear hs0 hd0 hp0 hq10 hq14 hN0 ha5 hn4
  refine st_nil ?_
  refine hK1 _ _ ?_
  clear hK1 K1
  refine wp_seq_k fun K20 hK20 => ?_
  refine wp_seq_k fun K21 hK21 => ?_
  refine wp_g0 [true, true] [] 7
    [ve (.agg #[.bool b, sv A m c]),
     ve (.bool (mayB b m))] hs6 (.eq (.eq (.nil))) ?_ ?_
  · skip
    refine .o1 (tk rfl rfl fun _ w hn k => ⟨_, v_load rfl (k.fx 1 h8) (l_two Try.isAgg24 Try.sizeOf24 (hb11.new_ hn)), rfl⟩) ?_
    refine .o1 (ck rfl rfl rfl (fun _ w hn k => ⟨#[.agg #[.bool b, sv A m c]], args1 (k.eq1 0 3 rfl), fun _ => by kernel_rfl, rmay_c _ _ _ _ _ (hr.new_ (hN19.transNew hn))⟩) fun _ => rfl) ?_
    exact .nil
  intro a22 w23 hn24 ha25
  have hs26 := ha25.size.trans hs6
  have hd27 := ha25.defers.trans hd7
  have h28 := ha25.fx 1 h8
  have h29 := ha25.fx 2 h12
  have h30 := ha25.ge 1 4 rfl
  have hb31 := hb11.new_ hn24
  have hb32 := hb15.new_ hn24
  have hN33 := hN19.transNew hn24
  clear hs6 hd7 h8 h12 hb11 hb15 hN19 ha25 hn24
  refine st_nil ?_
  refine hK21 _ _ ?_
  clear hK21 K21
  rcases Bool.eq_false_or_eq_true (mayB b m) with ht34 | ht34
  · skip
    have hv35 : a22.eval (.tmp 4) = .bool true := h30.trans (congrArg Value.bool ht34)
    clear h30
    refine wp_cond_true hv35 ?_
    refine wp_seq_k fun K36 hK36 => ?_
    refine wp_g0 [true, false] [(1, false)] 7
      [ve (.agg #[.bool b, sv A m c]),
       vt] hs26 (.eq (.tt (.nil))) ?_ ?_
    · skip
      refine .o1 (tk rfl rfl fun _ w hn k => ⟨_, v_load rfl (k.fx 1 h28) (l_two Try.isAgg24 Try.sizeOf24 (hb31.new_ hn)), rfl⟩) ?_
      refine .off ?_
      exact .nil
    intro a37 w38 hn39 ha40
    have hs41 := ha40.size.trans hs26
    have hd42 := ha40.defers.trans hd27
    have h43 := ha40.fx 2 h29
    have h44 := ha40.ge 0 5 rfl
    have hb45 := hb32.new_ hn39
    have hN46 := hN33.transNew hn39
    clear hs26 hd27 h28 h29 hv35 hb31 hq17 hb32 hN33 ha40 hn39
    obtain ⟨w47, -, hst48, hb49, hu50, hf51⟩ := s_two (v0 := .bool b) (v1 := sv A m c) Try.sizeOf24 rfl rfl rfl hb45
    refine st_act rfl rfl fun K52 hL53 => a_store' rfl h43 h44 hst48 (hL53 _ _ trivial ?_)
    have hN54 := hN46.trans hu50 (fun k hk hkb => by subst hkb; omega)
    clear hb45 hst48 K52 hL53 hN46 hu50 hf51
    refine st_nil ?_
    clear h44
    refine hK36 _ _ ?_
    clear hK36 K36
    refine wp_ret (ret_k hd42 (v := .agg #[.bool b, sv A m c]) (res_c rfl h43 (l_two Try.isAgg24 Try.sizeOf24 hb49)) ?_)
    have hz1 : (decide (goodI b m < 0)) = b := by rw [neg_good hl, ht34]; rfl
    have hz2 : canon (goodI b m).natAbs = m := by rw [canon_good hl, ht34]; rfl
    exact ⟨A, c, by rw [hz1, hz2], by rw [hz2]; exact (hr.new_ hN54), hN54⟩
  have hv55 : a22.eval (.tmp 4) = .bool false := h30.trans (congrArg Value.bool ht34)
  clear h30
  refine wp_cond_false hv55 ?_
  refine wp_skip ?_
  refine hK20 _ _ ?_
  clear hK20 K20
  refine wp_seq_k fun K56 hK56 => ?_
  refine wp_g0 [true, false] [(1, false)] 7
    [ve (.agg #[.bool false, sv none ([]) 0]),
     vt] hs26 (.eq (.tt (.nil))) ?_ ?_
  · skip
    refine .o1 (tk rfl rfl fun _ w hn k => ⟨_, v_build (ps := []) rfl parts0 (by kernel_rfl), rfl⟩) ?_
    refine .off ?_
    exact .nil
  intro a57 w58 hn59 ha60
  have hs61 := ha60.size.trans hs26
  have hd62 := ha60.defers.trans hd27
  have h63 := ha60.fx 2 h29
  have h64 := ha60.ge 0 6 rfl
  have hb65 := hb32.new_ hn59
  have hN66 := hN33.transNew hn59
  clear hs26 hd27 h28 h29 hv55 hb31 hq17 hb32 hN33 ha60 hn59
  obtain ⟨w67, -, hst68, hb69, hu70, hf71⟩ := s_two (v0 := .bool false) (v1 := sv none ([]) 0) Try.sizeOf24 rfl rfl rfl hb65
  refine st_act rfl rfl fun K72 hL73 => a_store' rfl h63 h64 hst68 (hL73 _ _ trivial ?_)
  have hN74 := hN66.trans hu70 (fun k hk hkb => by subst hkb; omega)
  clear hb65 hst68 K72 hL73 hN66 hu70 hf71
  refine st_nil ?_
  clear h64
  refine hK56 _ _ ?_
  clear hK56 K56
  refine wp_ret (ret_k hd62 (v := .agg #[.bool false, sv none ([]) 0]) (res_c rfl h63 (l_two Try.isAgg24 Try.sizeOf24 hb69)) ?_)
  have hz1 : (decide (goodI b m < 0)) = false := by rw [neg_good hl, ht34]; rfl
  have hz2 : canon (goodI b m).natAbs = [] := by rw [canon_good hl, ht34]; rfl
  exact ⟨none, 0, by rw [hz1, hz2], by rw [hz2]; exact (SRow.nil _ _), hN74⟩
set_option maxHeartbeats 4000000 in
set_option maxRecDepth 100000 in
theorem rmade_c (d : Bool) (A : Option Addr) (m : List Nat) (c : Nat) (w : World) (hr : SRow w .u32 A m c) (hl : Limbs m) (hs : m.length ≤ 1000000) : Calls Try.prog 57 #[.bool d, sv A m c] w (RetZ (sgn d (val m)) w) := by
  refine enter_abs Try.func57 rfl fun a0 hs0 hd0 hp => ?_
  have hs0 : a0.tmps.size = 16 := hs0
  have hN0 : New w w := Upd.refl _ _
  have hp0 : a0.eval (.tmp 0) = .bool d := hp 0 _ rfl
  have hp1 : a0.eval (.tmp 1) = sv A m c := hp 1 _ rfl
  clear hp
  refine wp_seq_k fun K1 hK1 => ?_
  refine wp_g [true] [] [] 16
    [IsNew w 24 [.bool false, sv none ([]) 0]]
    [0] (newsCons (fun v w h => IsNew.old h) newsNil) hs0 (.nw (.nil)) ?_ (fun i h => by cases h) ?_
  · skip
    refine .o2 (step_allocN (cs := [.bool false, sv none ([]) 0]) (t := 24) rfl (noG rfl) (fun _ w hn k => rfl) (fun q _ hq hb => ⟨q, rfl, hq, hb⟩)) ?_
    exact .nil
  intro a2 w3 hn4 ha5
  have hs6 := ha5.size.trans hs0
  have hd7 := ha5.defers.trans hd0
  have h8 := ha5.fx 0 hp0
  have h9 := ha5.fx 1 hp1
  obtain ⟨q11, h10, hq12, hb13⟩ : IsNew _ _ _ _ _ := ha5.got 0 4 rfl (by kernel_rfl)
  have hq14 := Nat.le_trans hN0.size hq12
  have hN15 := hN0.transNew hn4
  clear hs0 hd0 hp0 hp1 hq12 hN0 ha5 hn4
  refine st_nil ?_
  refine hK1 _ _ ?_
  clear hK1 K1
  refine wp_seq_k fun K16 hK16 => ?_
  refine wp_g0 [true, true, true] [] 16
    [ve (sv A m c),
     (fun (v : Value) (W : World) => ∃ (A3 : Option Addr) (c4 : Nat), v = sv A3 (canon (val m)) c4 ∧ SOwn W w3.heap.size 50 .u32 A3 (canon (val m)) c4),
     (fun (v : Value) (W : World) => ∃ (A9 : Option Addr) (c10 : Nat), v = sv A9 (canon (val m)) c10 ∧ SOwn W w3.heap.size 50 .u32 A9 (canon (val m)) c10)] hs6 (.eq (.cons (fun v W W' hn ⟨A3, c4, he, h0⟩ => ⟨A3, c4, he, h0.new_ hn⟩) (.cons (fun v W W' hn ⟨A9, c10, he, h0⟩ => ⟨A9, c10, he, h0.new_ hn⟩) (.nil)))) ?_ ?_
  · skip
    refine .o1 (tk rfl rfl fun _ w hn k => ⟨_, v_move rfl (k.fx 1 h9), rfl⟩) ?_
    refine .o1 (tkC rfl (noG rfl) rfl fun _ w hn k => (by
          refine ⟨#[sv A m c], _, args1 (k.eq1 0 6 rfl), fun w => by kernel_rfl, rtrim_c _ _ _ _ (hr.new_ (hN15.transNew hn)) hl (by first | omega | (simp only [List.length_nil, List.length_cons, List.length_set, List.length_replicate]; omega)), ?_⟩
          rintro e w' ⟨A1, c2, rfl, hmo, hm⟩
          exact ⟨_, rfl, hm, ⟨A1, c2, rfl, (hmo.more hn.size)⟩⟩)) ?_
    refine .o1 (tk rfl rfl fun _ w hn k => (by
          obtain ⟨A5, c6, e7, hx8⟩ : (fun (v : Value) (W : World) => ∃ (A3 : Option Addr) (c4 : Nat), v = sv A3 (canon (val m)) c4 ∧ SOwn W w3.heap.size 50 .u32 A3 (canon (val m)) c4) _ _ := k.dep 1 7 (by kernel_rfl) (by kernel_rfl)
          exact ⟨_, v_assign rfl e7, ⟨A5, c6, rfl, hx8⟩⟩)) ?_
    exact .nil
  intro a17 w18 hn19 ha20
  have hs21 := ha20.size.trans hs6
  have hd22 := ha20.defers.trans hd7
  have h23 := ha20.fx 0 h8
  have h24 := ha20.fx 4 h10
  obtain ⟨A26, cc27, h25, hr28⟩ : (fun (v : Value) (W : World) => ∃ (A9 : Option Addr) (c10 : Nat), v = sv A9 (canon (val m)) c10 ∧ SOwn W w3.heap.size 50 .u32 A9 (canon (val m)) c10) _ _ := ha20.got 2 5 rfl (by kernel_rfl)
  have h25 : a17.eval (.tmp 5) = sv A26 (canon (val m)) cc27 := h25
  have hb29 := hb13.new_ hn19
  have hr30 := hr28.more hN15.size
  have hN31 := hN15.transNew hn19
  clear hs6 hd7 h8 h9 h10 hb13 hr28 hN15 ha20 hn19
  refine st_nil ?_
  refine hK16 _ _ ?_
  clear hK16 K16
  refine wp_seq_k fun K32 hK32 => ?_
  rcases Bool.eq_false_or_eq_true (d) with ht33 | ht33
  · skip
    have hv34 : a17.eval (.tmp 0) = .bool true := h23.trans (congrArg Value.bool ht33)
    clear h23
    rcases Bool.eq_false_or_eq_true (decide (((canon (val m)).length : Int) ≤ 0)) with ht35 | ht35
    · skip
      have ht35d := of_decide_eq_true ht35
      refine wp_g0 [true, true, true, true, true, true, true, true, false] [(8, false)] 16
        [ve (.bool true),
         ve (.bool true),
         ve (sv A26 (canon (val m)) cc27),
         ve (iv ((canon (val m)).length : Int)),
         ve (.bool false),
         ve (.bool false),
         ve (sv A26 (canon (val m)) cc27),
         ve (.agg #[.bool false, sv A26 (canon (val m)) cc27]),
         vt] hs21 (.eq (.eq (.eq (.eq (.eq (.eq (.eq (.eq (.tt (.nil)))))))))) ?_ ?_
      · skip
        refine .o1 (tk rfl rfl fun _ w hn k => ⟨_, v_move rfl (k.fx 0 hv34), rfl⟩) ?_
        refine .o1 (tk rfl rfl fun _ w hn k => ⟨_, v_move rfl (k.eq1 0 8 rfl), rfl⟩) ?_
        refine .o1 (tg rfl rfl rfl (fun _ _ k => k.eq1 1 9 rfl) fun _ w hn k => ⟨_, v_move rfl (k.fx 5 h25), rfl⟩) ?_
        refine .o1 (tg rfl rfl rfl (fun _ _ k => k.eq1 1 9 rfl) fun _ w hn k => ⟨_, v_lenR rfl elW (k.eq1 2 10 rfl), rfl⟩) ?_
        refine .o1 (tg rfl rfl rfl (fun _ _ k => k.eq1 1 9 rfl) fun _ w hn k => ⟨_, v_bin rfl (k.eq1 3 11 rfl) rfl (fun _ => rfl) (r_gtrK ht35), rfl⟩) ?_
        refine .o1 (tk rfl rfl fun _ w hn k => ⟨_, v_pickT rfl (k.eq1 1 9 rfl) (k.eq1 4 12 rfl), rfl⟩) ?_
        refine .o1 (tk rfl rfl fun _ w hn k => ⟨_, v_move rfl (k.fx 5 h25), rfl⟩) ?_
        refine .o1 (tk rfl rfl fun _ w hn k => ⟨_, v_build (ps := [(0, .bool false), (1, sv A26 (canon (val m)) cc27)]) rfl (parts2 (k.eq1 5 13 rfl) (k.eq1 6 14 rfl)) (by kernel_rfl), rfl⟩) ?_
        refine .off ?_
        exact .nil
      intro a36 w37 hn38 ha39
      have hs40 := ha39.size.trans hs21
      have hd41 := ha39.defers.trans hd22
      have h42 := ha39.fx 4 h24
      have h43 := ha39.ge 7 15 rfl
      have hb44 := hb29.new_ hn38
      have hr45 := hr30.new_ hn38
      have hN46 := hN31.transNew hn38
      clear hs21 hd22 hv34 h24 h25 hb29 hr30 hN31 ha39 hn38
      obtain ⟨w47, -, hst48, hb49, hu50, hf51⟩ := s_two (v0 := .bool false) (v1 := sv A26 (canon (val m)) cc27) Try.sizeOf24 rfl rfl rfl hb44
      refine st_act rfl rfl fun K52 hL53 => a_store' rfl h42 h43 hst48 (hL53 _ _ trivial ?_)
      have hr54 := hr45.far hb44 hu50 (by decide)
      have hN55 := hN46.trans hu50 (fun k hk hkb => by subst hkb; omega)
      clear hb44 hst48 K52 hL53 hN46 hr45 hu50 hf51
      refine st_nil ?_
      clear h43
      refine hK32 _ _ ?_
      clear hK32 K32
      refine wp_ret (ret_k hd41 (v := .agg #[.bool false, sv A26 (canon (val m)) cc27]) (res_c rfl h42 (l_two Try.isAgg24 Try.sizeOf24 hb49)) ?_)
      have hz1 : (decide (sgn d (val m) < 0)) = false := made_b2 ht35
      have hz2 : canon (sgn d (val m)).natAbs = (canon (val m)) := by rw [natAbs_sgn]
      exact ⟨A26, cc27, by rw [hz1, hz2], by rw [hz2]; exact hr54.row, hN55⟩
    have ht35d := of_decide_eq_false ht35
    refine wp_g0 [true, true, true, true, true, true, true, true, false] [(8, false)] 16
      [ve (.bool true),
       ve (.bool true),
       ve (sv A26 (canon (val m)) cc27),
       ve (iv ((canon (val m)).length : Int)),
       ve (.bool true),
       ve (.bool true),
       ve (sv A26 (canon (val m)) cc27),
       ve (.agg #[.bool true, sv A26 (canon (val m)) cc27]),
       vt] hs21 (.eq (.eq (.eq (.eq (.eq (.eq (.eq (.eq (.tt (.nil)))))))))) ?_ ?_
    · skip
      refine .o1 (tk rfl rfl fun _ w hn k => ⟨_, v_move rfl (k.fx 0 hv34), rfl⟩) ?_
      refine .o1 (tk rfl rfl fun _ w hn k => ⟨_, v_move rfl (k.eq1 0 8 rfl), rfl⟩) ?_
      refine .o1 (tg rfl rfl rfl (fun _ _ k => k.eq1 1 9 rfl) fun _ w hn k => ⟨_, v_move rfl (k.fx 5 h25), rfl⟩) ?_
      refine .o1 (tg rfl rfl rfl (fun _ _ k => k.eq1 1 9 rfl) fun _ w hn k => ⟨_, v_lenR rfl elW (k.eq1 2 10 rfl), rfl⟩) ?_
      refine .o1 (tg rfl rfl rfl (fun _ _ k => k.eq1 1 9 rfl) fun _ w hn k => ⟨_, v_bin rfl (k.eq1 3 11 rfl) rfl (fun _ => rfl) (r_gtrK ht35), rfl⟩) ?_
      refine .o1 (tk rfl rfl fun _ w hn k => ⟨_, v_pickT rfl (k.eq1 1 9 rfl) (k.eq1 4 12 rfl), rfl⟩) ?_
      refine .o1 (tk rfl rfl fun _ w hn k => ⟨_, v_move rfl (k.fx 5 h25), rfl⟩) ?_
      refine .o1 (tk rfl rfl fun _ w hn k => ⟨_, v_build (ps := [(0, .bool true), (1, sv A26 (canon (val m)) cc27)]) rfl (parts2 (k.eq1 5 13 rfl) (k.eq1 6 14 rfl)) (by kernel_rfl), rfl⟩) ?_
      refine .off ?_
      exact .nil
    intro a56 w57 hn58 ha59
    have hs60 := ha59.size.trans hs21
    have hd61 := ha59.defers.trans hd22
    have h62 := ha59.fx 4 h24
    have h63 := ha59.ge 7 15 rfl
    have hb64 := hb29.new_ hn58
    have hr65 := hr30.new_ hn58
    have hN66 := hN31.transNew hn58
    clear hs21 hd22 hv34 h24 h25 hb29 hr30 hN31 ha59 hn58
    obtain ⟨w67, -, hst68, hb69, hu70, hf71⟩ := s_two (v0 := .bool true) (v1 := sv A26 (canon (val m)) cc27) Try.sizeOf24 rfl rfl rfl hb64
    refine st_act rfl rfl fun K72 hL73 => a_store' rfl h62 h63 hst68 (hL73 _ _ trivial ?_)
    have hr74 := hr65.far hb64 hu70 (by decide)
    have hN75 := hN66.trans hu70 (fun k hk hkb => by subst hkb; omega)
    clear hb64 hst68 K72 hL73 hN66 hr65 hu70 hf71
    refine st_nil ?_
    clear h63
    refine hK32 _ _ ?_
    clear hK32 K32
    refine wp_ret (ret_k hd61 (v := .agg #[.bool true, sv A26 (canon (val m)) cc27]) (res_c rfl h62 (l_two Try.isAgg24 Try.sizeOf24 hb69)) ?_)
    have hz1 : (decide (sgn d (val m) < 0)) = true := made_b3 ht33 ht35
    have hz2 : canon (sgn d (val m)).natAbs = (canon (val m)) := by rw [natAbs_sgn]
    exact ⟨A26, cc27, by rw [hz1, hz2], by rw [hz2]; exact hr74.row, hN75⟩
  have hv76 : a17.eval (.tmp 0) = .bool false := h23.trans (congrArg Value.bool ht33)
  clear h23
  refine wp_g0 [true, true, true, true, true, true, true, true, false] [(8, false)] 16
    [ve (.bool false),
     ve (.bool false),
     ve undef,
     ve undef,
     ve undef,
     ve (.bool false),
     ve (sv A26 (canon (val m)) cc27),
     ve (.agg #[.bool false, sv A26 (canon (val m)) cc27]),
     vt] hs21 (.eq (.eq (.eq (.eq (.eq (.eq (.eq (.eq (.tt (.nil)))))))))) ?_ ?_
  · skip
    refine .o1 (tk rfl rfl fun _ w hn k => ⟨_, v_move rfl (k.fx 0 hv76), rfl⟩) ?_
    refine .o1 (tk rfl rfl fun _ w hn k => ⟨_, v_move rfl (k.eq1 0 8 rfl), rfl⟩) ?_
    refine .o1 (sk rfl rfl rfl (fun _ _ _ k => k.eq1 1 9 rfl) (fun _ => rfl)) ?_
    refine .o1 (sk rfl rfl rfl (fun _ _ _ k => k.eq1 1 9 rfl) (fun _ => rfl)) ?_
    refine .o1 (sk rfl rfl rfl (fun _ _ _ k => k.eq1 1 9 rfl) (fun _ => rfl)) ?_
    refine .o1 (tk rfl rfl fun _ w hn k => ⟨_, v_pickF rfl (k.eq1 1 9 rfl) rfl, rfl⟩) ?_
    refine .o1 (tk rfl rfl fun _ w hn k => ⟨_, v_move rfl (k.fx 5 h25), rfl⟩) ?_
    refine .o1 (tk rfl rfl fun _ w hn k => ⟨_, v_build (ps := [(0, .bool false), (1, sv A26 (canon (val m)) cc27)]) rfl (parts2 (k.eq1 5 13 rfl) (k.eq1 6 14 rfl)) (by kernel_rfl), rfl⟩) ?_
    refine .off ?_
    exact .nil
  intro a77 w78 hn79 ha80
  have hs81 := ha80.size.trans hs21
  have hd82 := ha80.defers.trans hd22
  have h83 := ha80.fx 4 h24
  have h84 := ha80.ge 7 15 rfl
  have hb85 := hb29.new_ hn79
  have hr86 := hr30.new_ hn79
  have hN87 := hN31.transNew hn79
  clear hs21 hd22 hv76 h24 h25 hb29 hr30 hN31 ha80 hn79
  obtain ⟨w88, -, hst89, hb90, hu91, hf92⟩ := s_two (v0 := .bool false) (v1 := sv A26 (canon (val m)) cc27) Try.sizeOf24 rfl rfl rfl hb85
  refine st_act rfl rfl fun K93 hL94 => a_store' rfl h83 h84 hst89 (hL94 _ _ trivial ?_)
  have hr95 := hr86.far hb85 hu91 (by decide)
  have hN96 := hN87.trans hu91 (fun k hk hkb => by subst hkb; omega)
  clear hb85 hst89 K93 hL94 hN87 hr86 hu91 hf92
  refine st_nil ?_
  clear h84
  refine hK32 _ _ ?_
  clear hK32 K32
  refine wp_ret (ret_k hd82 (v := .agg #[.bool false, sv A26 (canon (val m)) cc27]) (res_c rfl h83 (l_two Try.isAgg24 Try.sizeOf24 hb90)) ?_)
  have hz1 : (decide (sgn d (val m) < 0)) = false := made_b1 ht33
  have hz2 : canon (sgn d (val m)).natAbs = (canon (val m)) := by rw [natAbs_sgn]
  exact ⟨A26, cc27, by rw [hz1, hz2], by rw [hz2]; exact hr95.row, hN96⟩
set_option maxHeartbeats 4000000 in
set_option maxRecDepth 100000 in
theorem rfits_c (z : Int) (A : Option Addr) (c : Nat) (w : World) (hr : SRow w .u32 A (canon z.natAbs) c) : Calls Try.prog 75 #[.agg #[.bool (decide (z < 0)), sv A (canon z.natAbs) c]] w (RetZB (capI z) (okI z) w) := by
  refine enter_abs Try.func75 rfl fun a0 hs0 hd0 hp => ?_
  have hs0 : a0.tmps.size = 10 := hs0
  have hN0 : New w w := Upd.refl _ _
  have hp0 : a0.eval (.tmp 0) = .agg #[.bool (decide (z < 0)), sv A (canon z.natAbs) c] := hp 0 _ rfl
  clear hp
  refine wp_seq_k fun K1 hK1 => ?_
  refine wp_g [true, true, true] [] [] 10
    [IsNew w 24 [.bool (decide (z < 0)), sv A (canon z.natAbs) c],
     IsNew w 24 [.bool false, sv none ([]) 0],
     ve (.bool false)]
    [0, 1] (newsCons (fun v w h => IsNew.old h) (newsCons (fun v w h => IsNew.old h) newsNil)) hs0 (.nw (.nw (.eq (.nil)))) ?_ (fun i h => by cases h) ?_
  · skip
    refine .o2 (step_allocN (cs := [.bool (decide (z < 0)), sv A (canon z.natAbs) c]) (t := 24) rfl (noG rfl) (fun _ w hn k => v_box rfl (k.fx 0 hp0) (fun w => rfl)) (fun q _ hq hb => ⟨q, rfl, hq, hb⟩)) ?_
    refine .o2 (step_allocN (cs := [.bool false, sv none ([]) 0]) (t := 24) rfl (noG rfl) (fun _ w hn k => rfl) (fun q _ hq hb => ⟨q, rfl, hq, hb⟩)) ?_
    refine .o1 (tk rfl rfl fun _ w hn k => ⟨_, v_assign rfl rfl, rfl⟩) ?_
    exact .nil
  intro a2 w3 hn4 ha5
  have hs6 := ha5.size.trans hs0
  have hd7 := ha5.defers.trans hd0
  obtain ⟨q9, h8, hq10, hb11⟩ : IsNew _ _ _ _ _ := ha5.got 0 1 rfl (by kernel_rfl)
  obtain ⟨q13, h12, hq14, hb15⟩ : IsNew _ _ _ _ _ := ha5.got 1 2 rfl (by kernel_rfl)
  have hne16 : q9 ≠ q13 := ha5.ne 0 1 1 2 h8 h12
  have hq17 := Nat.le_trans hN0.size hq10
  have hq18 := Nat.le_trans hN0.size hq14
  have hN19 := hN0.transNew hn4
  clear hs0 hd0 hp0 hq10 hq14 hN0 ha5 hn4
  refine st_nil ?_
  refine hK1 _ _ ?_
  clear hK1 K1
  refine wp_seq_k fun K20 hK20 => ?_
  refine wp_seq_k fun K21 hK21 => ?_
  rcases Bool.eq_false_or_eq_true (decide (((canon z.natAbs).length : Int) ≤ 8)) with ht22 | ht22
  · skip
    have ht22d := of_decide_eq_true ht22
    refine wp_g0 [true, true, true, true] [] 10
      [ve (.pointer (some ⟨q9, 1, none⟩)),
       ve (sv A (canon z.natAbs) c),
       ve (iv ((canon z.natAbs).length : Int)),
       ve (.bool false)] hs6 (.eq (.eq (.eq (.eq (.nil))))) ?_ ?_
    · skip
      refine .o1 (tk rfl rfl fun _ w hn k => ⟨_, v_field rfl (k.fx 1 h8) (fun w => rfl), rfl⟩) ?_
      refine .o1 (tk rfl rfl fun _ w hn k => ⟨_, v_load rfl (k.eq1 0 4 rfl) (l_one Try.isAgg22 ((hb11.new_ hn).cell 1)), rfl⟩) ?_
      refine .o1 (tk rfl rfl fun _ w hn k => ⟨_, v_lenR rfl elW (k.eq1 1 5 rfl), rfl⟩) ?_
      refine .o1 (tk rfl rfl fun _ w hn k => ⟨_, v_bin rfl (k.eq1 2 6 rfl) rfl (fun _ => rfl) (r_gtrK ht22), rfl⟩) ?_
      exact .nil
    intro a23 w24 hn25 ha26
    have hs27 := ha26.size.trans hs6
    have hd28 := ha26.defers.trans hd7
    have h29 := ha26.fx 1 h8
    have h30 := ha26.fx 2 h12
    have h31 := ha26.ge 3 7 rfl
    have hb32 := hb11.new_ hn25
    have hb33 := hb15.new_ hn25
    have hN34 := hN19.transNew hn25
    clear hs6 hd7 h8 h12 hb11 hb15 hN19 ha26 hn25
    refine st_nil ?_
    refine hK21 _ _ ?_
    clear hK21 K21
    refine wp_cond_false h31 ?_
    refine wp_skip ?_
    refine hK20 _ _ ?_
    clear hK20 K20
    refine wp_seq_k fun K35 hK35 => ?_
    refine wp_g0 [true, false, false] [(1, false), (2, true)] 10
      [ve (.agg #[.bool (decide (z < 0)), sv A (canon z.natAbs) c]),
       vt,
       vt] hs27 (.eq (.tt (.tt (.nil)))) ?_ ?_
    · skip
      refine .o1 (tk rfl rfl fun _ w hn k => ⟨_, v_load rfl (k.fx 1 h29) (l_two Try.isAgg24 Try.sizeOf24 (hb32.new_ hn)), rfl⟩) ?_
      refine .off ?_
      refine .off ?_
      exact .nil
    intro a36 w37 hn38 ha39
    have hs40 := ha39.size.trans hs27
    have hd41 := ha39.defers.trans hd28
    have h42 := ha39.fx 2 h30
    have h43 := ha39.ge 0 9 rfl
    have hb44 := hb33.new_ hn38
    have hN45 := hN34.transNew hn38
    clear hs27 hd28 h29 h30 h31 hb32 hq17 hb33 hN34 ha39 hn38
    obtain ⟨w46, -, hst47, hb48, hu49, hf50⟩ := s_two (v0 := .bool (decide (z < 0))) (v1 := sv A (canon z.natAbs) c) Try.sizeOf24 rfl rfl rfl hb44
    refine st_act rfl rfl fun K51 hL52 => a_store' rfl h42 h43 hst47 (hL52 _ _ trivial ?_)
    have hN53 := hN45.trans hu49 (fun k hk hkb => by subst hkb; omega)
    clear hb44 hst47 K51 hL52 hN45 hu49 hf50
    refine st_take rfl rfl (y_assign (v := .bool true) rfl rfl) rfl ?_
    obtain ⟨a54, ha55⟩ : ∃ a', a' = a36.put (some 3) (.bool true) := ⟨_, rfl⟩
    have hs56 : a54.tmps.size = 10 := by rw [ha55, put_size]; exact hs40
    have hd57 : a54.defers = [] := by rw [ha55, put_defers]; exact hd41
    have h58 : a54.eval (.tmp 2) = pv q13 := by rw [ha55, put_ne _ _ _ _ (by decide)]; exact h42
    have h59 : a54.eval (.tmp 9) = .agg #[.bool (decide (z < 0)), sv A (canon z.natAbs) c] := by rw [ha55, put_ne _ _ _ _ (by decide)]; exact h43
    have h60 : a54.eval (.tmp 3) = .bool true := by rw [ha55]; exact put_same _ _ _ (by rw [hs40]; decide)
    show stepsTo _ _ _ _ _ (a36.put (some 3) (.bool true)) _
    rw [← ha55]
    clear ha55 hs40 hd41 h42 h43
    refine st_nil ?_
    clear h59
    refine hK35 _ _ ?_
    clear hK35 K35
    refine wp_ret (ret_k hd57 (v := .tuple #[.agg #[.bool (decide (z < 0)), sv A (canon z.natAbs) c], .bool true]) (res_ct rfl h58 h60 (l_two Try.isAgg24 Try.sizeOf24 hb48)) ?_)
    have hs2 : (.bool true : Value) = .bool (okI z) := by rw [(fits_yes ht22).2]
    have hz1 : z = capI z := (fits_yes ht22).1.symm
    exact ⟨A, c, (congrArg (fun z : Int => Ending.returned (Value.tuple #[.agg #[.bool (decide (z < 0)), sv A (canon z.natAbs) c], .bool true])) hz1).trans (congrArg (fun y => Ending.returned (Value.tuple #[.agg #[.bool (decide (capI z < 0)), sv A (canon (capI z).natAbs) c], y])) hs2), Eq.mp (congrArg (fun z : Int => SRow _ .u32 A (canon z.natAbs) c) hz1) (hr.new_ hN53), hN53⟩
  have ht22d := of_decide_eq_false ht22
  refine wp_g0 [true, true, true, true] [] 10
    [ve (.pointer (some ⟨q9, 1, none⟩)),
     ve (sv A (canon z.natAbs) c),
     ve (iv ((canon z.natAbs).length : Int)),
     ve (.bool true)] hs6 (.eq (.eq (.eq (.eq (.nil))))) ?_ ?_
  · skip
    refine .o1 (tk rfl rfl fun _ w hn k => ⟨_, v_field rfl (k.fx 1 h8) (fun w => rfl), rfl⟩) ?_
    refine .o1 (tk rfl rfl fun _ w hn k => ⟨_, v_load rfl (k.eq1 0 4 rfl) (l_one Try.isAgg22 ((hb11.new_ hn).cell 1)), rfl⟩) ?_
    refine .o1 (tk rfl rfl fun _ w hn k => ⟨_, v_lenR rfl elW (k.eq1 1 5 rfl), rfl⟩) ?_
    refine .o1 (tk rfl rfl fun _ w hn k => ⟨_, v_bin rfl (k.eq1 2 6 rfl) rfl (fun _ => rfl) (r_gtrK ht22), rfl⟩) ?_
    exact .nil
  intro a61 w62 hn63 ha64
  have hs65 := ha64.size.trans hs6
  have hd66 := ha64.defers.trans hd7
  have h67 := ha64.fx 1 h8
  have h68 := ha64.fx 2 h12
  have h69 := ha64.ge 3 7 rfl
  have hb70 := hb11.new_ hn63
  have hb71 := hb15.new_ hn63
  have hN72 := hN19.transNew hn63
  clear hs6 hd7 h8 h12 hb11 hb15 hN19 ha64 hn63
  refine st_nil ?_
  refine hK21 _ _ ?_
  clear hK21 K21
  refine wp_cond_true h69 ?_
  refine wp_seq_k fun K73 hK73 => ?_
  refine wp_g0 [true, false, false] [(1, false), (2, true)] 10
    [ve (.agg #[.bool false, sv none ([]) 0]),
     vt,
     vt] hs65 (.eq (.tt (.tt (.nil)))) ?_ ?_
  · skip
    refine .o1 (tk rfl rfl fun _ w hn k => ⟨_, v_build (ps := []) rfl parts0 (by kernel_rfl), rfl⟩) ?_
    refine .off ?_
    refine .off ?_
    exact .nil
  intro a74 w75 hn76 ha77
  have hs78 := ha77.size.trans hs65
  have hd79 := ha77.defers.trans hd66
  have h80 := ha77.fx 2 h68
  have h81 := ha77.ge 0 8 rfl
  have hb82 := hb71.new_ hn76
  have hN83 := hN72.transNew hn76
  clear hs65 hd66 h67 h68 h69 hb70 hq17 hb71 hN72 ha77 hn76
  obtain ⟨w84, -, hst85, hb86, hu87, hf88⟩ := s_two (v0 := .bool false) (v1 := sv none ([]) 0) Try.sizeOf24 rfl rfl rfl hb82
  refine st_act rfl rfl fun K89 hL90 => a_store' rfl h80 h81 hst85 (hL90 _ _ trivial ?_)
  have hN91 := hN83.trans hu87 (fun k hk hkb => by subst hkb; omega)
  clear hb82 hst85 K89 hL90 hN83 hu87 hf88
  refine st_take rfl rfl (y_assign (v := .bool false) rfl rfl) rfl ?_
  obtain ⟨a92, ha93⟩ : ∃ a', a' = a74.put (some 3) (.bool false) := ⟨_, rfl⟩
  have hs94 : a92.tmps.size = 10 := by rw [ha93, put_size]; exact hs78
  have hd95 : a92.defers = [] := by rw [ha93, put_defers]; exact hd79
  have h96 : a92.eval (.tmp 2) = pv q13 := by rw [ha93, put_ne _ _ _ _ (by decide)]; exact h80
  have h97 : a92.eval (.tmp 8) = .agg #[.bool false, sv none ([]) 0] := by rw [ha93, put_ne _ _ _ _ (by decide)]; exact h81
  have h98 : a92.eval (.tmp 3) = .bool false := by rw [ha93]; exact put_same _ _ _ (by rw [hs78]; decide)
  show stepsTo _ _ _ _ _ (a74.put (some 3) (.bool false)) _
  rw [← ha93]
  clear ha93 hs78 hd79 h80 h81
  refine st_nil ?_
  clear h97
  refine hK73 _ _ ?_
  clear hK73 K73
  refine wp_ret (ret_k hd95 (v := .tuple #[.agg #[.bool false, sv none ([]) 0], .bool false]) (res_ct rfl h96 h98 (l_two Try.isAgg24 Try.sizeOf24 hb86)) ?_)
  have hs2 : (.bool false : Value) = .bool (okI z) := by rw [(fits_no ht22).2]
  have hz1 : (decide (capI z < 0)) = false := by rw [(fits_no ht22).1]; rfl
  have hz2 : canon (capI z).natAbs = [] := by rw [(fits_no ht22).1]; exact canon_zero
  exact ⟨none, 0, by rw [hz1, hz2, hs2], by rw [hz2]; exact (SRow.nil _ _), hN91⟩
set_option maxHeartbeats 4000000 in
set_option maxRecDepth 100000 in
theorem rsum_c (x y : Int) (A B : Option Addr) (c d : Nat) (w : World) (hra : SRow w .u32 A (canon x.natAbs) c) (hrb : SRow w .u32 B (canon y.natAbs) d) (hx : x.natAbs < 2 ^ 256) (hy : y.natAbs < 2 ^ 256) : Calls Try.prog 76 #[.agg #[.bool (decide (x < 0)), sv A (canon x.natAbs) c], .agg #[.bool (decide (y < 0)), sv B (canon y.natAbs) d]] w (RetZ (x + y) w) := by
  refine enter_abs Try.func76 rfl fun a0 hs0 hd0 hp => ?_
  have hs0 : a0.tmps.size = 40 := hs0
  have hN0 : New w w := Upd.refl _ _
  have hp0 : a0.eval (.tmp 0) = .agg #[.bool (decide (x < 0)), sv A (canon x.natAbs) c] := hp 0 _ rfl
  have hp1 : a0.eval (.tmp 1) = .agg #[.bool (decide (y < 0)), sv B (canon y.natAbs) d] := hp 1 _ rfl
  clear hp
  have h8x := (canon_len8 _).2 hx
  have h8y := (canon_len8 _).2 hy
  have hsx : (canon (val (canon x.natAbs) + val (canon y.natAbs))).length ≤ 9 := sum_len hx hy
  have hdx : (canon (val (canon x.natAbs) - val (canon y.natAbs))).length ≤ 8 := dif_len hx
  have hdy : (canon (val (canon y.natAbs) - val (canon x.natAbs))).length ≤ 8 := dif_len hy
  refine wp_seq_k fun K1 hK1 => ?_
  refine wp_g [true, true, true] [] [] 40
    [IsNew w 24 [.bool (decide (x < 0)), sv A (canon x.natAbs) c],
     IsNew w 24 [.bool (decide (y < 0)), sv B (canon y.natAbs) d],
     IsNew w 24 [.bool false, sv none ([]) 0]]
    [0, 1, 2] (newsCons (fun v w h => IsNew.old h) (newsCons (fun v w h => IsNew.old h) (newsCons (fun v w h => IsNew.old h) newsNil))) hs0 (.nw (.nw (.nw (.nil)))) ?_ (fun i h => by cases h) ?_
  · skip
    refine .o2 (step_allocN (cs := [.bool (decide (x < 0)), sv A (canon x.natAbs) c]) (t := 24) rfl (noG rfl) (fun _ w hn k => v_box rfl (k.fx 0 hp0) (fun w => rfl)) (fun q _ hq hb => ⟨q, rfl, hq, hb⟩)) ?_
    refine .o2 (step_allocN (cs := [.bool (decide (y < 0)), sv B (canon y.natAbs) d]) (t := 24) rfl (noG rfl) (fun _ w hn k => v_box rfl (k.fx 1 hp1) (fun w => rfl)) (fun q _ hq hb => ⟨q, rfl, hq, hb⟩)) ?_
    refine .o2 (step_allocN (cs := [.bool false, sv none ([]) 0]) (t := 24) rfl (noG rfl) (fun _ w hn k => rfl) (fun q _ hq hb => ⟨q, rfl, hq, hb⟩)) ?_
    exact .nil
  intro a2 w3 hn4 ha5
  have hs6 := ha5.size.trans hs0
  have hd7 := ha5.defers.trans hd0
  obtain ⟨q9, h8, hq10, hb11⟩ : IsNew _ _ _ _ _ := ha5.got 0 2 rfl (by kernel_rfl)
  obtain ⟨q13, h12, hq14, hb15⟩ : IsNew _ _ _ _ _ := ha5.got 1 3 rfl (by kernel_rfl)
  obtain ⟨q17, h16, hq18, hb19⟩ : IsNew _ _ _ _ _ := ha5.got 2 4 rfl (by kernel_rfl)
  have hne20 : q9 ≠ q17 := ha5.ne 0 2 2 4 h8 h16
  have hne21 : q13 ≠ q17 := ha5.ne 1 2 3 4 h12 h16
  have hq22 := Nat.le_trans hN0.size hq10
  have hq23 := Nat.le_trans hN0.size hq14
  have hq24 := Nat.le_trans hN0.size hq18
  have hN25 := hN0.transNew hn4
  clear hs0 hd0 hp0 hp1 hq10 hq14 hq18 hN0 ha5 hn4
  refine st_nil ?_
  refine hK1 _ _ ?_
  clear hK1 K1
  refine wp_seq_k fun K26 hK26 => ?_
  refine wp_seq_k fun K27 hK27 => ?_
  rcases Bool.eq_false_or_eq_true (decide (x < 0)) with ht28 | ht28
  · skip
    have ht28d := of_decide_eq_true ht28
    rcases Bool.eq_false_or_eq_true (decide (y < 0)) with ht29 | ht29
    · skip
      have ht29d := of_decide_eq_true ht29
      refine wp_g0 [true, true, true, true, true] [] 40
        [ve (pv q9),
         ve (.bool true),
         ve (pv q13),
         ve (.bool true),
         ve (.bool true)] hs6 (.eq (.eq (.eq (.eq (.eq (.nil)))))) ?_ ?_
      · skip
        refine .o1 (tk rfl rfl fun _ w hn k => ⟨_, v_field rfl (k.fx 2 h8) (fun w => rfl), rfl⟩) ?_
        refine .o1 (tk rfl rfl fun _ w hn k => ⟨_, v_load rfl (k.eq1 0 5 rfl) (l_one Try.isAgg4 ((hb11.new_ hn).cell 0)), congrArg Value.bool ht28⟩) ?_
        refine .o1 (tk rfl rfl fun _ w hn k => ⟨_, v_field rfl (k.fx 3 h12) (fun w => rfl), rfl⟩) ?_
        refine .o1 (tk rfl rfl fun _ w hn k => ⟨_, v_load rfl (k.eq1 2 7 rfl) (l_one Try.isAgg4 ((hb15.new_ hn).cell 0)), congrArg Value.bool ht29⟩) ?_
        refine .o1 (tk rfl rfl fun _ w hn k => ⟨_, v_bin rfl (k.eq1 1 6 rfl) (k.eq1 3 8 rfl) (fun _ => rfl) (fun w => by kernel_rfl), rfl⟩) ?_
        exact .nil
      intro a30 w31 hn32 ha33
      have hs34 := ha33.size.trans hs6
      have hd35 := ha33.defers.trans hd7
      have h36 := ha33.fx 2 h8
      have h37 := ha33.fx 3 h12
      have h38 := ha33.fx 4 h16
      have h39 := ha33.ge 4 9 rfl
      have hb40 := hb11.new_ hn32
      have hb41 := hb15.new_ hn32
      have hb42 := hb19.new_ hn32
      have hN43 := hN25.transNew hn32
      clear hs6 hd7 h8 h12 h16 hb11 hb15 hb19 hN25 ha33 hn32
      refine st_nil ?_
      refine hK27 _ _ ?_
      clear hK27 K27
      refine wp_cond_true h39 ?_
      refine wp_seq_k fun K44 hK44 => ?_
      refine wp_g0 [true, true, true, true, true, true, true, true, false] [(8, false)] 40
        [ve (pv q9),
         ve (.bool true),
         ve (.pointer (some ⟨q9, 1, none⟩)),
         ve (sv A (canon x.natAbs) c),
         ve (.pointer (some ⟨q13, 1, none⟩)),
         ve (sv B (canon y.natAbs) d),
         (fun (v : Value) (W : World) => ∃ (A3 : Option Addr) (c4 : Nat), v = sv A3 (canon (val (canon x.natAbs) + val (canon y.natAbs))) c4 ∧ SOwn W w31.heap.size 50 .u32 A3 (canon (val (canon x.natAbs) + val (canon y.natAbs))) c4),
         (fun (v : Value) (W : World) => ∃ (A11 : Option Addr) (c12 : Nat), v = .agg #[.bool (decide (sgn true (val (canon (val (canon x.natAbs) + val (canon y.natAbs)))) < 0)), sv A11 (canon (sgn true (val (canon (val (canon x.natAbs) + val (canon y.natAbs))))).natAbs) c12] ∧ SRow W .u32 A11 (canon (sgn true (val (canon (val (canon x.natAbs) + val (canon y.natAbs))))).natAbs) c12),
         vt] hs34 (.eq (.eq (.eq (.eq (.eq (.eq (.cons (fun v W W' hn ⟨A3, c4, he, h0⟩ => ⟨A3, c4, he, h0.new_ hn⟩) (.cons (fun v W W' hn ⟨A11, c12, he, h0⟩ => ⟨A11, c12, he, h0.new_ hn⟩) (.tt (.nil)))))))))) ?_ ?_
      · skip
        refine .o1 (tk rfl rfl fun _ w hn k => ⟨_, v_field rfl (k.fx 2 h36) (fun w => rfl), rfl⟩) ?_
        refine .o1 (tk rfl rfl fun _ w hn k => ⟨_, v_load rfl (k.eq1 0 10 rfl) (l_one Try.isAgg4 ((hb40.new_ hn).cell 0)), congrArg Value.bool ht28⟩) ?_
        refine .o1 (tk rfl rfl fun _ w hn k => ⟨_, v_field rfl (k.fx 2 h36) (fun w => rfl), rfl⟩) ?_
        refine .o1 (tk rfl rfl fun _ w hn k => ⟨_, v_load rfl (k.eq1 2 12 rfl) (l_one Try.isAgg22 ((hb40.new_ hn).cell 1)), rfl⟩) ?_
        refine .o1 (tk rfl rfl fun _ w hn k => ⟨_, v_field rfl (k.fx 3 h37) (fun w => rfl), rfl⟩) ?_
        refine .o1 (tk rfl rfl fun _ w hn k => ⟨_, v_load rfl (k.eq1 4 14 rfl) (l_one Try.isAgg22 ((hb41.new_ hn).cell 1)), rfl⟩) ?_
        refine .o1 (tkC rfl (noG rfl) rfl fun _ w hn k => (by
              refine ⟨#[sv A (canon x.natAbs) c, sv B (canon y.natAbs) d], _, args2 (k.eq1 3 13 rfl) (k.eq1 5 15 rfl), fun w => by kernel_rfl, rplus_c _ _ _ _ _ _ _ (hra.new_ (hN43.transNew hn)) (hrb.new_ (hN43.transNew hn)) (limbs_canon _) (limbs_canon _) (by first | omega | (simp only [List.length_nil, List.length_cons, List.length_set, List.length_replicate]; omega)) (by first | omega | (simp only [List.length_nil, List.length_cons, List.length_set, List.length_replicate]; omega)), ?_⟩
              rintro e w' ⟨A1, c2, rfl, hmo, hm⟩
              exact ⟨_, rfl, hm, ⟨A1, c2, rfl, (hmo.more hn.size)⟩⟩)) ?_
        refine .o1 (tkC rfl (noG rfl) rfl fun _ w hn k => (by
              obtain ⟨A5, c6, e7, hx8⟩ : (fun (v : Value) (W : World) => ∃ (A3 : Option Addr) (c4 : Nat), v = sv A3 (canon (val (canon x.natAbs) + val (canon y.natAbs))) c4 ∧ SOwn W w31.heap.size 50 .u32 A3 (canon (val (canon x.natAbs) + val (canon y.natAbs))) c4) _ _ := k.dep 6 16 (by kernel_rfl) (by kernel_rfl)
              refine ⟨#[.bool true, sv A5 (canon (val (canon x.natAbs) + val (canon y.natAbs))) c6], _, args2 (k.eq1 1 11 rfl) e7, fun w => by kernel_rfl, rmade_c _ _ _ _ _ hx8.row (limbs_canon _) (by first | omega | (simp only [List.length_nil, List.length_cons, List.length_set, List.length_replicate]; omega)), ?_⟩
              rintro e w' ⟨A9, c10, rfl, hmo, hm⟩
              exact ⟨_, rfl, hm, ⟨A9, c10, rfl, hmo⟩⟩)) ?_
        refine .off ?_
        exact .nil
      intro a45 w46 hn47 ha48
      have hs49 := ha48.size.trans hs34
      have hd50 := ha48.defers.trans hd35
      have h51 := ha48.fx 4 h38
      obtain ⟨A53, cc54, h52, hr55⟩ : (fun (v : Value) (W : World) => ∃ (A11 : Option Addr) (c12 : Nat), v = .agg #[.bool (decide (sgn true (val (canon (val (canon x.natAbs) + val (canon y.natAbs)))) < 0)), sv A11 (canon (sgn true (val (canon (val (canon x.natAbs) + val (canon y.natAbs))))).natAbs) c12] ∧ SRow W .u32 A11 (canon (sgn true (val (canon (val (canon x.natAbs) + val (canon y.natAbs))))).natAbs) c12) _ _ := ha48.got 7 17 rfl (by kernel_rfl)
      have h52 : a45.eval (.tmp 17) = .agg #[.bool (decide (sgn true (val (canon (val (canon x.natAbs) + val (canon y.natAbs)))) < 0)), sv A53 (canon (sgn true (val (canon (val (canon x.natAbs) + val (canon y.natAbs))))).natAbs) cc54] := h52
      have hb56 := hb42.new_ hn47
      have hN57 := hN43.transNew hn47
      clear hs34 hd35 h36 h37 h38 h39 hb40 hq22 hb41 hq23 hb42 hN43 ha48 hn47
      obtain ⟨w58, -, hst59, hb60, hu61, hf62⟩ := s_two (v0 := .bool (decide (sgn true (val (canon (val (canon x.natAbs) + val (canon y.natAbs)))) < 0))) (v1 := sv A53 (canon (sgn true (val (canon (val (canon x.natAbs) + val (canon y.natAbs))))).natAbs) cc54) Try.sizeOf24 rfl rfl rfl hb56
      refine st_act rfl rfl fun K63 hL64 => a_store' rfl h51 h52 hst59 (hL64 _ _ trivial ?_)
      have hr65 := hr55.far hb56 hu61 (by first | rfl | decide | simp [notK])
      have hN66 := hN57.trans hu61 (fun k hk hkb => by subst hkb; omega)
      clear hb56 hst59 K63 hL64 hN57 hr55 hu61 hf62
      refine st_nil ?_
      clear h52
      refine hK44 _ _ ?_
      clear hK44 K44
      refine wp_ret (ret_k hd50 (v := .agg #[.bool (decide (sgn true (val (canon (val (canon x.natAbs) + val (canon y.natAbs)))) < 0)), sv A53 (canon (sgn true (val (canon (val (canon x.natAbs) + val (canon y.natAbs))))).natAbs) cc54]) (res_c rfl h51 (l_two Try.isAgg24 Try.sizeOf24 hb60)) ?_)
      have hz1 : sgn true (val (canon (val (canon x.natAbs) + val (canon y.natAbs)))) = x + y := sum_same (d := true) ht28 ht29
      exact ⟨A53, cc54, congrArg (fun z : Int => Ending.returned (Value.agg #[.bool (decide (z < 0)), sv A53 (canon z.natAbs) cc54])) hz1, Eq.mp (congrArg (fun z : Int => SRow _ .u32 A53 (canon z.natAbs) cc54) hz1) hr65, hN66⟩
    have ht29d := of_decide_eq_false ht29
    refine wp_g0 [true, true, true, true, true] [] 40
      [ve (pv q9),
       ve (.bool true),
       ve (pv q13),
       ve (.bool false),
       ve (.bool false)] hs6 (.eq (.eq (.eq (.eq (.eq (.nil)))))) ?_ ?_
    · skip
      refine .o1 (tk rfl rfl fun _ w hn k => ⟨_, v_field rfl (k.fx 2 h8) (fun w => rfl), rfl⟩) ?_
      refine .o1 (tk rfl rfl fun _ w hn k => ⟨_, v_load rfl (k.eq1 0 5 rfl) (l_one Try.isAgg4 ((hb11.new_ hn).cell 0)), congrArg Value.bool ht28⟩) ?_
      refine .o1 (tk rfl rfl fun _ w hn k => ⟨_, v_field rfl (k.fx 3 h12) (fun w => rfl), rfl⟩) ?_
      refine .o1 (tk rfl rfl fun _ w hn k => ⟨_, v_load rfl (k.eq1 2 7 rfl) (l_one Try.isAgg4 ((hb15.new_ hn).cell 0)), congrArg Value.bool ht29⟩) ?_
      refine .o1 (tk rfl rfl fun _ w hn k => ⟨_, v_bin rfl (k.eq1 1 6 rfl) (k.eq1 3 8 rfl) (fun _ => rfl) (fun w => by kernel_rfl), rfl⟩) ?_
      exact .nil
    intro a67 w68 hn69 ha70
    have hs71 := ha70.size.trans hs6
    have hd72 := ha70.defers.trans hd7
    have h73 := ha70.fx 2 h8
    have h74 := ha70.fx 3 h12
    have h75 := ha70.fx 4 h16
    have h76 := ha70.ge 4 9 rfl
    have hb77 := hb11.new_ hn69
    have hb78 := hb15.new_ hn69
    have hb79 := hb19.new_ hn69
    have hN80 := hN25.transNew hn69
    clear hs6 hd7 h8 h12 h16 hb11 hb15 hb19 hN25 ha70 hn69
    refine st_nil ?_
    refine hK27 _ _ ?_
    clear hK27 K27
    refine wp_cond_false h76 ?_
    refine wp_skip ?_
    refine hK26 _ _ ?_
    clear hK26 K26
    refine wp_seq_k fun K81 hK81 => ?_
    refine wp_seq_k fun K82 hK82 => ?_
    rcases Bool.eq_false_or_eq_true (decide ((cmpN (val (canon x.natAbs)) (val (canon y.natAbs))) < 0)) with ht83 | ht83
    · skip
      have ht83d := of_decide_eq_true ht83
      refine wp_g0 [true, true, true, true, true, true] [] 40
        [ve (.pointer (some ⟨q9, 1, none⟩)),
         ve (sv A (canon x.natAbs) c),
         ve (.pointer (some ⟨q13, 1, none⟩)),
         ve (sv B (canon y.natAbs) d),
         ve (iv (cmpN (val (canon x.natAbs)) (val (canon y.natAbs)))),
         ve (.bool false)] hs71 (.eq (.eq (.eq (.eq (.eq (.eq (.nil))))))) ?_ ?_
      · skip
        refine .o1 (tk rfl rfl fun _ w hn k => ⟨_, v_field rfl (k.fx 2 h73) (fun w => rfl), rfl⟩) ?_
        refine .o1 (tk rfl rfl fun _ w hn k => ⟨_, v_load rfl (k.eq1 0 18 rfl) (l_one Try.isAgg22 ((hb77.new_ hn).cell 1)), rfl⟩) ?_
        refine .o1 (tk rfl rfl fun _ w hn k => ⟨_, v_field rfl (k.fx 3 h74) (fun w => rfl), rfl⟩) ?_
        refine .o1 (tk rfl rfl fun _ w hn k => ⟨_, v_load rfl (k.eq1 2 20 rfl) (l_one Try.isAgg22 ((hb78.new_ hn).cell 1)), rfl⟩) ?_
        refine .o1 (ck rfl rfl rfl (fun _ w hn k => ⟨#[sv A (canon x.natAbs) c, sv B (canon y.natAbs) d], args2 (k.eq1 1 19 rfl) (k.eq1 3 21 rfl), fun _ => by kernel_rfl, rcmp_c _ _ _ _ _ _ _ (hra.new_ (hN80.transNew hn)) (hrb.new_ (hN80.transNew hn)) (limbs_canon _) (limbs_canon _) (by first | omega | (simp only [List.length_nil, List.length_cons, List.length_set, List.length_replicate]; omega)) (by first | omega | (simp only [List.length_nil, List.length_cons, List.length_set, List.length_replicate]; omega))⟩) fun _ => rfl) ?_
        refine .o1 (tk rfl rfl fun _ w hn k => ⟨_, v_bin rfl (k.eq1 4 22 rfl) rfl (fun _ => rfl) (r_geqK ht83), rfl⟩) ?_
        exact .nil
      intro a84 w85 hn86 ha87
      have hs88 := ha87.size.trans hs71
      have hd89 := ha87.defers.trans hd72
      have h90 := ha87.fx 2 h73
      have h91 := ha87.fx 3 h74
      have h92 := ha87.fx 4 h75
      have h93 := ha87.ge 5 23 rfl
      have hb94 := hb77.new_ hn86
      have hb95 := hb78.new_ hn86
      have hb96 := hb79.new_ hn86
      have hN97 := hN80.transNew hn86
      clear hs71 hd72 h73 h74 h75 h76 hb77 hb78 hb79 hN80 ha87 hn86
      refine st_nil ?_
      refine hK82 _ _ ?_
      clear hK82 K82
      refine wp_cond_false h93 ?_
      refine wp_skip ?_
      refine hK81 _ _ ?_
      clear hK81 K81
      refine wp_seq_k fun K98 hK98 => ?_
      refine wp_g0 [true, true, true, true, true, true, true, true, false] [(8, false)] 40
        [ve (pv q13),
         ve (.bool false),
         ve (.pointer (some ⟨q13, 1, none⟩)),
         ve (sv B (canon y.natAbs) d),
         ve (.pointer (some ⟨q9, 1, none⟩)),
         ve (sv A (canon x.natAbs) c),
         (fun (v : Value) (W : World) => ∃ (A19 : Option Addr) (c20 : Nat), v = sv A19 (canon (val (canon y.natAbs) - val (canon x.natAbs))) c20 ∧ SOwn W w85.heap.size 50 .u32 A19 (canon (val (canon y.natAbs) - val (canon x.natAbs))) c20),
         (fun (v : Value) (W : World) => ∃ (A27 : Option Addr) (c28 : Nat), v = .agg #[.bool (decide (sgn false (val (canon (val (canon y.natAbs) - val (canon x.natAbs)))) < 0)), sv A27 (canon (sgn false (val (canon (val (canon y.natAbs) - val (canon x.natAbs))))).natAbs) c28] ∧ SRow W .u32 A27 (canon (sgn false (val (canon (val (canon y.natAbs) - val (canon x.natAbs))))).natAbs) c28),
         vt] hs88 (.eq (.eq (.eq (.eq (.eq (.eq (.cons (fun v W W' hn ⟨A19, c20, he, h0⟩ => ⟨A19, c20, he, h0.new_ hn⟩) (.cons (fun v W W' hn ⟨A27, c28, he, h0⟩ => ⟨A27, c28, he, h0.new_ hn⟩) (.tt (.nil)))))))))) ?_ ?_
      · skip
        refine .o1 (tk rfl rfl fun _ w hn k => ⟨_, v_field rfl (k.fx 3 h91) (fun w => rfl), rfl⟩) ?_
        refine .o1 (tk rfl rfl fun _ w hn k => ⟨_, v_load rfl (k.eq1 0 32 rfl) (l_one Try.isAgg4 ((hb95.new_ hn).cell 0)), congrArg Value.bool ht29⟩) ?_
        refine .o1 (tk rfl rfl fun _ w hn k => ⟨_, v_field rfl (k.fx 3 h91) (fun w => rfl), rfl⟩) ?_
        refine .o1 (tk rfl rfl fun _ w hn k => ⟨_, v_load rfl (k.eq1 2 34 rfl) (l_one Try.isAgg22 ((hb95.new_ hn).cell 1)), rfl⟩) ?_
        refine .o1 (tk rfl rfl fun _ w hn k => ⟨_, v_field rfl (k.fx 2 h90) (fun w => rfl), rfl⟩) ?_
        refine .o1 (tk rfl rfl fun _ w hn k => ⟨_, v_load rfl (k.eq1 4 36 rfl) (l_one Try.isAgg22 ((hb94.new_ hn).cell 1)), rfl⟩) ?_
        refine .o1 (tkC rfl (noG rfl) rfl fun _ w hn k => (by
              refine ⟨#[sv B (canon y.natAbs) d, sv A (canon x.natAbs) c], _, args2 (k.eq1 3 35 rfl) (k.eq1 5 37 rfl), fun w => by kernel_rfl, rminus_c _ _ _ _ _ _ _ (hrb.new_ (hN97.transNew hn)) (hra.new_ (hN97.transNew hn)) (limbs_canon _) (limbs_canon _) (by first | omega | (simp only [List.length_nil, List.length_cons, List.length_set, List.length_replicate]; omega)) (by first | omega | (simp only [List.length_nil, List.length_cons, List.length_set, List.length_replicate]; omega)) (Nat.le_of_lt (cmpN_lt ht83)), ?_⟩
              rintro e w' ⟨A17, c18, rfl, hmo, hm⟩
              exact ⟨_, rfl, hm, ⟨A17, c18, rfl, (hmo.more hn.size)⟩⟩)) ?_
        refine .o1 (tkC rfl (noG rfl) rfl fun _ w hn k => (by
              obtain ⟨A21, c22, e23, hx24⟩ : (fun (v : Value) (W : World) => ∃ (A19 : Option Addr) (c20 : Nat), v = sv A19 (canon (val (canon y.natAbs) - val (canon x.natAbs))) c20 ∧ SOwn W w85.heap.size 50 .u32 A19 (canon (val (canon y.natAbs) - val (canon x.natAbs))) c20) _ _ := k.dep 6 38 (by kernel_rfl) (by kernel_rfl)
              refine ⟨#[.bool false, sv A21 (canon (val (canon y.natAbs) - val (canon x.natAbs))) c22], _, args2 (k.eq1 1 33 rfl) e23, fun w => by kernel_rfl, rmade_c _ _ _ _ _ hx24.row (limbs_canon _) (by first | omega | (simp only [List.length_nil, List.length_cons, List.length_set, List.length_replicate]; omega)), ?_⟩
              rintro e w' ⟨A25, c26, rfl, hmo, hm⟩
              exact ⟨_, rfl, hm, ⟨A25, c26, rfl, hmo⟩⟩)) ?_
        refine .off ?_
        exact .nil
      intro a99 w100 hn101 ha102
      have hs103 := ha102.size.trans hs88
      have hd104 := ha102.defers.trans hd89
      have h105 := ha102.fx 4 h92
      obtain ⟨A107, cc108, h106, hr109⟩ : (fun (v : Value) (W : World) => ∃ (A27 : Option Addr) (c28 : Nat), v = .agg #[.bool (decide (sgn false (val (canon (val (canon y.natAbs) - val (canon x.natAbs)))) < 0)), sv A27 (canon (sgn false (val (canon (val (canon y.natAbs) - val (canon x.natAbs))))).natAbs) c28] ∧ SRow W .u32 A27 (canon (sgn false (val (canon (val (canon y.natAbs) - val (canon x.natAbs))))).natAbs) c28) _ _ := ha102.got 7 39 rfl (by kernel_rfl)
      have h106 : a99.eval (.tmp 39) = .agg #[.bool (decide (sgn false (val (canon (val (canon y.natAbs) - val (canon x.natAbs)))) < 0)), sv A107 (canon (sgn false (val (canon (val (canon y.natAbs) - val (canon x.natAbs))))).natAbs) cc108] := h106
      have hb110 := hb96.new_ hn101
      have hN111 := hN97.transNew hn101
      clear hs88 hd89 h90 h91 h92 h93 hb94 hq22 hb95 hq23 hb96 hN97 ha102 hn101
      obtain ⟨w112, -, hst113, hb114, hu115, hf116⟩ := s_two (v0 := .bool (decide (sgn false (val (canon (val (canon y.natAbs) - val (canon x.natAbs)))) < 0))) (v1 := sv A107 (canon (sgn false (val (canon (val (canon y.natAbs) - val (canon x.natAbs))))).natAbs) cc108) Try.sizeOf24 rfl rfl rfl hb110
      refine st_act rfl rfl fun K117 hL118 => a_store' rfl h105 h106 hst113 (hL118 _ _ trivial ?_)
      have hr119 := hr109.far hb110 hu115 (by first | rfl | decide | simp [notK])
      have hN120 := hN111.trans hu115 (fun k hk hkb => by subst hkb; omega)
      clear hb110 hst113 K117 hL118 hN111 hr109 hu115 hf116
      refine st_nil ?_
      clear h106
      refine hK98 _ _ ?_
      clear hK98 K98
      refine wp_ret (ret_k hd104 (v := .agg #[.bool (decide (sgn false (val (canon (val (canon y.natAbs) - val (canon x.natAbs)))) < 0)), sv A107 (canon (sgn false (val (canon (val (canon y.natAbs) - val (canon x.natAbs))))).natAbs) cc108]) (res_c rfl h105 (l_two Try.isAgg24 Try.sizeOf24 hb114)) ?_)
      have hz1 : sgn false (val (canon (val (canon y.natAbs) - val (canon x.natAbs)))) = x + y := sum_lt (d := true) (d' := false) ht28 ht29 (by decide) ht83
      exact ⟨A107, cc108, congrArg (fun z : Int => Ending.returned (Value.agg #[.bool (decide (z < 0)), sv A107 (canon z.natAbs) cc108])) hz1, Eq.mp (congrArg (fun z : Int => SRow _ .u32 A107 (canon z.natAbs) cc108) hz1) hr119, hN120⟩
    have ht83d := of_decide_eq_false ht83
    refine wp_g0 [true, true, true, true, true, true] [] 40
      [ve (.pointer (some ⟨q9, 1, none⟩)),
       ve (sv A (canon x.natAbs) c),
       ve (.pointer (some ⟨q13, 1, none⟩)),
       ve (sv B (canon y.natAbs) d),
       ve (iv (cmpN (val (canon x.natAbs)) (val (canon y.natAbs)))),
       ve (.bool true)] hs71 (.eq (.eq (.eq (.eq (.eq (.eq (.nil))))))) ?_ ?_
    · skip
      refine .o1 (tk rfl rfl fun _ w hn k => ⟨_, v_field rfl (k.fx 2 h73) (fun w => rfl), rfl⟩) ?_
      refine .o1 (tk rfl rfl fun _ w hn k => ⟨_, v_load rfl (k.eq1 0 18 rfl) (l_one Try.isAgg22 ((hb77.new_ hn).cell 1)), rfl⟩) ?_
      refine .o1 (tk rfl rfl fun _ w hn k => ⟨_, v_field rfl (k.fx 3 h74) (fun w => rfl), rfl⟩) ?_
      refine .o1 (tk rfl rfl fun _ w hn k => ⟨_, v_load rfl (k.eq1 2 20 rfl) (l_one Try.isAgg22 ((hb78.new_ hn).cell 1)), rfl⟩) ?_
      refine .o1 (ck rfl rfl rfl (fun _ w hn k => ⟨#[sv A (canon x.natAbs) c, sv B (canon y.natAbs) d], args2 (k.eq1 1 19 rfl) (k.eq1 3 21 rfl), fun _ => by kernel_rfl, rcmp_c _ _ _ _ _ _ _ (hra.new_ (hN80.transNew hn)) (hrb.new_ (hN80.transNew hn)) (limbs_canon _) (limbs_canon _) (by first | omega | (simp only [List.length_nil, List.length_cons, List.length_set, List.length_replicate]; omega)) (by first | omega | (simp only [List.length_nil, List.length_cons, List.length_set, List.length_replicate]; omega))⟩) fun _ => rfl) ?_
      refine .o1 (tk rfl rfl fun _ w hn k => ⟨_, v_bin rfl (k.eq1 4 22 rfl) rfl (fun _ => rfl) (r_geqK ht83), rfl⟩) ?_
      exact .nil
    intro a121 w122 hn123 ha124
    have hs125 := ha124.size.trans hs71
    have hd126 := ha124.defers.trans hd72
    have h127 := ha124.fx 2 h73
    have h128 := ha124.fx 3 h74
    have h129 := ha124.fx 4 h75
    have h130 := ha124.ge 5 23 rfl
    have hb131 := hb77.new_ hn123
    have hb132 := hb78.new_ hn123
    have hb133 := hb79.new_ hn123
    have hN134 := hN80.transNew hn123
    clear hs71 hd72 h73 h74 h75 h76 hb77 hb78 hb79 hN80 ha124 hn123
    refine st_nil ?_
    refine hK82 _ _ ?_
    clear hK82 K82
    refine wp_cond_true h130 ?_
    refine wp_seq_k fun K135 hK135 => ?_
    refine wp_g0 [true, true, true, true, true, true, true, true, false] [(8, false)] 40
      [ve (pv q9),
       ve (.bool true),
       ve (.pointer (some ⟨q9, 1, none⟩)),
       ve (sv A (canon x.natAbs) c),
       ve (.pointer (some ⟨q13, 1, none⟩)),
       ve (sv B (canon y.natAbs) d),
       (fun (v : Value) (W : World) => ∃ (A35 : Option Addr) (c36 : Nat), v = sv A35 (canon (val (canon x.natAbs) - val (canon y.natAbs))) c36 ∧ SOwn W w122.heap.size 50 .u32 A35 (canon (val (canon x.natAbs) - val (canon y.natAbs))) c36),
       (fun (v : Value) (W : World) => ∃ (A43 : Option Addr) (c44 : Nat), v = .agg #[.bool (decide (sgn true (val (canon (val (canon x.natAbs) - val (canon y.natAbs)))) < 0)), sv A43 (canon (sgn true (val (canon (val (canon x.natAbs) - val (canon y.natAbs))))).natAbs) c44] ∧ SRow W .u32 A43 (canon (sgn true (val (canon (val (canon x.natAbs) - val (canon y.natAbs))))).natAbs) c44),
       vt] hs125 (.eq (.eq (.eq (.eq (.eq (.eq (.cons (fun v W W' hn ⟨A35, c36, he, h0⟩ => ⟨A35, c36, he, h0.new_ hn⟩) (.cons (fun v W W' hn ⟨A43, c44, he, h0⟩ => ⟨A43, c44, he, h0.new_ hn⟩) (.tt (.nil)))))))))) ?_ ?_
    · skip
      refine .o1 (tk rfl rfl fun _ w hn k => ⟨_, v_field rfl (k.fx 2 h127) (fun w => rfl), rfl⟩) ?_
      refine .o1 (tk rfl rfl fun _ w hn k => ⟨_, v_load rfl (k.eq1 0 24 rfl) (l_one Try.isAgg4 ((hb131.new_ hn).cell 0)), congrArg Value.bool ht28⟩) ?_
      refine .o1 (tk rfl rfl fun _ w hn k => ⟨_, v_field rfl (k.fx 2 h127) (fun w => rfl), rfl⟩) ?_
      refine .o1 (tk rfl rfl fun _ w hn k => ⟨_, v_load rfl (k.eq1 2 26 rfl) (l_one Try.isAgg22 ((hb131.new_ hn).cell 1)), rfl⟩) ?_
      refine .o1 (tk rfl rfl fun _ w hn k => ⟨_, v_field rfl (k.fx 3 h128) (fun w => rfl), rfl⟩) ?_
      refine .o1 (tk rfl rfl fun _ w hn k => ⟨_, v_load rfl (k.eq1 4 28 rfl) (l_one Try.isAgg22 ((hb132.new_ hn).cell 1)), rfl⟩) ?_
      refine .o1 (tkC rfl (noG rfl) rfl fun _ w hn k => (by
            refine ⟨#[sv A (canon x.natAbs) c, sv B (canon y.natAbs) d], _, args2 (k.eq1 3 27 rfl) (k.eq1 5 29 rfl), fun w => by kernel_rfl, rminus_c _ _ _ _ _ _ _ (hra.new_ (hN134.transNew hn)) (hrb.new_ (hN134.transNew hn)) (limbs_canon _) (limbs_canon _) (by first | omega | (simp only [List.length_nil, List.length_cons, List.length_set, List.length_replicate]; omega)) (by first | omega | (simp only [List.length_nil, List.length_cons, List.length_set, List.length_replicate]; omega)) (cmpN_ge ht83), ?_⟩
            rintro e w' ⟨A33, c34, rfl, hmo, hm⟩
            exact ⟨_, rfl, hm, ⟨A33, c34, rfl, (hmo.more hn.size)⟩⟩)) ?_
      refine .o1 (tkC rfl (noG rfl) rfl fun _ w hn k => (by
            obtain ⟨A37, c38, e39, hx40⟩ : (fun (v : Value) (W : World) => ∃ (A35 : Option Addr) (c36 : Nat), v = sv A35 (canon (val (canon x.natAbs) - val (canon y.natAbs))) c36 ∧ SOwn W w122.heap.size 50 .u32 A35 (canon (val (canon x.natAbs) - val (canon y.natAbs))) c36) _ _ := k.dep 6 30 (by kernel_rfl) (by kernel_rfl)
            refine ⟨#[.bool true, sv A37 (canon (val (canon x.natAbs) - val (canon y.natAbs))) c38], _, args2 (k.eq1 1 25 rfl) e39, fun w => by kernel_rfl, rmade_c _ _ _ _ _ hx40.row (limbs_canon _) (by first | omega | (simp only [List.length_nil, List.length_cons, List.length_set, List.length_replicate]; omega)), ?_⟩
            rintro e w' ⟨A41, c42, rfl, hmo, hm⟩
            exact ⟨_, rfl, hm, ⟨A41, c42, rfl, hmo⟩⟩)) ?_
      refine .off ?_
      exact .nil
    intro a136 w137 hn138 ha139
    have hs140 := ha139.size.trans hs125
    have hd141 := ha139.defers.trans hd126
    have h142 := ha139.fx 4 h129
    obtain ⟨A144, cc145, h143, hr146⟩ : (fun (v : Value) (W : World) => ∃ (A43 : Option Addr) (c44 : Nat), v = .agg #[.bool (decide (sgn true (val (canon (val (canon x.natAbs) - val (canon y.natAbs)))) < 0)), sv A43 (canon (sgn true (val (canon (val (canon x.natAbs) - val (canon y.natAbs))))).natAbs) c44] ∧ SRow W .u32 A43 (canon (sgn true (val (canon (val (canon x.natAbs) - val (canon y.natAbs))))).natAbs) c44) _ _ := ha139.got 7 31 rfl (by kernel_rfl)
    have h143 : a136.eval (.tmp 31) = .agg #[.bool (decide (sgn true (val (canon (val (canon x.natAbs) - val (canon y.natAbs)))) < 0)), sv A144 (canon (sgn true (val (canon (val (canon x.natAbs) - val (canon y.natAbs))))).natAbs) cc145] := h143
    have hb147 := hb133.new_ hn138
    have hN148 := hN134.transNew hn138
    clear hs125 hd126 h127 h128 h129 h130 hb131 hq22 hb132 hq23 hb133 hN134 ha139 hn138
    obtain ⟨w149, -, hst150, hb151, hu152, hf153⟩ := s_two (v0 := .bool (decide (sgn true (val (canon (val (canon x.natAbs) - val (canon y.natAbs)))) < 0))) (v1 := sv A144 (canon (sgn true (val (canon (val (canon x.natAbs) - val (canon y.natAbs))))).natAbs) cc145) Try.sizeOf24 rfl rfl rfl hb147
    refine st_act rfl rfl fun K154 hL155 => a_store' rfl h142 h143 hst150 (hL155 _ _ trivial ?_)
    have hr156 := hr146.far hb147 hu152 (by first | rfl | decide | simp [notK])
    have hN157 := hN148.trans hu152 (fun k hk hkb => by subst hkb; omega)
    clear hb147 hst150 K154 hL155 hN148 hr146 hu152 hf153
    refine st_nil ?_
    clear h143
    refine hK135 _ _ ?_
    clear hK135 K135
    refine wp_ret (ret_k hd141 (v := .agg #[.bool (decide (sgn true (val (canon (val (canon x.natAbs) - val (canon y.natAbs)))) < 0)), sv A144 (canon (sgn true (val (canon (val (canon x.natAbs) - val (canon y.natAbs))))).natAbs) cc145]) (res_c rfl h142 (l_two Try.isAgg24 Try.sizeOf24 hb151)) ?_)
    have hz1 : sgn true (val (canon (val (canon x.natAbs) - val (canon y.natAbs)))) = x + y := sum_gt (d := true) (d' := false) ht28 ht29 (by decide) ht83
    exact ⟨A144, cc145, congrArg (fun z : Int => Ending.returned (Value.agg #[.bool (decide (z < 0)), sv A144 (canon z.natAbs) cc145])) hz1, Eq.mp (congrArg (fun z : Int => SRow _ .u32 A144 (canon z.natAbs) cc145) hz1) hr156, hN157⟩
  have ht28d := of_decide_eq_false ht28
  rcases Bool.eq_false_or_eq_true (decide (y < 0)) with ht158 | ht158
  · skip
    have ht158d := of_decide_eq_true ht158
    refine wp_g0 [true, true, true, true, true] [] 40
      [ve (pv q9),
       ve (.bool false),
       ve (pv q13),
       ve (.bool true),
       ve (.bool false)] hs6 (.eq (.eq (.eq (.eq (.eq (.nil)))))) ?_ ?_
    · skip
      refine .o1 (tk rfl rfl fun _ w hn k => ⟨_, v_field rfl (k.fx 2 h8) (fun w => rfl), rfl⟩) ?_
      refine .o1 (tk rfl rfl fun _ w hn k => ⟨_, v_load rfl (k.eq1 0 5 rfl) (l_one Try.isAgg4 ((hb11.new_ hn).cell 0)), congrArg Value.bool ht28⟩) ?_
      refine .o1 (tk rfl rfl fun _ w hn k => ⟨_, v_field rfl (k.fx 3 h12) (fun w => rfl), rfl⟩) ?_
      refine .o1 (tk rfl rfl fun _ w hn k => ⟨_, v_load rfl (k.eq1 2 7 rfl) (l_one Try.isAgg4 ((hb15.new_ hn).cell 0)), congrArg Value.bool ht158⟩) ?_
      refine .o1 (tk rfl rfl fun _ w hn k => ⟨_, v_bin rfl (k.eq1 1 6 rfl) (k.eq1 3 8 rfl) (fun _ => rfl) (fun w => by kernel_rfl), rfl⟩) ?_
      exact .nil
    intro a159 w160 hn161 ha162
    have hs163 := ha162.size.trans hs6
    have hd164 := ha162.defers.trans hd7
    have h165 := ha162.fx 2 h8
    have h166 := ha162.fx 3 h12
    have h167 := ha162.fx 4 h16
    have h168 := ha162.ge 4 9 rfl
    have hb169 := hb11.new_ hn161
    have hb170 := hb15.new_ hn161
    have hb171 := hb19.new_ hn161
    have hN172 := hN25.transNew hn161
    clear hs6 hd7 h8 h12 h16 hb11 hb15 hb19 hN25 ha162 hn161
    refine st_nil ?_
    refine hK27 _ _ ?_
    clear hK27 K27
    refine wp_cond_false h168 ?_
    refine wp_skip ?_
    refine hK26 _ _ ?_
    clear hK26 K26
    refine wp_seq_k fun K173 hK173 => ?_
    refine wp_seq_k fun K174 hK174 => ?_
    rcases Bool.eq_false_or_eq_true (decide ((cmpN (val (canon x.natAbs)) (val (canon y.natAbs))) < 0)) with ht175 | ht175
    · skip
      have ht175d := of_decide_eq_true ht175
      refine wp_g0 [true, true, true, true, true, true] [] 40
        [ve (.pointer (some ⟨q9, 1, none⟩)),
         ve (sv A (canon x.natAbs) c),
         ve (.pointer (some ⟨q13, 1, none⟩)),
         ve (sv B (canon y.natAbs) d),
         ve (iv (cmpN (val (canon x.natAbs)) (val (canon y.natAbs)))),
         ve (.bool false)] hs163 (.eq (.eq (.eq (.eq (.eq (.eq (.nil))))))) ?_ ?_
      · skip
        refine .o1 (tk rfl rfl fun _ w hn k => ⟨_, v_field rfl (k.fx 2 h165) (fun w => rfl), rfl⟩) ?_
        refine .o1 (tk rfl rfl fun _ w hn k => ⟨_, v_load rfl (k.eq1 0 18 rfl) (l_one Try.isAgg22 ((hb169.new_ hn).cell 1)), rfl⟩) ?_
        refine .o1 (tk rfl rfl fun _ w hn k => ⟨_, v_field rfl (k.fx 3 h166) (fun w => rfl), rfl⟩) ?_
        refine .o1 (tk rfl rfl fun _ w hn k => ⟨_, v_load rfl (k.eq1 2 20 rfl) (l_one Try.isAgg22 ((hb170.new_ hn).cell 1)), rfl⟩) ?_
        refine .o1 (ck rfl rfl rfl (fun _ w hn k => ⟨#[sv A (canon x.natAbs) c, sv B (canon y.natAbs) d], args2 (k.eq1 1 19 rfl) (k.eq1 3 21 rfl), fun _ => by kernel_rfl, rcmp_c _ _ _ _ _ _ _ (hra.new_ (hN172.transNew hn)) (hrb.new_ (hN172.transNew hn)) (limbs_canon _) (limbs_canon _) (by first | omega | (simp only [List.length_nil, List.length_cons, List.length_set, List.length_replicate]; omega)) (by first | omega | (simp only [List.length_nil, List.length_cons, List.length_set, List.length_replicate]; omega))⟩) fun _ => rfl) ?_
        refine .o1 (tk rfl rfl fun _ w hn k => ⟨_, v_bin rfl (k.eq1 4 22 rfl) rfl (fun _ => rfl) (r_geqK ht175), rfl⟩) ?_
        exact .nil
      intro a176 w177 hn178 ha179
      have hs180 := ha179.size.trans hs163
      have hd181 := ha179.defers.trans hd164
      have h182 := ha179.fx 2 h165
      have h183 := ha179.fx 3 h166
      have h184 := ha179.fx 4 h167
      have h185 := ha179.ge 5 23 rfl
      have hb186 := hb169.new_ hn178
      have hb187 := hb170.new_ hn178
      have hb188 := hb171.new_ hn178
      have hN189 := hN172.transNew hn178
      clear hs163 hd164 h165 h166 h167 h168 hb169 hb170 hb171 hN172 ha179 hn178
      refine st_nil ?_
      refine hK174 _ _ ?_
      clear hK174 K174
      refine wp_cond_false h185 ?_
      refine wp_skip ?_
      refine hK173 _ _ ?_
      clear hK173 K173
      refine wp_seq_k fun K190 hK190 => ?_
      refine wp_g0 [true, true, true, true, true, true, true, true, false] [(8, false)] 40
        [ve (pv q13),
         ve (.bool true),
         ve (.pointer (some ⟨q13, 1, none⟩)),
         ve (sv B (canon y.natAbs) d),
         ve (.pointer (some ⟨q9, 1, none⟩)),
         ve (sv A (canon x.natAbs) c),
         (fun (v : Value) (W : World) => ∃ (A51 : Option Addr) (c52 : Nat), v = sv A51 (canon (val (canon y.natAbs) - val (canon x.natAbs))) c52 ∧ SOwn W w177.heap.size 50 .u32 A51 (canon (val (canon y.natAbs) - val (canon x.natAbs))) c52),
         (fun (v : Value) (W : World) => ∃ (A59 : Option Addr) (c60 : Nat), v = .agg #[.bool (decide (sgn true (val (canon (val (canon y.natAbs) - val (canon x.natAbs)))) < 0)), sv A59 (canon (sgn true (val (canon (val (canon y.natAbs) - val (canon x.natAbs))))).natAbs) c60] ∧ SRow W .u32 A59 (canon (sgn true (val (canon (val (canon y.natAbs) - val (canon x.natAbs))))).natAbs) c60),
         vt] hs180 (.eq (.eq (.eq (.eq (.eq (.eq (.cons (fun v W W' hn ⟨A51, c52, he, h0⟩ => ⟨A51, c52, he, h0.new_ hn⟩) (.cons (fun v W W' hn ⟨A59, c60, he, h0⟩ => ⟨A59, c60, he, h0.new_ hn⟩) (.tt (.nil)))))))))) ?_ ?_
      · skip
        refine .o1 (tk rfl rfl fun _ w hn k => ⟨_, v_field rfl (k.fx 3 h183) (fun w => rfl), rfl⟩) ?_
        refine .o1 (tk rfl rfl fun _ w hn k => ⟨_, v_load rfl (k.eq1 0 32 rfl) (l_one Try.isAgg4 ((hb187.new_ hn).cell 0)), congrArg Value.bool ht158⟩) ?_
        refine .o1 (tk rfl rfl fun _ w hn k => ⟨_, v_field rfl (k.fx 3 h183) (fun w => rfl), rfl⟩) ?_
        refine .o1 (tk rfl rfl fun _ w hn k => ⟨_, v_load rfl (k.eq1 2 34 rfl) (l_one Try.isAgg22 ((hb187.new_ hn).cell 1)), rfl⟩) ?_
        refine .o1 (tk rfl rfl fun _ w hn k => ⟨_, v_field rfl (k.fx 2 h182) (fun w => rfl), rfl⟩) ?_
        refine .o1 (tk rfl rfl fun _ w hn k => ⟨_, v_load rfl (k.eq1 4 36 rfl) (l_one Try.isAgg22 ((hb186.new_ hn).cell 1)), rfl⟩) ?_
        refine .o1 (tkC rfl (noG rfl) rfl fun _ w hn k => (by
              refine ⟨#[sv B (canon y.natAbs) d, sv A (canon x.natAbs) c], _, args2 (k.eq1 3 35 rfl) (k.eq1 5 37 rfl), fun w => by kernel_rfl, rminus_c _ _ _ _ _ _ _ (hrb.new_ (hN189.transNew hn)) (hra.new_ (hN189.transNew hn)) (limbs_canon _) (limbs_canon _) (by first | omega | (simp only [List.length_nil, List.length_cons, List.length_set, List.length_replicate]; omega)) (by first | omega | (simp only [List.length_nil, List.length_cons, List.length_set, List.length_replicate]; omega)) (Nat.le_of_lt (cmpN_lt ht175)), ?_⟩
              rintro e w' ⟨A49, c50, rfl, hmo, hm⟩
              exact ⟨_, rfl, hm, ⟨A49, c50, rfl, (hmo.more hn.size)⟩⟩)) ?_
        refine .o1 (tkC rfl (noG rfl) rfl fun _ w hn k => (by
              obtain ⟨A53, c54, e55, hx56⟩ : (fun (v : Value) (W : World) => ∃ (A51 : Option Addr) (c52 : Nat), v = sv A51 (canon (val (canon y.natAbs) - val (canon x.natAbs))) c52 ∧ SOwn W w177.heap.size 50 .u32 A51 (canon (val (canon y.natAbs) - val (canon x.natAbs))) c52) _ _ := k.dep 6 38 (by kernel_rfl) (by kernel_rfl)
              refine ⟨#[.bool true, sv A53 (canon (val (canon y.natAbs) - val (canon x.natAbs))) c54], _, args2 (k.eq1 1 33 rfl) e55, fun w => by kernel_rfl, rmade_c _ _ _ _ _ hx56.row (limbs_canon _) (by first | omega | (simp only [List.length_nil, List.length_cons, List.length_set, List.length_replicate]; omega)), ?_⟩
              rintro e w' ⟨A57, c58, rfl, hmo, hm⟩
              exact ⟨_, rfl, hm, ⟨A57, c58, rfl, hmo⟩⟩)) ?_
        refine .off ?_
        exact .nil
      intro a191 w192 hn193 ha194
      have hs195 := ha194.size.trans hs180
      have hd196 := ha194.defers.trans hd181
      have h197 := ha194.fx 4 h184
      obtain ⟨A199, cc200, h198, hr201⟩ : (fun (v : Value) (W : World) => ∃ (A59 : Option Addr) (c60 : Nat), v = .agg #[.bool (decide (sgn true (val (canon (val (canon y.natAbs) - val (canon x.natAbs)))) < 0)), sv A59 (canon (sgn true (val (canon (val (canon y.natAbs) - val (canon x.natAbs))))).natAbs) c60] ∧ SRow W .u32 A59 (canon (sgn true (val (canon (val (canon y.natAbs) - val (canon x.natAbs))))).natAbs) c60) _ _ := ha194.got 7 39 rfl (by kernel_rfl)
      have h198 : a191.eval (.tmp 39) = .agg #[.bool (decide (sgn true (val (canon (val (canon y.natAbs) - val (canon x.natAbs)))) < 0)), sv A199 (canon (sgn true (val (canon (val (canon y.natAbs) - val (canon x.natAbs))))).natAbs) cc200] := h198
      have hb202 := hb188.new_ hn193
      have hN203 := hN189.transNew hn193
      clear hs180 hd181 h182 h183 h184 h185 hb186 hq22 hb187 hq23 hb188 hN189 ha194 hn193
      obtain ⟨w204, -, hst205, hb206, hu207, hf208⟩ := s_two (v0 := .bool (decide (sgn true (val (canon (val (canon y.natAbs) - val (canon x.natAbs)))) < 0))) (v1 := sv A199 (canon (sgn true (val (canon (val (canon y.natAbs) - val (canon x.natAbs))))).natAbs) cc200) Try.sizeOf24 rfl rfl rfl hb202
      refine st_act rfl rfl fun K209 hL210 => a_store' rfl h197 h198 hst205 (hL210 _ _ trivial ?_)
      have hr211 := hr201.far hb202 hu207 (by first | rfl | decide | simp [notK])
      have hN212 := hN203.trans hu207 (fun k hk hkb => by subst hkb; omega)
      clear hb202 hst205 K209 hL210 hN203 hr201 hu207 hf208
      refine st_nil ?_
      clear h198
      refine hK190 _ _ ?_
      clear hK190 K190
      refine wp_ret (ret_k hd196 (v := .agg #[.bool (decide (sgn true (val (canon (val (canon y.natAbs) - val (canon x.natAbs)))) < 0)), sv A199 (canon (sgn true (val (canon (val (canon y.natAbs) - val (canon x.natAbs))))).natAbs) cc200]) (res_c rfl h197 (l_two Try.isAgg24 Try.sizeOf24 hb206)) ?_)
      have hz1 : sgn true (val (canon (val (canon y.natAbs) - val (canon x.natAbs)))) = x + y := sum_lt (d := false) (d' := true) ht28 ht158 (by decide) ht175
      exact ⟨A199, cc200, congrArg (fun z : Int => Ending.returned (Value.agg #[.bool (decide (z < 0)), sv A199 (canon z.natAbs) cc200])) hz1, Eq.mp (congrArg (fun z : Int => SRow _ .u32 A199 (canon z.natAbs) cc200) hz1) hr211, hN212⟩
    have ht175d := of_decide_eq_false ht175
    refine wp_g0 [true, true, true, true, true, true] [] 40
      [ve (.pointer (some ⟨q9, 1, none⟩)),
       ve (sv A (canon x.natAbs) c),
       ve (.pointer (some ⟨q13, 1, none⟩)),
       ve (sv B (canon y.natAbs) d),
       ve (iv (cmpN (val (canon x.natAbs)) (val (canon y.natAbs)))),
       ve (.bool true)] hs163 (.eq (.eq (.eq (.eq (.eq (.eq (.nil))))))) ?_ ?_
    · skip
      refine .o1 (tk rfl rfl fun _ w hn k => ⟨_, v_field rfl (k.fx 2 h165) (fun w => rfl), rfl⟩) ?_
      refine .o1 (tk rfl rfl fun _ w hn k => ⟨_, v_load rfl (k.eq1 0 18 rfl) (l_one Try.isAgg22 ((hb169.new_ hn).cell 1)), rfl⟩) ?_
      refine .o1 (tk rfl rfl fun _ w hn k => ⟨_, v_field rfl (k.fx 3 h166) (fun w => rfl), rfl⟩) ?_
      refine .o1 (tk rfl rfl fun _ w hn k => ⟨_, v_load rfl (k.eq1 2 20 rfl) (l_one Try.isAgg22 ((hb170.new_ hn).cell 1)), rfl⟩) ?_
      refine .o1 (ck rfl rfl rfl (fun _ w hn k => ⟨#[sv A (canon x.natAbs) c, sv B (canon y.natAbs) d], args2 (k.eq1 1 19 rfl) (k.eq1 3 21 rfl), fun _ => by kernel_rfl, rcmp_c _ _ _ _ _ _ _ (hra.new_ (hN172.transNew hn)) (hrb.new_ (hN172.transNew hn)) (limbs_canon _) (limbs_canon _) (by first | omega | (simp only [List.length_nil, List.length_cons, List.length_set, List.length_replicate]; omega)) (by first | omega | (simp only [List.length_nil, List.length_cons, List.length_set, List.length_replicate]; omega))⟩) fun _ => rfl) ?_
      refine .o1 (tk rfl rfl fun _ w hn k => ⟨_, v_bin rfl (k.eq1 4 22 rfl) rfl (fun _ => rfl) (r_geqK ht175), rfl⟩) ?_
      exact .nil
    intro a213 w214 hn215 ha216
    have hs217 := ha216.size.trans hs163
    have hd218 := ha216.defers.trans hd164
    have h219 := ha216.fx 2 h165
    have h220 := ha216.fx 3 h166
    have h221 := ha216.fx 4 h167
    have h222 := ha216.ge 5 23 rfl
    have hb223 := hb169.new_ hn215
    have hb224 := hb170.new_ hn215
    have hb225 := hb171.new_ hn215
    have hN226 := hN172.transNew hn215
    clear hs163 hd164 h165 h166 h167 h168 hb169 hb170 hb171 hN172 ha216 hn215
    refine st_nil ?_
    refine hK174 _ _ ?_
    clear hK174 K174
    refine wp_cond_true h222 ?_
    refine wp_seq_k fun K227 hK227 => ?_
    refine wp_g0 [true, true, true, true, true, true, true, true, false] [(8, false)] 40
      [ve (pv q9),
       ve (.bool false),
       ve (.pointer (some ⟨q9, 1, none⟩)),
       ve (sv A (canon x.natAbs) c),
       ve (.pointer (some ⟨q13, 1, none⟩)),
       ve (sv B (canon y.natAbs) d),
       (fun (v : Value) (W : World) => ∃ (A67 : Option Addr) (c68 : Nat), v = sv A67 (canon (val (canon x.natAbs) - val (canon y.natAbs))) c68 ∧ SOwn W w214.heap.size 50 .u32 A67 (canon (val (canon x.natAbs) - val (canon y.natAbs))) c68),
       (fun (v : Value) (W : World) => ∃ (A75 : Option Addr) (c76 : Nat), v = .agg #[.bool (decide (sgn false (val (canon (val (canon x.natAbs) - val (canon y.natAbs)))) < 0)), sv A75 (canon (sgn false (val (canon (val (canon x.natAbs) - val (canon y.natAbs))))).natAbs) c76] ∧ SRow W .u32 A75 (canon (sgn false (val (canon (val (canon x.natAbs) - val (canon y.natAbs))))).natAbs) c76),
       vt] hs217 (.eq (.eq (.eq (.eq (.eq (.eq (.cons (fun v W W' hn ⟨A67, c68, he, h0⟩ => ⟨A67, c68, he, h0.new_ hn⟩) (.cons (fun v W W' hn ⟨A75, c76, he, h0⟩ => ⟨A75, c76, he, h0.new_ hn⟩) (.tt (.nil)))))))))) ?_ ?_
    · skip
      refine .o1 (tk rfl rfl fun _ w hn k => ⟨_, v_field rfl (k.fx 2 h219) (fun w => rfl), rfl⟩) ?_
      refine .o1 (tk rfl rfl fun _ w hn k => ⟨_, v_load rfl (k.eq1 0 24 rfl) (l_one Try.isAgg4 ((hb223.new_ hn).cell 0)), congrArg Value.bool ht28⟩) ?_
      refine .o1 (tk rfl rfl fun _ w hn k => ⟨_, v_field rfl (k.fx 2 h219) (fun w => rfl), rfl⟩) ?_
      refine .o1 (tk rfl rfl fun _ w hn k => ⟨_, v_load rfl (k.eq1 2 26 rfl) (l_one Try.isAgg22 ((hb223.new_ hn).cell 1)), rfl⟩) ?_
      refine .o1 (tk rfl rfl fun _ w hn k => ⟨_, v_field rfl (k.fx 3 h220) (fun w => rfl), rfl⟩) ?_
      refine .o1 (tk rfl rfl fun _ w hn k => ⟨_, v_load rfl (k.eq1 4 28 rfl) (l_one Try.isAgg22 ((hb224.new_ hn).cell 1)), rfl⟩) ?_
      refine .o1 (tkC rfl (noG rfl) rfl fun _ w hn k => (by
            refine ⟨#[sv A (canon x.natAbs) c, sv B (canon y.natAbs) d], _, args2 (k.eq1 3 27 rfl) (k.eq1 5 29 rfl), fun w => by kernel_rfl, rminus_c _ _ _ _ _ _ _ (hra.new_ (hN226.transNew hn)) (hrb.new_ (hN226.transNew hn)) (limbs_canon _) (limbs_canon _) (by first | omega | (simp only [List.length_nil, List.length_cons, List.length_set, List.length_replicate]; omega)) (by first | omega | (simp only [List.length_nil, List.length_cons, List.length_set, List.length_replicate]; omega)) (cmpN_ge ht175), ?_⟩
            rintro e w' ⟨A65, c66, rfl, hmo, hm⟩
            exact ⟨_, rfl, hm, ⟨A65, c66, rfl, (hmo.more hn.size)⟩⟩)) ?_
      refine .o1 (tkC rfl (noG rfl) rfl fun _ w hn k => (by
            obtain ⟨A69, c70, e71, hx72⟩ : (fun (v : Value) (W : World) => ∃ (A67 : Option Addr) (c68 : Nat), v = sv A67 (canon (val (canon x.natAbs) - val (canon y.natAbs))) c68 ∧ SOwn W w214.heap.size 50 .u32 A67 (canon (val (canon x.natAbs) - val (canon y.natAbs))) c68) _ _ := k.dep 6 30 (by kernel_rfl) (by kernel_rfl)
            refine ⟨#[.bool false, sv A69 (canon (val (canon x.natAbs) - val (canon y.natAbs))) c70], _, args2 (k.eq1 1 25 rfl) e71, fun w => by kernel_rfl, rmade_c _ _ _ _ _ hx72.row (limbs_canon _) (by first | omega | (simp only [List.length_nil, List.length_cons, List.length_set, List.length_replicate]; omega)), ?_⟩
            rintro e w' ⟨A73, c74, rfl, hmo, hm⟩
            exact ⟨_, rfl, hm, ⟨A73, c74, rfl, hmo⟩⟩)) ?_
      refine .off ?_
      exact .nil
    intro a228 w229 hn230 ha231
    have hs232 := ha231.size.trans hs217
    have hd233 := ha231.defers.trans hd218
    have h234 := ha231.fx 4 h221
    obtain ⟨A236, cc237, h235, hr238⟩ : (fun (v : Value) (W : World) => ∃ (A75 : Option Addr) (c76 : Nat), v = .agg #[.bool (decide (sgn false (val (canon (val (canon x.natAbs) - val (canon y.natAbs)))) < 0)), sv A75 (canon (sgn false (val (canon (val (canon x.natAbs) - val (canon y.natAbs))))).natAbs) c76] ∧ SRow W .u32 A75 (canon (sgn false (val (canon (val (canon x.natAbs) - val (canon y.natAbs))))).natAbs) c76) _ _ := ha231.got 7 31 rfl (by kernel_rfl)
    have h235 : a228.eval (.tmp 31) = .agg #[.bool (decide (sgn false (val (canon (val (canon x.natAbs) - val (canon y.natAbs)))) < 0)), sv A236 (canon (sgn false (val (canon (val (canon x.natAbs) - val (canon y.natAbs))))).natAbs) cc237] := h235
    have hb239 := hb225.new_ hn230
    have hN240 := hN226.transNew hn230
    clear hs217 hd218 h219 h220 h221 h222 hb223 hq22 hb224 hq23 hb225 hN226 ha231 hn230
    obtain ⟨w241, -, hst242, hb243, hu244, hf245⟩ := s_two (v0 := .bool (decide (sgn false (val (canon (val (canon x.natAbs) - val (canon y.natAbs)))) < 0))) (v1 := sv A236 (canon (sgn false (val (canon (val (canon x.natAbs) - val (canon y.natAbs))))).natAbs) cc237) Try.sizeOf24 rfl rfl rfl hb239
    refine st_act rfl rfl fun K246 hL247 => a_store' rfl h234 h235 hst242 (hL247 _ _ trivial ?_)
    have hr248 := hr238.far hb239 hu244 (by first | rfl | decide | simp [notK])
    have hN249 := hN240.trans hu244 (fun k hk hkb => by subst hkb; omega)
    clear hb239 hst242 K246 hL247 hN240 hr238 hu244 hf245
    refine st_nil ?_
    clear h235
    refine hK227 _ _ ?_
    clear hK227 K227
    refine wp_ret (ret_k hd233 (v := .agg #[.bool (decide (sgn false (val (canon (val (canon x.natAbs) - val (canon y.natAbs)))) < 0)), sv A236 (canon (sgn false (val (canon (val (canon x.natAbs) - val (canon y.natAbs))))).natAbs) cc237]) (res_c rfl h234 (l_two Try.isAgg24 Try.sizeOf24 hb243)) ?_)
    have hz1 : sgn false (val (canon (val (canon x.natAbs) - val (canon y.natAbs)))) = x + y := sum_gt (d := false) (d' := true) ht28 ht158 (by decide) ht175
    exact ⟨A236, cc237, congrArg (fun z : Int => Ending.returned (Value.agg #[.bool (decide (z < 0)), sv A236 (canon z.natAbs) cc237])) hz1, Eq.mp (congrArg (fun z : Int => SRow _ .u32 A236 (canon z.natAbs) cc237) hz1) hr248, hN249⟩
  have ht158d := of_decide_eq_false ht158
  refine wp_g0 [true, true, true, true, true] [] 40
    [ve (pv q9),
     ve (.bool false),
     ve (pv q13),
     ve (.bool false),
     ve (.bool true)] hs6 (.eq (.eq (.eq (.eq (.eq (.nil)))))) ?_ ?_
  · skip
    refine .o1 (tk rfl rfl fun _ w hn k => ⟨_, v_field rfl (k.fx 2 h8) (fun w => rfl), rfl⟩) ?_
    refine .o1 (tk rfl rfl fun _ w hn k => ⟨_, v_load rfl (k.eq1 0 5 rfl) (l_one Try.isAgg4 ((hb11.new_ hn).cell 0)), congrArg Value.bool ht28⟩) ?_
    refine .o1 (tk rfl rfl fun _ w hn k => ⟨_, v_field rfl (k.fx 3 h12) (fun w => rfl), rfl⟩) ?_
    refine .o1 (tk rfl rfl fun _ w hn k => ⟨_, v_load rfl (k.eq1 2 7 rfl) (l_one Try.isAgg4 ((hb15.new_ hn).cell 0)), congrArg Value.bool ht158⟩) ?_
    refine .o1 (tk rfl rfl fun _ w hn k => ⟨_, v_bin rfl (k.eq1 1 6 rfl) (k.eq1 3 8 rfl) (fun _ => rfl) (fun w => by kernel_rfl), rfl⟩) ?_
    exact .nil
  intro a250 w251 hn252 ha253
  have hs254 := ha253.size.trans hs6
  have hd255 := ha253.defers.trans hd7
  have h256 := ha253.fx 2 h8
  have h257 := ha253.fx 3 h12
  have h258 := ha253.fx 4 h16
  have h259 := ha253.ge 4 9 rfl
  have hb260 := hb11.new_ hn252
  have hb261 := hb15.new_ hn252
  have hb262 := hb19.new_ hn252
  have hN263 := hN25.transNew hn252
  clear hs6 hd7 h8 h12 h16 hb11 hb15 hb19 hN25 ha253 hn252
  refine st_nil ?_
  refine hK27 _ _ ?_
  clear hK27 K27
  refine wp_cond_true h259 ?_
  refine wp_seq_k fun K264 hK264 => ?_
  refine wp_g0 [true, true, true, true, true, true, true, true, false] [(8, false)] 40
    [ve (pv q9),
     ve (.bool false),
     ve (.pointer (some ⟨q9, 1, none⟩)),
     ve (sv A (canon x.natAbs) c),
     ve (.pointer (some ⟨q13, 1, none⟩)),
     ve (sv B (canon y.natAbs) d),
     (fun (v : Value) (W : World) => ∃ (A83 : Option Addr) (c84 : Nat), v = sv A83 (canon (val (canon x.natAbs) + val (canon y.natAbs))) c84 ∧ SOwn W w251.heap.size 50 .u32 A83 (canon (val (canon x.natAbs) + val (canon y.natAbs))) c84),
     (fun (v : Value) (W : World) => ∃ (A91 : Option Addr) (c92 : Nat), v = .agg #[.bool (decide (sgn false (val (canon (val (canon x.natAbs) + val (canon y.natAbs)))) < 0)), sv A91 (canon (sgn false (val (canon (val (canon x.natAbs) + val (canon y.natAbs))))).natAbs) c92] ∧ SRow W .u32 A91 (canon (sgn false (val (canon (val (canon x.natAbs) + val (canon y.natAbs))))).natAbs) c92),
     vt] hs254 (.eq (.eq (.eq (.eq (.eq (.eq (.cons (fun v W W' hn ⟨A83, c84, he, h0⟩ => ⟨A83, c84, he, h0.new_ hn⟩) (.cons (fun v W W' hn ⟨A91, c92, he, h0⟩ => ⟨A91, c92, he, h0.new_ hn⟩) (.tt (.nil)))))))))) ?_ ?_
  · skip
    refine .o1 (tk rfl rfl fun _ w hn k => ⟨_, v_field rfl (k.fx 2 h256) (fun w => rfl), rfl⟩) ?_
    refine .o1 (tk rfl rfl fun _ w hn k => ⟨_, v_load rfl (k.eq1 0 10 rfl) (l_one Try.isAgg4 ((hb260.new_ hn).cell 0)), congrArg Value.bool ht28⟩) ?_
    refine .o1 (tk rfl rfl fun _ w hn k => ⟨_, v_field rfl (k.fx 2 h256) (fun w => rfl), rfl⟩) ?_
    refine .o1 (tk rfl rfl fun _ w hn k => ⟨_, v_load rfl (k.eq1 2 12 rfl) (l_one Try.isAgg22 ((hb260.new_ hn).cell 1)), rfl⟩) ?_
    refine .o1 (tk rfl rfl fun _ w hn k => ⟨_, v_field rfl (k.fx 3 h257) (fun w => rfl), rfl⟩) ?_
    refine .o1 (tk rfl rfl fun _ w hn k => ⟨_, v_load rfl (k.eq1 4 14 rfl) (l_one Try.isAgg22 ((hb261.new_ hn).cell 1)), rfl⟩) ?_
    refine .o1 (tkC rfl (noG rfl) rfl fun _ w hn k => (by
          refine ⟨#[sv A (canon x.natAbs) c, sv B (canon y.natAbs) d], _, args2 (k.eq1 3 13 rfl) (k.eq1 5 15 rfl), fun w => by kernel_rfl, rplus_c _ _ _ _ _ _ _ (hra.new_ (hN263.transNew hn)) (hrb.new_ (hN263.transNew hn)) (limbs_canon _) (limbs_canon _) (by first | omega | (simp only [List.length_nil, List.length_cons, List.length_set, List.length_replicate]; omega)) (by first | omega | (simp only [List.length_nil, List.length_cons, List.length_set, List.length_replicate]; omega)), ?_⟩
          rintro e w' ⟨A81, c82, rfl, hmo, hm⟩
          exact ⟨_, rfl, hm, ⟨A81, c82, rfl, (hmo.more hn.size)⟩⟩)) ?_
    refine .o1 (tkC rfl (noG rfl) rfl fun _ w hn k => (by
          obtain ⟨A85, c86, e87, hx88⟩ : (fun (v : Value) (W : World) => ∃ (A83 : Option Addr) (c84 : Nat), v = sv A83 (canon (val (canon x.natAbs) + val (canon y.natAbs))) c84 ∧ SOwn W w251.heap.size 50 .u32 A83 (canon (val (canon x.natAbs) + val (canon y.natAbs))) c84) _ _ := k.dep 6 16 (by kernel_rfl) (by kernel_rfl)
          refine ⟨#[.bool false, sv A85 (canon (val (canon x.natAbs) + val (canon y.natAbs))) c86], _, args2 (k.eq1 1 11 rfl) e87, fun w => by kernel_rfl, rmade_c _ _ _ _ _ hx88.row (limbs_canon _) (by first | omega | (simp only [List.length_nil, List.length_cons, List.length_set, List.length_replicate]; omega)), ?_⟩
          rintro e w' ⟨A89, c90, rfl, hmo, hm⟩
          exact ⟨_, rfl, hm, ⟨A89, c90, rfl, hmo⟩⟩)) ?_
    refine .off ?_
    exact .nil
  intro a265 w266 hn267 ha268
  have hs269 := ha268.size.trans hs254
  have hd270 := ha268.defers.trans hd255
  have h271 := ha268.fx 4 h258
  obtain ⟨A273, cc274, h272, hr275⟩ : (fun (v : Value) (W : World) => ∃ (A91 : Option Addr) (c92 : Nat), v = .agg #[.bool (decide (sgn false (val (canon (val (canon x.natAbs) + val (canon y.natAbs)))) < 0)), sv A91 (canon (sgn false (val (canon (val (canon x.natAbs) + val (canon y.natAbs))))).natAbs) c92] ∧ SRow W .u32 A91 (canon (sgn false (val (canon (val (canon x.natAbs) + val (canon y.natAbs))))).natAbs) c92) _ _ := ha268.got 7 17 rfl (by kernel_rfl)
  have h272 : a265.eval (.tmp 17) = .agg #[.bool (decide (sgn false (val (canon (val (canon x.natAbs) + val (canon y.natAbs)))) < 0)), sv A273 (canon (sgn false (val (canon (val (canon x.natAbs) + val (canon y.natAbs))))).natAbs) cc274] := h272
  have hb276 := hb262.new_ hn267
  have hN277 := hN263.transNew hn267
  clear hs254 hd255 h256 h257 h258 h259 hb260 hq22 hb261 hq23 hb262 hN263 ha268 hn267
  obtain ⟨w278, -, hst279, hb280, hu281, hf282⟩ := s_two (v0 := .bool (decide (sgn false (val (canon (val (canon x.natAbs) + val (canon y.natAbs)))) < 0))) (v1 := sv A273 (canon (sgn false (val (canon (val (canon x.natAbs) + val (canon y.natAbs))))).natAbs) cc274) Try.sizeOf24 rfl rfl rfl hb276
  refine st_act rfl rfl fun K283 hL284 => a_store' rfl h271 h272 hst279 (hL284 _ _ trivial ?_)
  have hr285 := hr275.far hb276 hu281 (by first | rfl | decide | simp [notK])
  have hN286 := hN277.trans hu281 (fun k hk hkb => by subst hkb; omega)
  clear hb276 hst279 K283 hL284 hN277 hr275 hu281 hf282
  refine st_nil ?_
  clear h272
  refine hK264 _ _ ?_
  clear hK264 K264
  refine wp_ret (ret_k hd270 (v := .agg #[.bool (decide (sgn false (val (canon (val (canon x.natAbs) + val (canon y.natAbs)))) < 0)), sv A273 (canon (sgn false (val (canon (val (canon x.natAbs) + val (canon y.natAbs))))).natAbs) cc274]) (res_c rfl h271 (l_two Try.isAgg24 Try.sizeOf24 hb280)) ?_)
  have hz1 : sgn false (val (canon (val (canon x.natAbs) + val (canon y.natAbs)))) = x + y := sum_same (d := false) ht28 ht158
  exact ⟨A273, cc274, congrArg (fun z : Int => Ending.returned (Value.agg #[.bool (decide (z < 0)), sv A273 (canon z.natAbs) cc274])) hz1, Eq.mp (congrArg (fun z : Int => SRow _ .u32 A273 (canon z.natAbs) cc274) hz1) hr285, hN286⟩
set_option maxHeartbeats 4000000 in
set_option maxRecDepth 100000 in
theorem radd_c (b1 : Bool) (A : Option Addr) (a : List Nat) (c : Nat) (b2 : Bool) (B : Option Addr) (b : List Nat) (d : Nat) (w : World) (hra : SRow w .u32 A a c) (ha : Limbs a) (hrb : SRow w .u32 B b d) (hb : Limbs b) : Calls Try.prog 40 #[.agg #[.bool b1, sv A a c], .agg #[.bool b2, sv B b d]] w (RetZB (capI (goodI b1 a + goodI b2 b)) (okI (goodI b1 a + goodI b2 b)) w) := by
  refine enter_abs Try.func40 rfl fun a0 hs0 hd0 hp => ?_
  have hs0 : a0.tmps.size = 14 := hs0
  have hN0 : New w w := Upd.refl _ _
  have hp0 : a0.eval (.tmp 0) = .agg #[.bool b1, sv A a c] := hp 0 _ rfl
  have hp1 : a0.eval (.tmp 1) = .agg #[.bool b2, sv B b d] := hp 1 _ rfl
  clear hp
  refine wp_seq_k fun K1 hK1 => ?_
  refine wp_g [true, true, true, true] [] [] 14
    [IsNew w 24 [.bool b1, sv A a c],
     IsNew w 24 [.bool b2, sv B b d],
     IsNew w 24 [.bool false, sv none ([]) 0],
     ve (.bool false)]
    [0, 1, 2] (newsCons (fun v w h => IsNew.old h) (newsCons (fun v w h => IsNew.old h) (newsCons (fun v w h => IsNew.old h) newsNil))) hs0 (.nw (.nw (.nw (.eq (.nil))))) ?_ (fun i h => by cases h) ?_
  · skip
    refine .o2 (step_allocN (cs := [.bool b1, sv A a c]) (t := 24) rfl (noG rfl) (fun _ w hn k => v_box rfl (k.fx 0 hp0) (fun w => rfl)) (fun q _ hq hb => ⟨q, rfl, hq, hb⟩)) ?_
    refine .o2 (step_allocN (cs := [.bool b2, sv B b d]) (t := 24) rfl (noG rfl) (fun _ w hn k => v_box rfl (k.fx 1 hp1) (fun w => rfl)) (fun q _ hq hb => ⟨q, rfl, hq, hb⟩)) ?_
    refine .o2 (step_allocN (cs := [.bool false, sv none ([]) 0]) (t := 24) rfl (noG rfl) (fun _ w hn k => rfl) (fun q _ hq hb => ⟨q, rfl, hq, hb⟩)) ?_
    refine .o1 (tk rfl rfl fun _ w hn k => ⟨_, v_assign rfl rfl, rfl⟩) ?_
    exact .nil
  intro a2 w3 hn4 ha5
  have hs6 := ha5.size.trans hs0
  have hd7 := ha5.defers.trans hd0
  obtain ⟨q9, h8, hq10, hb11⟩ : IsNew _ _ _ _ _ := ha5.got 0 2 rfl (by kernel_rfl)
  obtain ⟨q13, h12, hq14, hb15⟩ : IsNew _ _ _ _ _ := ha5.got 1 3 rfl (by kernel_rfl)
  obtain ⟨q17, h16, hq18, hb19⟩ : IsNew _ _ _ _ _ := ha5.got 2 4 rfl (by kernel_rfl)
  have hne20 : q9 ≠ q17 := ha5.ne 0 2 2 4 h8 h16
  have hne21 : q13 ≠ q17 := ha5.ne 1 2 3 4 h12 h16
  have hq22 := Nat.le_trans hN0.size hq10
  have hq23 := Nat.le_trans hN0.size hq14
  have hq24 := Nat.le_trans hN0.size hq18
  have hN25 := hN0.transNew hn4
  clear hs0 hd0 hp0 hp1 hq10 hq14 hq18 hN0 ha5 hn4
  refine st_nil ?_
  refine hK1 _ _ ?_
  clear hK1 K1
  refine wp_seq_k fun K26 hK26 => ?_
  refine wp_g0 [true, true, true, true, true, true, true, true, false, false] [(8, false), (9, true)] 14
    [ve (.agg #[.bool b1, sv A a c]),
     (fun (v : Value) (W : World) => ∃ (A3 : Option Addr) (c4 : Nat), v = .agg #[.bool (decide (goodI b1 a < 0)), sv A3 (canon (goodI b1 a).natAbs) c4] ∧ SRow W .u32 A3 (canon (goodI b1 a).natAbs) c4),
     ve (.agg #[.bool b2, sv B b d]),
     (fun (v : Value) (W : World) => ∃ (A7 : Option Addr) (c8 : Nat), v = .agg #[.bool (decide (goodI b2 b < 0)), sv A7 (canon (goodI b2 b).natAbs) c8] ∧ SRow W .u32 A7 (canon (goodI b2 b).natAbs) c8),
     (fun (v : Value) (W : World) => ∃ (A19 : Option Addr) (c20 : Nat), v = .agg #[.bool (decide ((goodI b1 a) + (goodI b2 b) < 0)), sv A19 (canon ((goodI b1 a) + (goodI b2 b)).natAbs) c20] ∧ SRow W .u32 A19 (canon ((goodI b1 a) + (goodI b2 b)).natAbs) c20),
     (fun (v : Value) (W : World) => ∃ (A27 : Option Addr) (c28 : Nat), v = .tuple #[.agg #[.bool (decide (capI ((goodI b1 a) + (goodI b2 b)) < 0)), sv A27 (canon (capI ((goodI b1 a) + (goodI b2 b))).natAbs) c28], .bool (okI ((goodI b1 a) + (goodI b2 b)))] ∧ SRow W .u32 A27 (canon (capI ((goodI b1 a) + (goodI b2 b))).natAbs) c28),
     (fun (v : Value) (W : World) => ∃ (A33 : Option Addr) (c34 : Nat), v = .agg #[.bool (decide (capI ((goodI b1 a) + (goodI b2 b)) < 0)), sv A33 (canon (capI ((goodI b1 a) + (goodI b2 b))).natAbs) c34] ∧ SRow W .u32 A33 (canon (capI ((goodI b1 a) + (goodI b2 b))).natAbs) c34),
     ve (.bool (okI ((goodI b1 a) + (goodI b2 b)))),
     vt,
     vt] hs6 (.eq (.cons (fun v W W' hn ⟨A3, c4, he, h0⟩ => ⟨A3, c4, he, h0.new_ hn⟩) (.eq (.cons (fun v W W' hn ⟨A7, c8, he, h0⟩ => ⟨A7, c8, he, h0.new_ hn⟩) (.cons (fun v W W' hn ⟨A19, c20, he, h0⟩ => ⟨A19, c20, he, h0.new_ hn⟩) (.cons (fun v W W' hn ⟨A27, c28, he, h0⟩ => ⟨A27, c28, he, h0.new_ hn⟩) (.cons (fun v W W' hn ⟨A33, c34, he, h0⟩ => ⟨A33, c34, he, h0.new_ hn⟩) (.eq (.tt (.tt (.nil))))))))))) ?_ ?_
  · skip
    refine .o1 (tk rfl rfl fun _ w hn k => ⟨_, v_load rfl (k.fx 2 h8) (l_two Try.isAgg24 Try.sizeOf24 (hb11.new_ hn)), rfl⟩) ?_
    refine .o1 (tkC rfl (noG rfl) rfl fun _ w hn k => (by
          refine ⟨#[.agg #[.bool b1, sv A a c]], _, args1 (k.eq1 0 6 rfl), fun w => by kernel_rfl, rgood_c _ _ _ _ _ (hra.new_ (hN25.transNew hn)) ha, ?_⟩
          rintro e w' ⟨A1, c2, rfl, hmo, hm⟩
          exact ⟨_, rfl, hm, ⟨A1, c2, rfl, hmo⟩⟩)) ?_
    refine .o1 (tk rfl rfl fun _ w hn k => ⟨_, v_load rfl (k.fx 3 h12) (l_two Try.isAgg24 Try.sizeOf24 (hb15.new_ hn)), rfl⟩) ?_
    refine .o1 (tkC rfl (noG rfl) rfl fun _ w hn k => (by
          refine ⟨#[.agg #[.bool b2, sv B b d]], _, args1 (k.eq1 2 8 rfl), fun w => by kernel_rfl, rgood_c _ _ _ _ _ (hrb.new_ (hN25.transNew hn)) hb, ?_⟩
          rintro e w' ⟨A5, c6, rfl, hmo, hm⟩
          exact ⟨_, rfl, hm, ⟨A5, c6, rfl, hmo⟩⟩)) ?_
    refine .o1 (tkC rfl (noG rfl) rfl fun _ w hn k => (by
          obtain ⟨A9, c10, e11, hx12⟩ : (fun (v : Value) (W : World) => ∃ (A3 : Option Addr) (c4 : Nat), v = .agg #[.bool (decide (goodI b1 a < 0)), sv A3 (canon (goodI b1 a).natAbs) c4] ∧ SRow W .u32 A3 (canon (goodI b1 a).natAbs) c4) _ _ := k.dep 1 7 (by kernel_rfl) (by kernel_rfl)
          obtain ⟨A13, c14, e15, hx16⟩ : (fun (v : Value) (W : World) => ∃ (A7 : Option Addr) (c8 : Nat), v = .agg #[.bool (decide (goodI b2 b < 0)), sv A7 (canon (goodI b2 b).natAbs) c8] ∧ SRow W .u32 A7 (canon (goodI b2 b).natAbs) c8) _ _ := k.dep 3 9 (by kernel_rfl) (by kernel_rfl)
          refine ⟨#[.agg #[.bool (decide (goodI b1 a < 0)), sv A9 (canon (goodI b1 a).natAbs) c10], .agg #[.bool (decide (goodI b2 b < 0)), sv A13 (canon (goodI b2 b).natAbs) c14]], _, args2 e11 e15, fun w => by kernel_rfl, rsum_c _ _ _ _ _ _ _ hx12 hx16 (good_lt ha) (good_lt hb), ?_⟩
          rintro e w' ⟨A17, c18, rfl, hmo, hm⟩
          exact ⟨_, rfl, hm, ⟨A17, c18, rfl, hmo⟩⟩)) ?_
    refine .o1 (tkC rfl (noG rfl) rfl fun _ w hn k => (by
          obtain ⟨A21, c22, e23, hx24⟩ : (fun (v : Value) (W : World) => ∃ (A19 : Option Addr) (c20 : Nat), v = .agg #[.bool (decide ((goodI b1 a) + (goodI b2 b) < 0)), sv A19 (canon ((goodI b1 a) + (goodI b2 b)).natAbs) c20] ∧ SRow W .u32 A19 (canon ((goodI b1 a) + (goodI b2 b)).natAbs) c20) _ _ := k.dep 4 10 (by kernel_rfl) (by kernel_rfl)
          refine ⟨#[.agg #[.bool (decide ((goodI b1 a) + (goodI b2 b) < 0)), sv A21 (canon ((goodI b1 a) + (goodI b2 b)).natAbs) c22]], _, args1 e23, fun w => by kernel_rfl, rfits_c _ _ _ _ hx24, ?_⟩
          rintro e w' ⟨A25, c26, rfl, hmo, hm⟩
          exact ⟨_, rfl, hm, ⟨A25, c26, rfl, hmo⟩⟩)) ?_
    refine .o1 (tk rfl rfl fun _ w hn k => (by
          obtain ⟨A29, c30, e31, hx32⟩ : (fun (v : Value) (W : World) => ∃ (A27 : Option Addr) (c28 : Nat), v = .tuple #[.agg #[.bool (decide (capI ((goodI b1 a) + (goodI b2 b)) < 0)), sv A27 (canon (capI ((goodI b1 a) + (goodI b2 b))).natAbs) c28], .bool (okI ((goodI b1 a) + (goodI b2 b)))] ∧ SRow W .u32 A27 (canon (capI ((goodI b1 a) + (goodI b2 b))).natAbs) c28) _ _ := k.dep 5 11 (by kernel_rfl) (by kernel_rfl)
          exact ⟨_, v_extract rfl e31 rfl, ⟨A29, c30, rfl, hx32⟩⟩)) ?_
    refine .o1 (tk rfl rfl fun _ w hn k => (by
          obtain ⟨A35, c36, e37, hx38⟩ : (fun (v : Value) (W : World) => ∃ (A27 : Option Addr) (c28 : Nat), v = .tuple #[.agg #[.bool (decide (capI ((goodI b1 a) + (goodI b2 b)) < 0)), sv A27 (canon (capI ((goodI b1 a) + (goodI b2 b))).natAbs) c28], .bool (okI ((goodI b1 a) + (goodI b2 b)))] ∧ SRow W .u32 A27 (canon (capI ((goodI b1 a) + (goodI b2 b))).natAbs) c28) _ _ := k.dep 5 11 (by kernel_rfl) (by kernel_rfl)
          exact ⟨_, v_extract rfl e37 rfl, rfl⟩)) ?_
    refine .off ?_
    refine .off ?_
    exact .nil
  intro a27 w28 hn29 ha30
  have hs31 := ha30.size.trans hs6
  have hd32 := ha30.defers.trans hd7
  have h33 := ha30.fx 4 h16
  obtain ⟨A35, cc36, h34, hr37⟩ : (fun (v : Value) (W : World) => ∃ (A33 : Option Addr) (c34 : Nat), v = .agg #[.bool (decide (capI ((goodI b1 a) + (goodI b2 b)) < 0)), sv A33 (canon (capI ((goodI b1 a) + (goodI b2 b))).natAbs) c34] ∧ SRow W .u32 A33 (canon (capI ((goodI b1 a) + (goodI b2 b))).natAbs) c34) _ _ := ha30.got 6 12 rfl (by kernel_rfl)
  have h34 : a27.eval (.tmp 12) = .agg #[.bool (decide (capI ((goodI b1 a) + (goodI b2 b)) < 0)), sv A35 (canon (capI ((goodI b1 a) + (goodI b2 b))).natAbs) cc36] := h34
  have h38 := ha30.ge 7 13 rfl
  have hb39 := hb19.new_ hn29
  have hN40 := hN25.transNew hn29
  clear hs6 hd7 h8 h12 h16 hb11 hq22 hb15 hq23 hb19 hN25 ha30 hn29
  obtain ⟨w41, -, hst42, hb43, hu44, hf45⟩ := s_two (v0 := .bool (decide (capI ((goodI b1 a) + (goodI b2 b)) < 0))) (v1 := sv A35 (canon (capI ((goodI b1 a) + (goodI b2 b))).natAbs) cc36) Try.sizeOf24 rfl rfl rfl hb39
  refine st_act rfl rfl fun K46 hL47 => a_store' rfl h33 h34 hst42 (hL47 _ _ trivial ?_)
  have hr48 := hr37.far hb39 hu44 (by first | rfl | decide | simp [notK])
  have hN49 := hN40.trans hu44 (fun k hk hkb => by subst hkb; omega)
  clear hb39 hst42 K46 hL47 hN40 hr37 hu44 hf45
  refine st_take rfl rfl (y_assign (v := .bool (okI ((goodI b1 a) + (goodI b2 b)))) rfl h38) rfl ?_
  obtain ⟨a50, ha51⟩ : ∃ a', a' = a27.put (some 5) (.bool (okI ((goodI b1 a) + (goodI b2 b)))) := ⟨_, rfl⟩
  have hs52 : a50.tmps.size = 14 := by rw [ha51, put_size]; exact hs31
  have hd53 : a50.defers = [] := by rw [ha51, put_defers]; exact hd32
  have h54 : a50.eval (.tmp 4) = pv q17 := by rw [ha51, put_ne _ _ _ _ (by decide)]; exact h33
  have h55 : a50.eval (.tmp 12) = .agg #[.bool (decide (capI ((goodI b1 a) + (goodI b2 b)) < 0)), sv A35 (canon (capI ((goodI b1 a) + (goodI b2 b))).natAbs) cc36] := by rw [ha51, put_ne _ _ _ _ (by decide)]; exact h34
  have h56 : a50.eval (.tmp 13) = .bool (okI ((goodI b1 a) + (goodI b2 b))) := by rw [ha51, put_ne _ _ _ _ (by decide)]; exact h38
  have h57 : a50.eval (.tmp 5) = .bool (okI ((goodI b1 a) + (goodI b2 b))) := by rw [ha51]; exact put_same _ _ _ (by rw [hs31]; decide)
  show stepsTo _ _ _ _ _ (a27.put (some 5) (.bool (okI ((goodI b1 a) + (goodI b2 b))))) _
  rw [← ha51]
  clear ha51 hs31 hd32 h33 h34 h38
  refine st_nil ?_
  clear h55 h56
  refine hK26 _ _ ?_
  clear hK26 K26
  refine wp_ret (ret_k hd53 (v := .tuple #[.agg #[.bool (decide (capI ((goodI b1 a) + (goodI b2 b)) < 0)), sv A35 (canon (capI ((goodI b1 a) + (goodI b2 b))).natAbs) cc36], .bool (okI ((goodI b1 a) + (goodI b2 b)))]) (res_ct rfl h54 h57 (l_two Try.isAgg24 Try.sizeOf24 hb43)) ?_)
  have hs2 : (.bool (okI ((goodI b1 a) + (goodI b2 b))) : Value) = .bool (okI (goodI b1 a + goodI b2 b)) := by rfl
  have hz1 : capI ((goodI b1 a) + (goodI b2 b)) = capI (goodI b1 a + goodI b2 b) := by rfl
  exact ⟨A35, cc36, (congrArg (fun z : Int => Ending.returned (Value.tuple #[.agg #[.bool (decide (z < 0)), sv A35 (canon z.natAbs) cc36], .bool (okI ((goodI b1 a) + (goodI b2 b)))])) hz1).trans (congrArg (fun y => Ending.returned (Value.tuple #[.agg #[.bool (decide (capI (goodI b1 a + goodI b2 b) < 0)), sv A35 (canon (capI (goodI b1 a + goodI b2 b)).natAbs) cc36], y])) hs2), Eq.mp (congrArg (fun z : Int => SRow _ .u32 A35 (canon z.natAbs) cc36) hz1) hr48, hN49⟩
set_option maxHeartbeats 4000000 in
set_option maxRecDepth 100000 in
theorem rneg_c (b : Bool) (A : Option Addr) (m : List Nat) (c : Nat) (w : World) (hr : SRow w .u32 A m c) (hl : Limbs m) : Calls Try.prog 47 #[.agg #[.bool b, sv A m c]] w (RetZ (-(goodI b m)) w) := by
  refine enter_abs Try.func47 rfl fun a0 hs0 hd0 hp => ?_
  have hs0 : a0.tmps.size = 12 := hs0
  have hN0 : New w w := Upd.refl _ _
  have hp0 : a0.eval (.tmp 0) = .agg #[.bool b, sv A m c] := hp 0 _ rfl
  clear hp
  have h8 := (canon_len8 _).2 (good_lt (b := b) hl)
  refine wp_seq_k fun K1 hK1 => ?_
  refine wp_g [true, true] [] [] 12
    [IsNew w 24 [.bool b, sv A m c],
     IsNew w 24 [.bool false, sv none ([]) 0]]
    [0, 1] (newsCons (fun v w h => IsNew.old h) (newsCons (fun v w h => IsNew.old h) newsNil)) hs0 (.nw (.nw (.nil))) ?_ (fun i h => by cases h) ?_
  · skip
    refine .o2 (step_allocN (cs := [.bool b, sv A m c]) (t := 24) rfl (noG rfl) (fun _ w hn k => v_box rfl (k.fx 0 hp0) (fun w => rfl)) (fun q _ hq hb => ⟨q, rfl, hq, hb⟩)) ?_
    refine .o2 (step_allocN (cs := [.bool false, sv none ([]) 0]) (t := 24) rfl (noG rfl) (fun _ w hn k => rfl) (fun q _ hq hb => ⟨q, rfl, hq, hb⟩)) ?_
    exact .nil
  intro a2 w3 hn4 ha5
  have hs6 := ha5.size.trans hs0
  have hd7 := ha5.defers.trans hd0
  obtain ⟨q9, h8, hq10, hb11⟩ : IsNew _ _ _ _ _ := ha5.got 0 1 rfl (by kernel_rfl)
  obtain ⟨q13, h12, hq14, hb15⟩ : IsNew _ _ _ _ _ := ha5.got 1 2 rfl (by kernel_rfl)
  have hne16 : q9 ≠ q13 := ha5.ne 0 1 1 2 h8 h12
  have hq17 := Nat.le_trans hN0.size hq10
  have hq18 := Nat.le_trans hN0.size hq14
  have hN19 := hN0.transNew hn4
  clear hs0 hd0 hp0 hq10 hq14 hN0 ha5 hn4
  refine st_nil ?_
  refine hK1 _ _ ?_
  clear hK1 K1
  refine wp_seq_k fun K20 hK20 => ?_
  refine wp_g [true, true, true, false] [] [(3, false)] 12
    [ve (.agg #[.bool b, sv A m c]),
     (fun (v : Value) (W : World) => ∃ (A3 : Option Addr) (c4 : Nat), v = .agg #[.bool (decide (goodI b m < 0)), sv A3 (canon (goodI b m).natAbs) c4] ∧ SRow W .u32 A3 (canon (goodI b m).natAbs) c4),
     IsNew w3 24 [.bool false, sv none ([]) 0],
     vt]
    [2] (newsCons (fun v w h => IsNew.old h) newsNil) hs6 (.eq (.cons (fun v W W' hn ⟨A3, c4, he, h0⟩ => ⟨A3, c4, he, h0.new_ hn⟩) (.nw (.tt (.nil))))) ?_ (fun i h => by cases h) ?_
  · skip
    refine .o1 (tk rfl rfl fun _ w hn k => ⟨_, v_load rfl (k.fx 1 h8) (l_two Try.isAgg24 Try.sizeOf24 (hb11.new_ hn)), rfl⟩) ?_
    refine .o1 (tkC rfl (noG rfl) rfl fun _ w hn k => (by
          refine ⟨#[.agg #[.bool b, sv A m c]], _, args1 (k.eq1 0 4 rfl), fun w => by kernel_rfl, rgood_c _ _ _ _ _ (hr.new_ (hN19.transNew hn)) hl, ?_⟩
          rintro e w' ⟨A1, c2, rfl, hmo, hm⟩
          exact ⟨_, rfl, hm, ⟨A1, c2, rfl, hmo⟩⟩)) ?_
    refine .o2 (step_allocN (cs := [.bool false, sv none ([]) 0]) (t := 24) rfl (noG rfl) (fun _ w hn k => rfl) (fun q _ hq hb => ⟨q, rfl, hq, hb⟩)) ?_
    refine .off ?_
    exact .nil
  intro a21 w22 hn23 ha24
  have hs25 := ha24.size.trans hs6
  have hd26 := ha24.defers.trans hd7
  have h27 := ha24.fx 2 h12
  obtain ⟨A29, cc30, h28, hr31⟩ : (fun (v : Value) (W : World) => ∃ (A3 : Option Addr) (c4 : Nat), v = .agg #[.bool (decide (goodI b m < 0)), sv A3 (canon (goodI b m).natAbs) c4] ∧ SRow W .u32 A3 (canon (goodI b m).natAbs) c4) _ _ := ha24.got 1 5 rfl (by kernel_rfl)
  have h28 : a21.eval (.tmp 5) = .agg #[.bool (decide (goodI b m < 0)), sv A29 (canon (goodI b m).natAbs) cc30] := h28
  obtain ⟨q33, h32, hq34, hb35⟩ : IsNew _ _ _ _ _ := ha24.got 2 3 rfl (by kernel_rfl)
  have hb36 := hb15.new_ hn23
  have hne37 : q13 ≠ q33 := by have h1 := hb15.lt; have h2 := hq34; omega
  have hq38 := Nat.le_trans hN19.size hq34
  have hN39 := hN19.transNew hn23
  clear hs6 hd7 h8 h12 hb11 hq17 hb15 hq34 hN19 ha24 hn23
  obtain ⟨w40, -, hst41, hb42, hu43, hf44⟩ := s_two (v0 := .bool (decide (goodI b m < 0))) (v1 := sv A29 (canon (goodI b m).natAbs) cc30) Try.sizeOf24 rfl rfl rfl hb35
  refine st_act rfl rfl fun K45 hL46 => a_store' rfl h32 h28 hst41 (hL46 _ _ trivial ?_)
  have hr47 := hr31.far hb35 hu43 (by first | rfl | decide | simp [notK])
  have hb48 := hf44 _ _ _ (hne37) hb36
  have hN49 := hN39.trans hu43 (fun k hk hkb => by subst hkb; omega)
  clear hb35 hst41 K45 hL46 hN39 hr31 hb36 hu43 hf44
  refine st_nil ?_
  clear h28
  refine hK20 _ _ ?_
  clear hK20 K20
  refine wp_seq_k fun K50 hK50 => ?_
  rcases Bool.eq_false_or_eq_true (decide (goodI b m < 0)) with ht51 | ht51
  · skip
    have ht51d := of_decide_eq_true ht51
    refine wp_g0 [true, true, true, true, true, true, false] [(6, false)] 12
      [ve (pv q33),
       ve (.bool true),
       ve (.bool false),
       ve (.pointer (some ⟨q33, 1, none⟩)),
       ve (sv A29 (canon (goodI b m).natAbs) cc30),
       (fun (v : Value) (W : World) => ∃ (A11 : Option Addr) (c12 : Nat), v = .agg #[.bool (decide (sgn false (val (canon (goodI b m).natAbs)) < 0)), sv A11 (canon (sgn false (val (canon (goodI b m).natAbs))).natAbs) c12] ∧ SRow W .u32 A11 (canon (sgn false (val (canon (goodI b m).natAbs))).natAbs) c12),
       vt] hs25 (.eq (.eq (.eq (.eq (.eq (.cons (fun v W W' hn ⟨A11, c12, he, h0⟩ => ⟨A11, c12, he, h0.new_ hn⟩) (.tt (.nil)))))))) ?_ ?_
    · skip
      refine .o1 (tk rfl rfl fun _ w hn k => ⟨_, v_field rfl (k.fx 3 h32) (fun w => rfl), rfl⟩) ?_
      refine .o1 (tk rfl rfl fun _ w hn k => ⟨_, v_load rfl (k.eq1 0 6 rfl) (l_one Try.isAgg4 ((hb42.new_ hn).cell 0)), congrArg Value.bool ht51⟩) ?_
      refine .o1 (tk rfl rfl fun _ w hn k => ⟨_, v_not rfl (k.eq1 1 7 rfl), rfl⟩) ?_
      refine .o1 (tk rfl rfl fun _ w hn k => ⟨_, v_field rfl (k.fx 3 h32) (fun w => rfl), rfl⟩) ?_
      refine .o1 (tk rfl rfl fun _ w hn k => ⟨_, v_load rfl (k.eq1 3 9 rfl) (l_one Try.isAgg22 ((hb42.new_ hn).cell 1)), rfl⟩) ?_
      refine .o1 (tkC rfl (noG rfl) rfl fun _ w hn k => (by
            refine ⟨#[.bool false, sv A29 (canon (goodI b m).natAbs) cc30], _, args2 (k.eq1 2 8 rfl) (k.eq1 4 10 rfl), fun w => by kernel_rfl, rmade_c _ _ _ _ _ (hr47.new_ hn) (limbs_canon _) (by first | omega | (simp only [List.length_nil, List.length_cons, List.length_set, List.length_replicate]; omega)), ?_⟩
            rintro e w' ⟨A9, c10, rfl, hmo, hm⟩
            exact ⟨_, rfl, hm, ⟨A9, c10, rfl, hmo⟩⟩)) ?_
      refine .off ?_
      exact .nil
    intro a52 w53 hn54 ha55
    have hs56 := ha55.size.trans hs25
    have hd57 := ha55.defers.trans hd26
    have h58 := ha55.fx 2 h27
    obtain ⟨A60, cc61, h59, hr62⟩ : (fun (v : Value) (W : World) => ∃ (A11 : Option Addr) (c12 : Nat), v = .agg #[.bool (decide (sgn false (val (canon (goodI b m).natAbs)) < 0)), sv A11 (canon (sgn false (val (canon (goodI b m).natAbs))).natAbs) c12] ∧ SRow W .u32 A11 (canon (sgn false (val (canon (goodI b m).natAbs))).natAbs) c12) _ _ := ha55.got 5 11 rfl (by kernel_rfl)
    have h59 : a52.eval (.tmp 11) = .agg #[.bool (decide (sgn false (val (canon (goodI b m).natAbs)) < 0)), sv A60 (canon (sgn false (val (canon (goodI b m).natAbs))).natAbs) cc61] := h59
    have hb63 := hb48.new_ hn54
    have hN64 := hN49.transNew hn54
    clear hs25 hd26 h27 h32 hb48 hb42 hq38 hr47 hN49 ha55 hn54
    obtain ⟨w65, -, hst66, hb67, hu68, hf69⟩ := s_two (v0 := .bool (decide (sgn false (val (canon (goodI b m).natAbs)) < 0))) (v1 := sv A60 (canon (sgn false (val (canon (goodI b m).natAbs))).natAbs) cc61) Try.sizeOf24 rfl rfl rfl hb63
    refine st_act rfl rfl fun K70 hL71 => a_store' rfl h58 h59 hst66 (hL71 _ _ trivial ?_)
    have hr72 := hr62.far hb63 hu68 (by first | rfl | decide | simp [notK])
    have hN73 := hN64.trans hu68 (fun k hk hkb => by subst hkb; omega)
    clear hb63 hst66 K70 hL71 hN64 hr62 hu68 hf69
    refine st_nil ?_
    clear h59
    refine hK50 _ _ ?_
    clear hK50 K50
    refine wp_ret (ret_k hd57 (v := .agg #[.bool (decide (sgn false (val (canon (goodI b m).natAbs)) < 0)), sv A60 (canon (sgn false (val (canon (goodI b m).natAbs))).natAbs) cc61]) (res_c rfl h58 (l_two Try.isAgg24 Try.sizeOf24 hb67)) ?_)
    have hz1 : sgn false (val (canon (goodI b m).natAbs)) = -(goodI b m) := neg_sgn ht51
    exact ⟨A60, cc61, congrArg (fun z : Int => Ending.returned (Value.agg #[.bool (decide (z < 0)), sv A60 (canon z.natAbs) cc61])) hz1, Eq.mp (congrArg (fun z : Int => SRow _ .u32 A60 (canon z.natAbs) cc61) hz1) hr72, hN73⟩
  have ht51d := of_decide_eq_false ht51
  refine wp_g0 [true, true, true, true, true, true, false] [(6, false)] 12
    [ve (pv q33),
     ve (.bool false),
     ve (.bool true),
     ve (.pointer (some ⟨q33, 1, none⟩)),
     ve (sv A29 (canon (goodI b m).natAbs) cc30),
     (fun (v : Value) (W : World) => ∃ (A19 : Option Addr) (c20 : Nat), v = .agg #[.bool (decide (sgn true (val (canon (goodI b m).natAbs)) < 0)), sv A19 (canon (sgn true (val (canon (goodI b m).natAbs))).natAbs) c20] ∧ SRow W .u32 A19 (canon (sgn true (val (canon (goodI b m).natAbs))).natAbs) c20),
     vt] hs25 (.eq (.eq (.eq (.eq (.eq (.cons (fun v W W' hn ⟨A19, c20, he, h0⟩ => ⟨A19, c20, he, h0.new_ hn⟩) (.tt (.nil)))))))) ?_ ?_
  · skip
    refine .o1 (tk rfl rfl fun _ w hn k => ⟨_, v_field rfl (k.fx 3 h32) (fun w => rfl), rfl⟩) ?_
    refine .o1 (tk rfl rfl fun _ w hn k => ⟨_, v_load rfl (k.eq1 0 6 rfl) (l_one Try.isAgg4 ((hb42.new_ hn).cell 0)), congrArg Value.bool ht51⟩) ?_
    refine .o1 (tk rfl rfl fun _ w hn k => ⟨_, v_not rfl (k.eq1 1 7 rfl), rfl⟩) ?_
    refine .o1 (tk rfl rfl fun _ w hn k => ⟨_, v_field rfl (k.fx 3 h32) (fun w => rfl), rfl⟩) ?_
    refine .o1 (tk rfl rfl fun _ w hn k => ⟨_, v_load rfl (k.eq1 3 9 rfl) (l_one Try.isAgg22 ((hb42.new_ hn).cell 1)), rfl⟩) ?_
    refine .o1 (tkC rfl (noG rfl) rfl fun _ w hn k => (by
          refine ⟨#[.bool true, sv A29 (canon (goodI b m).natAbs) cc30], _, args2 (k.eq1 2 8 rfl) (k.eq1 4 10 rfl), fun w => by kernel_rfl, rmade_c _ _ _ _ _ (hr47.new_ hn) (limbs_canon _) (by first | omega | (simp only [List.length_nil, List.length_cons, List.length_set, List.length_replicate]; omega)), ?_⟩
          rintro e w' ⟨A17, c18, rfl, hmo, hm⟩
          exact ⟨_, rfl, hm, ⟨A17, c18, rfl, hmo⟩⟩)) ?_
    refine .off ?_
    exact .nil
  intro a74 w75 hn76 ha77
  have hs78 := ha77.size.trans hs25
  have hd79 := ha77.defers.trans hd26
  have h80 := ha77.fx 2 h27
  obtain ⟨A82, cc83, h81, hr84⟩ : (fun (v : Value) (W : World) => ∃ (A19 : Option Addr) (c20 : Nat), v = .agg #[.bool (decide (sgn true (val (canon (goodI b m).natAbs)) < 0)), sv A19 (canon (sgn true (val (canon (goodI b m).natAbs))).natAbs) c20] ∧ SRow W .u32 A19 (canon (sgn true (val (canon (goodI b m).natAbs))).natAbs) c20) _ _ := ha77.got 5 11 rfl (by kernel_rfl)
  have h81 : a74.eval (.tmp 11) = .agg #[.bool (decide (sgn true (val (canon (goodI b m).natAbs)) < 0)), sv A82 (canon (sgn true (val (canon (goodI b m).natAbs))).natAbs) cc83] := h81
  have hb85 := hb48.new_ hn76
  have hN86 := hN49.transNew hn76
  clear hs25 hd26 h27 h32 hb48 hb42 hq38 hr47 hN49 ha77 hn76
  obtain ⟨w87, -, hst88, hb89, hu90, hf91⟩ := s_two (v0 := .bool (decide (sgn true (val (canon (goodI b m).natAbs)) < 0))) (v1 := sv A82 (canon (sgn true (val (canon (goodI b m).natAbs))).natAbs) cc83) Try.sizeOf24 rfl rfl rfl hb85
  refine st_act rfl rfl fun K92 hL93 => a_store' rfl h80 h81 hst88 (hL93 _ _ trivial ?_)
  have hr94 := hr84.far hb85 hu90 (by first | rfl | decide | simp [notK])
  have hN95 := hN86.trans hu90 (fun k hk hkb => by subst hkb; omega)
  clear hb85 hst88 K92 hL93 hN86 hr84 hu90 hf91
  refine st_nil ?_
  clear h81
  refine hK50 _ _ ?_
  clear hK50 K50
  refine wp_ret (ret_k hd79 (v := .agg #[.bool (decide (sgn true (val (canon (goodI b m).natAbs)) < 0)), sv A82 (canon (sgn true (val (canon (goodI b m).natAbs))).natAbs) cc83]) (res_c rfl h80 (l_two Try.isAgg24 Try.sizeOf24 hb89)) ?_)
  have hz1 : sgn true (val (canon (goodI b m).natAbs)) = -(goodI b m) := neg_sgn ht51
  exact ⟨A82, cc83, congrArg (fun z : Int => Ending.returned (Value.agg #[.bool (decide (z < 0)), sv A82 (canon z.natAbs) cc83])) hz1, Eq.mp (congrArg (fun z : Int => SRow _ .u32 A82 (canon z.natAbs) cc83) hz1) hr94, hN95⟩
set_option maxHeartbeats 4000000 in
set_option maxRecDepth 100000 in
theorem rsub_c (b1 : Bool) (A : Option Addr) (a : List Nat) (c : Nat) (b2 : Bool) (B : Option Addr) (b : List Nat) (d : Nat) (w : World) (hra : SRow w .u32 A a c) (ha : Limbs a) (hrb : SRow w .u32 B b d) (hb : Limbs b) : Calls Try.prog 41 #[.agg #[.bool b1, sv A a c], .agg #[.bool b2, sv B b d]] w (RetZB (capI (goodI b1 a - goodI b2 b)) (okI (goodI b1 a - goodI b2 b)) w) := by
  refine enter_abs Try.func41 rfl fun a0 hs0 hd0 hp => ?_
  have hs0 : a0.tmps.size = 14 := hs0
  have hN0 : New w w := Upd.refl _ _
  have hp0 : a0.eval (.tmp 0) = .agg #[.bool b1, sv A a c] := hp 0 _ rfl
  have hp1 : a0.eval (.tmp 1) = .agg #[.bool b2, sv B b d] := hp 1 _ rfl
  clear hp
  refine wp_seq_k fun K1 hK1 => ?_
  refine wp_g [true, true, true, true] [] [] 14
    [IsNew w 24 [.bool b1, sv A a c],
     IsNew w 24 [.bool b2, sv B b d],
     IsNew w 24 [.bool false, sv none ([]) 0],
     ve (.bool false)]
    [0, 1, 2] (newsCons (fun v w h => IsNew.old h) (newsCons (fun v w h => IsNew.old h) (newsCons (fun v w h => IsNew.old h) newsNil))) hs0 (.nw (.nw (.nw (.eq (.nil))))) ?_ (fun i h => by cases h) ?_
  · skip
    refine .o2 (step_allocN (cs := [.bool b1, sv A a c]) (t := 24) rfl (noG rfl) (fun _ w hn k => v_box rfl (k.fx 0 hp0) (fun w => rfl)) (fun q _ hq hb => ⟨q, rfl, hq, hb⟩)) ?_
    refine .o2 (step_allocN (cs := [.bool b2, sv B b d]) (t := 24) rfl (noG rfl) (fun _ w hn k => v_box rfl (k.fx 1 hp1) (fun w => rfl)) (fun q _ hq hb => ⟨q, rfl, hq, hb⟩)) ?_
    refine .o2 (step_allocN (cs := [.bool false, sv none ([]) 0]) (t := 24) rfl (noG rfl) (fun _ w hn k => rfl) (fun q _ hq hb => ⟨q, rfl, hq, hb⟩)) ?_
    refine .o1 (tk rfl rfl fun _ w hn k => ⟨_, v_assign rfl rfl, rfl⟩) ?_
    exact .nil
  intro a2 w3 hn4 ha5
  have hs6 := ha5.size.trans hs0
  have hd7 := ha5.defers.trans hd0
  obtain ⟨q9, h8, hq10, hb11⟩ : IsNew _ _ _ _ _ := ha5.got 0 2 rfl (by kernel_rfl)
  obtain ⟨q13, h12, hq14, hb15⟩ : IsNew _ _ _ _ _ := ha5.got 1 3 rfl (by kernel_rfl)
  obtain ⟨q17, h16, hq18, hb19⟩ : IsNew _ _ _ _ _ := ha5.got 2 4 rfl (by kernel_rfl)
  have hne20 : q9 ≠ q17 := ha5.ne 0 2 2 4 h8 h16
  have hne21 : q13 ≠ q17 := ha5.ne 1 2 3 4 h12 h16
  have hq22 := Nat.le_trans hN0.size hq10
  have hq23 := Nat.le_trans hN0.size hq14
  have hq24 := Nat.le_trans hN0.size hq18
  have hN25 := hN0.transNew hn4
  clear hs0 hd0 hp0 hp1 hq10 hq14 hq18 hN0 ha5 hn4
  refine st_nil ?_
  refine hK1 _ _ ?_
  clear hK1 K1
  refine wp_seq_k fun K26 hK26 => ?_
  refine wp_g0 [true, true, true, true, true, true, true, true, false, false] [(8, false), (9, true)] 14
    [ve (.agg #[.bool b1, sv A a c]),
     (fun (v : Value) (W : World) => ∃ (A3 : Option Addr) (c4 : Nat), v = .agg #[.bool (decide (goodI b1 a < 0)), sv A3 (canon (goodI b1 a).natAbs) c4] ∧ SRow W .u32 A3 (canon (goodI b1 a).natAbs) c4),
     ve (.agg #[.bool b2, sv B b d]),
     (fun (v : Value) (W : World) => ∃ (A7 : Option Addr) (c8 : Nat), v = .agg #[.bool (decide (-(goodI b2 b) < 0)), sv A7 (canon (-(goodI b2 b)).natAbs) c8] ∧ SRow W .u32 A7 (canon (-(goodI b2 b)).natAbs) c8),
     (fun (v : Value) (W : World) => ∃ (A19 : Option Addr) (c20 : Nat), v = .agg #[.bool (decide ((goodI b1 a) + (-(goodI b2 b)) < 0)), sv A19 (canon ((goodI b1 a) + (-(goodI b2 b))).natAbs) c20] ∧ SRow W .u32 A19 (canon ((goodI b1 a) + (-(goodI b2 b))).natAbs) c20),
     (fun (v : Value) (W : World) => ∃ (A27 : Option Addr) (c28 : Nat), v = .tuple #[.agg #[.bool (decide (capI ((goodI b1 a) + (-(goodI b2 b))) < 0)), sv A27 (canon (capI ((goodI b1 a) + (-(goodI b2 b)))).natAbs) c28], .bool (okI ((goodI b1 a) + (-(goodI b2 b))))] ∧ SRow W .u32 A27 (canon (capI ((goodI b1 a) + (-(goodI b2 b)))).natAbs) c28),
     (fun (v : Value) (W : World) => ∃ (A33 : Option Addr) (c34 : Nat), v = .agg #[.bool (decide (capI ((goodI b1 a) + (-(goodI b2 b))) < 0)), sv A33 (canon (capI ((goodI b1 a) + (-(goodI b2 b)))).natAbs) c34] ∧ SRow W .u32 A33 (canon (capI ((goodI b1 a) + (-(goodI b2 b)))).natAbs) c34),
     ve (.bool (okI ((goodI b1 a) + (-(goodI b2 b))))),
     vt,
     vt] hs6 (.eq (.cons (fun v W W' hn ⟨A3, c4, he, h0⟩ => ⟨A3, c4, he, h0.new_ hn⟩) (.eq (.cons (fun v W W' hn ⟨A7, c8, he, h0⟩ => ⟨A7, c8, he, h0.new_ hn⟩) (.cons (fun v W W' hn ⟨A19, c20, he, h0⟩ => ⟨A19, c20, he, h0.new_ hn⟩) (.cons (fun v W W' hn ⟨A27, c28, he, h0⟩ => ⟨A27, c28, he, h0.new_ hn⟩) (.cons (fun v W W' hn ⟨A33, c34, he, h0⟩ => ⟨A33, c34, he, h0.new_ hn⟩) (.eq (.tt (.tt (.nil))))))))))) ?_ ?_
  · skip
    refine .o1 (tk rfl rfl fun _ w hn k => ⟨_, v_load rfl (k.fx 2 h8) (l_two Try.isAgg24 Try.sizeOf24 (hb11.new_ hn)), rfl⟩) ?_
    refine .o1 (tkC rfl (noG rfl) rfl fun _ w hn k => (by
          refine ⟨#[.agg #[.bool b1, sv A a c]], _, args1 (k.eq1 0 6 rfl), fun w => by kernel_rfl, rgood_c _ _ _ _ _ (hra.new_ (hN25.transNew hn)) ha, ?_⟩
          rintro e w' ⟨A1, c2, rfl, hmo, hm⟩
          exact ⟨_, rfl, hm, ⟨A1, c2, rfl, hmo⟩⟩)) ?_
    refine .o1 (tk rfl rfl fun _ w hn k => ⟨_, v_load rfl (k.fx 3 h12) (l_two Try.isAgg24 Try.sizeOf24 (hb15.new_ hn)), rfl⟩) ?_
    refine .o1 (tkC rfl (noG rfl) rfl fun _ w hn k => (by
          refine ⟨#[.agg #[.bool b2, sv B b d]], _, args1 (k.eq1 2 8 rfl), fun w => by kernel_rfl, rneg_c _ _ _ _ _ (hrb.new_ (hN25.transNew hn)) hb, ?_⟩
          rintro e w' ⟨A5, c6, rfl, hmo, hm⟩
          exact ⟨_, rfl, hm, ⟨A5, c6, rfl, hmo⟩⟩)) ?_
    refine .o1 (tkC rfl (noG rfl) rfl fun _ w hn k => (by
          obtain ⟨A9, c10, e11, hx12⟩ : (fun (v : Value) (W : World) => ∃ (A3 : Option Addr) (c4 : Nat), v = .agg #[.bool (decide (goodI b1 a < 0)), sv A3 (canon (goodI b1 a).natAbs) c4] ∧ SRow W .u32 A3 (canon (goodI b1 a).natAbs) c4) _ _ := k.dep 1 7 (by kernel_rfl) (by kernel_rfl)
          obtain ⟨A13, c14, e15, hx16⟩ : (fun (v : Value) (W : World) => ∃ (A7 : Option Addr) (c8 : Nat), v = .agg #[.bool (decide (-(goodI b2 b) < 0)), sv A7 (canon (-(goodI b2 b)).natAbs) c8] ∧ SRow W .u32 A7 (canon (-(goodI b2 b)).natAbs) c8) _ _ := k.dep 3 9 (by kernel_rfl) (by kernel_rfl)
          refine ⟨#[.agg #[.bool (decide (goodI b1 a < 0)), sv A9 (canon (goodI b1 a).natAbs) c10], .agg #[.bool (decide (-(goodI b2 b) < 0)), sv A13 (canon (-(goodI b2 b)).natAbs) c14]], _, args2 e11 e15, fun w => by kernel_rfl, rsum_c _ _ _ _ _ _ _ hx12 hx16 (good_lt ha) (by rw [Int.natAbs_neg]; exact good_lt hb), ?_⟩
          rintro e w' ⟨A17, c18, rfl, hmo, hm⟩
          exact ⟨_, rfl, hm, ⟨A17, c18, rfl, hmo⟩⟩)) ?_
    refine .o1 (tkC rfl (noG rfl) rfl fun _ w hn k => (by
          obtain ⟨A21, c22, e23, hx24⟩ : (fun (v : Value) (W : World) => ∃ (A19 : Option Addr) (c20 : Nat), v = .agg #[.bool (decide ((goodI b1 a) + (-(goodI b2 b)) < 0)), sv A19 (canon ((goodI b1 a) + (-(goodI b2 b))).natAbs) c20] ∧ SRow W .u32 A19 (canon ((goodI b1 a) + (-(goodI b2 b))).natAbs) c20) _ _ := k.dep 4 10 (by kernel_rfl) (by kernel_rfl)
          refine ⟨#[.agg #[.bool (decide ((goodI b1 a) + (-(goodI b2 b)) < 0)), sv A21 (canon ((goodI b1 a) + (-(goodI b2 b))).natAbs) c22]], _, args1 e23, fun w => by kernel_rfl, rfits_c _ _ _ _ hx24, ?_⟩
          rintro e w' ⟨A25, c26, rfl, hmo, hm⟩
          exact ⟨_, rfl, hm, ⟨A25, c26, rfl, hmo⟩⟩)) ?_
    refine .o1 (tk rfl rfl fun _ w hn k => (by
          obtain ⟨A29, c30, e31, hx32⟩ : (fun (v : Value) (W : World) => ∃ (A27 : Option Addr) (c28 : Nat), v = .tuple #[.agg #[.bool (decide (capI ((goodI b1 a) + (-(goodI b2 b))) < 0)), sv A27 (canon (capI ((goodI b1 a) + (-(goodI b2 b)))).natAbs) c28], .bool (okI ((goodI b1 a) + (-(goodI b2 b))))] ∧ SRow W .u32 A27 (canon (capI ((goodI b1 a) + (-(goodI b2 b)))).natAbs) c28) _ _ := k.dep 5 11 (by kernel_rfl) (by kernel_rfl)
          exact ⟨_, v_extract rfl e31 rfl, ⟨A29, c30, rfl, hx32⟩⟩)) ?_
    refine .o1 (tk rfl rfl fun _ w hn k => (by
          obtain ⟨A35, c36, e37, hx38⟩ : (fun (v : Value) (W : World) => ∃ (A27 : Option Addr) (c28 : Nat), v = .tuple #[.agg #[.bool (decide (capI ((goodI b1 a) + (-(goodI b2 b))) < 0)), sv A27 (canon (capI ((goodI b1 a) + (-(goodI b2 b)))).natAbs) c28], .bool (okI ((goodI b1 a) + (-(goodI b2 b))))] ∧ SRow W .u32 A27 (canon (capI ((goodI b1 a) + (-(goodI b2 b)))).natAbs) c28) _ _ := k.dep 5 11 (by kernel_rfl) (by kernel_rfl)
          exact ⟨_, v_extract rfl e37 rfl, rfl⟩)) ?_
    refine .off ?_
    refine .off ?_
    exact .nil
  intro a27 w28 hn29 ha30
  have hs31 := ha30.size.trans hs6
  have hd32 := ha30.defers.trans hd7
  have h33 := ha30.fx 4 h16
  obtain ⟨A35, cc36, h34, hr37⟩ : (fun (v : Value) (W : World) => ∃ (A33 : Option Addr) (c34 : Nat), v = .agg #[.bool (decide (capI ((goodI b1 a) + (-(goodI b2 b))) < 0)), sv A33 (canon (capI ((goodI b1 a) + (-(goodI b2 b)))).natAbs) c34] ∧ SRow W .u32 A33 (canon (capI ((goodI b1 a) + (-(goodI b2 b)))).natAbs) c34) _ _ := ha30.got 6 12 rfl (by kernel_rfl)
  have h34 : a27.eval (.tmp 12) = .agg #[.bool (decide (capI ((goodI b1 a) + (-(goodI b2 b))) < 0)), sv A35 (canon (capI ((goodI b1 a) + (-(goodI b2 b)))).natAbs) cc36] := h34
  have h38 := ha30.ge 7 13 rfl
  have hb39 := hb19.new_ hn29
  have hN40 := hN25.transNew hn29
  clear hs6 hd7 h8 h12 h16 hb11 hq22 hb15 hq23 hb19 hN25 ha30 hn29
  obtain ⟨w41, -, hst42, hb43, hu44, hf45⟩ := s_two (v0 := .bool (decide (capI ((goodI b1 a) + (-(goodI b2 b))) < 0))) (v1 := sv A35 (canon (capI ((goodI b1 a) + (-(goodI b2 b)))).natAbs) cc36) Try.sizeOf24 rfl rfl rfl hb39
  refine st_act rfl rfl fun K46 hL47 => a_store' rfl h33 h34 hst42 (hL47 _ _ trivial ?_)
  have hr48 := hr37.far hb39 hu44 (by first | rfl | decide | simp [notK])
  have hN49 := hN40.trans hu44 (fun k hk hkb => by subst hkb; omega)
  clear hb39 hst42 K46 hL47 hN40 hr37 hu44 hf45
  refine st_take rfl rfl (y_assign (v := .bool (okI ((goodI b1 a) + (-(goodI b2 b))))) rfl h38) rfl ?_
  obtain ⟨a50, ha51⟩ : ∃ a', a' = a27.put (some 5) (.bool (okI ((goodI b1 a) + (-(goodI b2 b))))) := ⟨_, rfl⟩
  have hs52 : a50.tmps.size = 14 := by rw [ha51, put_size]; exact hs31
  have hd53 : a50.defers = [] := by rw [ha51, put_defers]; exact hd32
  have h54 : a50.eval (.tmp 4) = pv q17 := by rw [ha51, put_ne _ _ _ _ (by decide)]; exact h33
  have h55 : a50.eval (.tmp 12) = .agg #[.bool (decide (capI ((goodI b1 a) + (-(goodI b2 b))) < 0)), sv A35 (canon (capI ((goodI b1 a) + (-(goodI b2 b)))).natAbs) cc36] := by rw [ha51, put_ne _ _ _ _ (by decide)]; exact h34
  have h56 : a50.eval (.tmp 13) = .bool (okI ((goodI b1 a) + (-(goodI b2 b)))) := by rw [ha51, put_ne _ _ _ _ (by decide)]; exact h38
  have h57 : a50.eval (.tmp 5) = .bool (okI ((goodI b1 a) + (-(goodI b2 b)))) := by rw [ha51]; exact put_same _ _ _ (by rw [hs31]; decide)
  show stepsTo _ _ _ _ _ (a27.put (some 5) (.bool (okI ((goodI b1 a) + (-(goodI b2 b)))))) _
  rw [← ha51]
  clear ha51 hs31 hd32 h33 h34 h38
  refine st_nil ?_
  clear h55 h56
  refine hK26 _ _ ?_
  clear hK26 K26
  refine wp_ret (ret_k hd53 (v := .tuple #[.agg #[.bool (decide (capI ((goodI b1 a) + (-(goodI b2 b))) < 0)), sv A35 (canon (capI ((goodI b1 a) + (-(goodI b2 b)))).natAbs) cc36], .bool (okI ((goodI b1 a) + (-(goodI b2 b))))]) (res_ct rfl h54 h57 (l_two Try.isAgg24 Try.sizeOf24 hb43)) ?_)
  have hs2 : (.bool (okI ((goodI b1 a) + (-(goodI b2 b)))) : Value) = .bool (okI (goodI b1 a - goodI b2 b)) := by rfl
  have hz1 : capI ((goodI b1 a) + (-(goodI b2 b))) = capI (goodI b1 a - goodI b2 b) := by rfl
  exact ⟨A35, cc36, (congrArg (fun z : Int => Ending.returned (Value.tuple #[.agg #[.bool (decide (z < 0)), sv A35 (canon z.natAbs) cc36], .bool (okI ((goodI b1 a) + (-(goodI b2 b))))])) hz1).trans (congrArg (fun y => Ending.returned (Value.tuple #[.agg #[.bool (decide (capI (goodI b1 a - goodI b2 b) < 0)), sv A35 (canon (capI (goodI b1 a - goodI b2 b)).natAbs) cc36], y])) hs2), Eq.mp (congrArg (fun z : Int => SRow _ .u32 A35 (canon z.natAbs) cc36) hz1) hr48, hN49⟩
set_option maxHeartbeats 4000000 in
set_option maxRecDepth 100000 in
theorem rmul_c (b1 : Bool) (A : Option Addr) (a : List Nat) (c : Nat) (b2 : Bool) (B : Option Addr) (b : List Nat) (d : Nat) (w : World) (hra : SRow w .u32 A a c) (ha : Limbs a) (hrb : SRow w .u32 B b d) (hb : Limbs b) : Calls Try.prog 42 #[.agg #[.bool b1, sv A a c], .agg #[.bool b2, sv B b d]] w (RetZB (capI (goodI b1 a * goodI b2 b)) (okI (goodI b1 a * goodI b2 b)) w) := by
  refine enter_abs Try.func42 rfl fun a0 hs0 hd0 hp => ?_
  have hs0 : a0.tmps.size = 26 := hs0
  have hN0 : New w w := Upd.refl _ _
  have hp0 : a0.eval (.tmp 0) = .agg #[.bool b1, sv A a c] := hp 0 _ rfl
  have hp1 : a0.eval (.tmp 1) = .agg #[.bool b2, sv B b d] := hp 1 _ rfl
  clear hp
  have h8x := (canon_len8 _).2 (good_lt (b := b1) ha)
  have h8y := (canon_len8 _).2 (good_lt (b := b2) hb)
  have hpx : (canon (val (canon (goodI b1 a).natAbs) * val (canon (goodI b2 b).natAbs))).length ≤ 16 := mul_len (good_lt ha) (good_lt hb)
  refine wp_seq_k fun K1 hK1 => ?_
  refine wp_g [true, true, true, true] [] [] 26
    [IsNew w 24 [.bool b1, sv A a c],
     IsNew w 24 [.bool b2, sv B b d],
     IsNew w 24 [.bool false, sv none ([]) 0],
     ve (.bool false)]
    [0, 1, 2] (newsCons (fun v w h => IsNew.old h) (newsCons (fun v w h => IsNew.old h) (newsCons (fun v w h => IsNew.old h) newsNil))) hs0 (.nw (.nw (.nw (.eq (.nil))))) ?_ (fun i h => by cases h) ?_
  · skip
    refine .o2 (step_allocN (cs := [.bool b1, sv A a c]) (t := 24) rfl (noG rfl) (fun _ w hn k => v_box rfl (k.fx 0 hp0) (fun w => rfl)) (fun q _ hq hb => ⟨q, rfl, hq, hb⟩)) ?_
    refine .o2 (step_allocN (cs := [.bool b2, sv B b d]) (t := 24) rfl (noG rfl) (fun _ w hn k => v_box rfl (k.fx 1 hp1) (fun w => rfl)) (fun q _ hq hb => ⟨q, rfl, hq, hb⟩)) ?_
    refine .o2 (step_allocN (cs := [.bool false, sv none ([]) 0]) (t := 24) rfl (noG rfl) (fun _ w hn k => rfl) (fun q _ hq hb => ⟨q, rfl, hq, hb⟩)) ?_
    refine .o1 (tk rfl rfl fun _ w hn k => ⟨_, v_assign rfl rfl, rfl⟩) ?_
    exact .nil
  intro a2 w3 hn4 ha5
  have hs6 := ha5.size.trans hs0
  have hd7 := ha5.defers.trans hd0
  obtain ⟨q9, h8, hq10, hb11⟩ : IsNew _ _ _ _ _ := ha5.got 0 2 rfl (by kernel_rfl)
  obtain ⟨q13, h12, hq14, hb15⟩ : IsNew _ _ _ _ _ := ha5.got 1 3 rfl (by kernel_rfl)
  obtain ⟨q17, h16, hq18, hb19⟩ : IsNew _ _ _ _ _ := ha5.got 2 4 rfl (by kernel_rfl)
  have hne20 : q9 ≠ q17 := ha5.ne 0 2 2 4 h8 h16
  have hne21 : q13 ≠ q17 := ha5.ne 1 2 3 4 h12 h16
  have hq22 := Nat.le_trans hN0.size hq10
  have hq23 := Nat.le_trans hN0.size hq14
  have hq24 := Nat.le_trans hN0.size hq18
  have hN25 := hN0.transNew hn4
  clear hs0 hd0 hp0 hp1 hq10 hq14 hq18 hN0 ha5 hn4
  refine st_nil ?_
  refine hK1 _ _ ?_
  clear hK1 K1
  refine wp_seq_k fun K26 hK26 => ?_
  refine wp_g [true, true, true, true, true, true, false, false] [] [(6, false), (7, false)] 26
    [ve (.agg #[.bool b1, sv A a c]),
     (fun (v : Value) (W : World) => ∃ (A3 : Option Addr) (c4 : Nat), v = .agg #[.bool (decide (goodI b1 a < 0)), sv A3 (canon (goodI b1 a).natAbs) c4] ∧ SRow W .u32 A3 (canon (goodI b1 a).natAbs) c4),
     ve (.agg #[.bool b2, sv B b d]),
     (fun (v : Value) (W : World) => ∃ (A7 : Option Addr) (c8 : Nat), v = .agg #[.bool (decide (goodI b2 b < 0)), sv A7 (canon (goodI b2 b).natAbs) c8] ∧ SRow W .u32 A7 (canon (goodI b2 b).natAbs) c8),
     IsNew w3 24 [.bool false, sv none ([]) 0],
     IsNew w3 24 [.bool false, sv none ([]) 0],
     vt,
     vt]
    [4, 5] (newsCons (fun v w h => IsNew.old h) (newsCons (fun v w h => IsNew.old h) newsNil)) hs6 (.eq (.cons (fun v W W' hn ⟨A3, c4, he, h0⟩ => ⟨A3, c4, he, h0.new_ hn⟩) (.eq (.cons (fun v W W' hn ⟨A7, c8, he, h0⟩ => ⟨A7, c8, he, h0.new_ hn⟩) (.nw (.nw (.tt (.tt (.nil))))))))) ?_ (fun i h => by cases h) ?_
  · skip
    refine .o1 (tk rfl rfl fun _ w hn k => ⟨_, v_load rfl (k.fx 2 h8) (l_two Try.isAgg24 Try.sizeOf24 (hb11.new_ hn)), rfl⟩) ?_
    refine .o1 (tkC rfl (noG rfl) rfl fun _ w hn k => (by
          refine ⟨#[.agg #[.bool b1, sv A a c]], _, args1 (k.eq1 0 8 rfl), fun w => by kernel_rfl, rgood_c _ _ _ _ _ (hra.new_ (hN25.transNew hn)) ha, ?_⟩
          rintro e w' ⟨A1, c2, rfl, hmo, hm⟩
          exact ⟨_, rfl, hm, ⟨A1, c2, rfl, hmo⟩⟩)) ?_
    refine .o1 (tk rfl rfl fun _ w hn k => ⟨_, v_load rfl (k.fx 3 h12) (l_two Try.isAgg24 Try.sizeOf24 (hb15.new_ hn)), rfl⟩) ?_
    refine .o1 (tkC rfl (noG rfl) rfl fun _ w hn k => (by
          refine ⟨#[.agg #[.bool b2, sv B b d]], _, args1 (k.eq1 2 10 rfl), fun w => by kernel_rfl, rgood_c _ _ _ _ _ (hrb.new_ (hN25.transNew hn)) hb, ?_⟩
          rintro e w' ⟨A5, c6, rfl, hmo, hm⟩
          exact ⟨_, rfl, hm, ⟨A5, c6, rfl, hmo⟩⟩)) ?_
    refine .o2 (step_allocN (cs := [.bool false, sv none ([]) 0]) (t := 24) rfl (noG rfl) (fun _ w hn k => rfl) (fun q _ hq hb => ⟨q, rfl, hq, hb⟩)) ?_
    refine .o2 (step_allocN (cs := [.bool false, sv none ([]) 0]) (t := 24) rfl (noG rfl) (fun _ w hn k => rfl) (fun q _ hq hb => ⟨q, rfl, hq, hb⟩)) ?_
    refine .off ?_
    refine .off ?_
    exact .nil
  intro a27 w28 hn29 ha30
  have hs31 := ha30.size.trans hs6
  have hd32 := ha30.defers.trans hd7
  have h33 := ha30.fx 4 h16
  obtain ⟨A35, cc36, h34, hr37⟩ : (fun (v : Value) (W : World) => ∃ (A3 : Option Addr) (c4 : Nat), v = .agg #[.bool (decide (goodI b1 a < 0)), sv A3 (canon (goodI b1 a).natAbs) c4] ∧ SRow W .u32 A3 (canon (goodI b1 a).natAbs) c4) _ _ := ha30.got 1 9 rfl (by kernel_rfl)
  have h34 : a27.eval (.tmp 9) = .agg #[.bool (decide (goodI b1 a < 0)), sv A35 (canon (goodI b1 a).natAbs) cc36] := h34
  obtain ⟨A39, cc40, h38, hr41⟩ : (fun (v : Value) (W : World) => ∃ (A7 : Option Addr) (c8 : Nat), v = .agg #[.bool (decide (goodI b2 b < 0)), sv A7 (canon (goodI b2 b).natAbs) c8] ∧ SRow W .u32 A7 (canon (goodI b2 b).natAbs) c8) _ _ := ha30.got 3 11 rfl (by kernel_rfl)
  have h38 : a27.eval (.tmp 11) = .agg #[.bool (decide (goodI b2 b < 0)), sv A39 (canon (goodI b2 b).natAbs) cc40] := h38
  obtain ⟨q43, h42, hq44, hb45⟩ : IsNew _ _ _ _ _ := ha30.got 4 6 rfl (by kernel_rfl)
  obtain ⟨q47, h46, hq48, hb49⟩ : IsNew _ _ _ _ _ := ha30.got 5 7 rfl (by kernel_rfl)
  have hb50 := hb19.new_ hn29
  have hne51 : q43 ≠ q47 := ha30.ne 4 5 6 7 h42 h46
  have hne52 : q17 ≠ q43 := by have h1 := hb19.lt; have h2 := hq44; omega
  have hne53 : q17 ≠ q47 := by have h1 := hb19.lt; have h2 := hq48; omega
  have hq54 := Nat.le_trans hN25.size hq44
  have hq55 := Nat.le_trans hN25.size hq48
  have hN56 := hN25.transNew hn29
  clear hs6 hd7 h8 h12 h16 hb11 hq22 hb15 hq23 hb19 hq44 hq48 hN25 ha30 hn29
  obtain ⟨w57, -, hst58, hb59, hu60, hf61⟩ := s_two (v0 := .bool (decide (goodI b1 a < 0))) (v1 := sv A35 (canon (goodI b1 a).natAbs) cc36) Try.sizeOf24 rfl rfl rfl hb45
  refine st_act rfl rfl fun K62 hL63 => a_store' rfl h42 h34 hst58 (hL63 _ _ trivial ?_)
  have hr64 := hr37.far hb45 hu60 (by first | rfl | decide | simp [notK])
  have hr65 := hr41.far hb45 hu60 (by first | rfl | decide | simp [notK])
  have hb66 := hf61 _ _ _ (hne52) hb50
  have hb67 := hf61 _ _ _ (fun h => hne51 h.symm) hb49
  have hN68 := hN56.trans hu60 (fun k hk hkb => by subst hkb; omega)
  clear hb45 hst58 K62 hL63 hN56 hr37 hr41 hb50 hb49 hu60 hf61
  obtain ⟨w69, -, hst70, hb71, hu72, hf73⟩ := s_two (v0 := .bool (decide (goodI b2 b < 0))) (v1 := sv A39 (canon (goodI b2 b).natAbs) cc40) Try.sizeOf24 rfl rfl rfl hb67
  refine st_act rfl rfl fun K74 hL75 => a_store' rfl h46 h38 hst70 (hL75 _ _ trivial ?_)
  have hr76 := hr64.far hb67 hu72 (by first | rfl | decide | simp [notK])
  have hr77 := hr65.far hb67 hu72 (by first | rfl | decide | simp [notK])
  have hb78 := hf73 _ _ _ (hne53) hb66
  have hb79 := hf73 _ _ _ (hne51) hb59
  have hN80 := hN68.trans hu72 (fun k hk hkb => by subst hkb; omega)
  clear hb67 hst70 K74 hL75 hN68 hr64 hr65 hb66 hb59 hu72 hf73
  clear hne51
  refine st_nil ?_
  clear h34 h38
  refine hK26 _ _ ?_
  clear hK26 K26
  refine wp_seq_k fun K81 hK81 => ?_
  rcases Bool.eq_false_or_eq_true (decide (goodI b1 a < 0)) with ht82 | ht82
  · skip
    have ht82d := of_decide_eq_true ht82
    rcases Bool.eq_false_or_eq_true (decide (goodI b2 b < 0)) with ht83 | ht83
    · skip
      have ht83d := of_decide_eq_true ht83
      refine wp_g0 [true, true, true, true, true, true, true, true, true, true, true, true, true, true, false, false] [(14, false), (15, true)] 26
        [ve (pv q43),
         ve (.bool true),
         ve (pv q47),
         ve (.bool true),
         ve (.bool false),
         ve (.pointer (some ⟨q43, 1, none⟩)),
         ve (sv A35 (canon (goodI b1 a).natAbs) cc36),
         ve (.pointer (some ⟨q47, 1, none⟩)),
         ve (sv A39 (canon (goodI b2 b).natAbs) cc40),
         (fun (v : Value) (W : World) => ∃ (A19 : Option Addr) (c20 : Nat), v = sv A19 (canon (val (canon (goodI b1 a).natAbs) * val (canon (goodI b2 b).natAbs))) c20 ∧ SOwn W w69.heap.size 50 .u32 A19 (canon (val (canon (goodI b1 a).natAbs) * val (canon (goodI b2 b).natAbs))) c20),
         (fun (v : Value) (W : World) => ∃ (A27 : Option Addr) (c28 : Nat), v = .agg #[.bool (decide (sgn false (val (canon (val (canon (goodI b1 a).natAbs) * val (canon (goodI b2 b).natAbs)))) < 0)), sv A27 (canon (sgn false (val (canon (val (canon (goodI b1 a).natAbs) * val (canon (goodI b2 b).natAbs))))).natAbs) c28] ∧ SRow W .u32 A27 (canon (sgn false (val (canon (val (canon (goodI b1 a).natAbs) * val (canon (goodI b2 b).natAbs))))).natAbs) c28),
         (fun (v : Value) (W : World) => ∃ (A35 : Option Addr) (c36 : Nat), v = .tuple #[.agg #[.bool (decide (capI (sgn false (val (canon (val (canon (goodI b1 a).natAbs) * val (canon (goodI b2 b).natAbs))))) < 0)), sv A35 (canon (capI (sgn false (val (canon (val (canon (goodI b1 a).natAbs) * val (canon (goodI b2 b).natAbs)))))).natAbs) c36], .bool (okI (sgn false (val (canon (val (canon (goodI b1 a).natAbs) * val (canon (goodI b2 b).natAbs))))))] ∧ SRow W .u32 A35 (canon (capI (sgn false (val (canon (val (canon (goodI b1 a).natAbs) * val (canon (goodI b2 b).natAbs)))))).natAbs) c36),
         (fun (v : Value) (W : World) => ∃ (A41 : Option Addr) (c42 : Nat), v = .agg #[.bool (decide (capI (sgn false (val (canon (val (canon (goodI b1 a).natAbs) * val (canon (goodI b2 b).natAbs))))) < 0)), sv A41 (canon (capI (sgn false (val (canon (val (canon (goodI b1 a).natAbs) * val (canon (goodI b2 b).natAbs)))))).natAbs) c42] ∧ SRow W .u32 A41 (canon (capI (sgn false (val (canon (val (canon (goodI b1 a).natAbs) * val (canon (goodI b2 b).natAbs)))))).natAbs) c42),
         ve (.bool (okI (sgn false (val (canon (val (canon (goodI b1 a).natAbs) * val (canon (goodI b2 b).natAbs))))))),
         vt,
         vt] hs31 (.eq (.eq (.eq (.eq (.eq (.eq (.eq (.eq (.eq (.cons (fun v W W' hn ⟨A19, c20, he, h0⟩ => ⟨A19, c20, he, h0.new_ hn⟩) (.cons (fun v W W' hn ⟨A27, c28, he, h0⟩ => ⟨A27, c28, he, h0.new_ hn⟩) (.cons (fun v W W' hn ⟨A35, c36, he, h0⟩ => ⟨A35, c36, he, h0.new_ hn⟩) (.cons (fun v W W' hn ⟨A41, c42, he, h0⟩ => ⟨A41, c42, he, h0.new_ hn⟩) (.eq (.tt (.tt (.nil))))))))))))))))) ?_ ?_
      · skip
        refine .o1 (tk rfl rfl fun _ w hn k => ⟨_, v_field rfl (k.fx 6 h42) (fun w => rfl), rfl⟩) ?_
        refine .o1 (tk rfl rfl fun _ w hn k => ⟨_, v_load rfl (k.eq1 0 12 rfl) (l_one Try.isAgg4 ((hb79.new_ hn).cell 0)), congrArg Value.bool ht82⟩) ?_
        refine .o1 (tk rfl rfl fun _ w hn k => ⟨_, v_field rfl (k.fx 7 h46) (fun w => rfl), rfl⟩) ?_
        refine .o1 (tk rfl rfl fun _ w hn k => ⟨_, v_load rfl (k.eq1 2 14 rfl) (l_one Try.isAgg4 ((hb71.new_ hn).cell 0)), congrArg Value.bool ht83⟩) ?_
        refine .o1 (tk rfl rfl fun _ w hn k => ⟨_, v_bin rfl (k.eq1 1 13 rfl) (k.eq1 3 15 rfl) (fun _ => rfl) (fun w => by kernel_rfl), rfl⟩) ?_
        refine .o1 (tk rfl rfl fun _ w hn k => ⟨_, v_field rfl (k.fx 6 h42) (fun w => rfl), rfl⟩) ?_
        refine .o1 (tk rfl rfl fun _ w hn k => ⟨_, v_load rfl (k.eq1 5 17 rfl) (l_one Try.isAgg22 ((hb79.new_ hn).cell 1)), rfl⟩) ?_
        refine .o1 (tk rfl rfl fun _ w hn k => ⟨_, v_field rfl (k.fx 7 h46) (fun w => rfl), rfl⟩) ?_
        refine .o1 (tk rfl rfl fun _ w hn k => ⟨_, v_load rfl (k.eq1 7 19 rfl) (l_one Try.isAgg22 ((hb71.new_ hn).cell 1)), rfl⟩) ?_
        refine .o1 (tkC rfl (noG rfl) rfl fun _ w hn k => (by
              refine ⟨#[sv A35 (canon (goodI b1 a).natAbs) cc36, sv A39 (canon (goodI b2 b).natAbs) cc40], _, args2 (k.eq1 6 18 rfl) (k.eq1 8 20 rfl), fun w => by kernel_rfl, rtimes_c _ _ _ _ _ _ _ (hr76.new_ hn) (hr77.new_ hn) (limbs_canon _) (limbs_canon _) (by first | omega | (simp only [List.length_nil, List.length_cons, List.length_set, List.length_replicate]; omega)) (by first | omega | (simp only [List.length_nil, List.length_cons, List.length_set, List.length_replicate]; omega)), ?_⟩
              rintro e w' ⟨A17, c18, rfl, hmo, hm⟩
              exact ⟨_, rfl, hm, ⟨A17, c18, rfl, (hmo.more hn.size)⟩⟩)) ?_
        refine .o1 (tkC rfl (noG rfl) rfl fun _ w hn k => (by
              obtain ⟨A21, c22, e23, hx24⟩ : (fun (v : Value) (W : World) => ∃ (A19 : Option Addr) (c20 : Nat), v = sv A19 (canon (val (canon (goodI b1 a).natAbs) * val (canon (goodI b2 b).natAbs))) c20 ∧ SOwn W w69.heap.size 50 .u32 A19 (canon (val (canon (goodI b1 a).natAbs) * val (canon (goodI b2 b).natAbs))) c20) _ _ := k.dep 9 21 (by kernel_rfl) (by kernel_rfl)
              refine ⟨#[.bool false, sv A21 (canon (val (canon (goodI b1 a).natAbs) * val (canon (goodI b2 b).natAbs))) c22], _, args2 (k.eq1 4 16 rfl) e23, fun w => by kernel_rfl, rmade_c _ _ _ _ _ hx24.row (limbs_canon _) (by first | omega | (simp only [List.length_nil, List.length_cons, List.length_set, List.length_replicate]; omega)), ?_⟩
              rintro e w' ⟨A25, c26, rfl, hmo, hm⟩
              exact ⟨_, rfl, hm, ⟨A25, c26, rfl, hmo⟩⟩)) ?_
        refine .o1 (tkC rfl (noG rfl) rfl fun _ w hn k => (by
              obtain ⟨A29, c30, e31, hx32⟩ : (fun (v : Value) (W : World) => ∃ (A27 : Option Addr) (c28 : Nat), v = .agg #[.bool (decide (sgn false (val (canon (val (canon (goodI b1 a).natAbs) * val (canon (goodI b2 b).natAbs)))) < 0)), sv A27 (canon (sgn false (val (canon (val (canon (goodI b1 a).natAbs) * val (canon (goodI b2 b).natAbs))))).natAbs) c28] ∧ SRow W .u32 A27 (canon (sgn false (val (canon (val (canon (goodI b1 a).natAbs) * val (canon (goodI b2 b).natAbs))))).natAbs) c28) _ _ := k.dep 10 22 (by kernel_rfl) (by kernel_rfl)
              refine ⟨#[.agg #[.bool (decide (sgn false (val (canon (val (canon (goodI b1 a).natAbs) * val (canon (goodI b2 b).natAbs)))) < 0)), sv A29 (canon (sgn false (val (canon (val (canon (goodI b1 a).natAbs) * val (canon (goodI b2 b).natAbs))))).natAbs) c30]], _, args1 e31, fun w => by kernel_rfl, rfits_c _ _ _ _ hx32, ?_⟩
              rintro e w' ⟨A33, c34, rfl, hmo, hm⟩
              exact ⟨_, rfl, hm, ⟨A33, c34, rfl, hmo⟩⟩)) ?_
        refine .o1 (tk rfl rfl fun _ w hn k => (by
              obtain ⟨A37, c38, e39, hx40⟩ : (fun (v : Value) (W : World) => ∃ (A35 : Option Addr) (c36 : Nat), v = .tuple #[.agg #[.bool (decide (capI (sgn false (val (canon (val (canon (goodI b1 a).natAbs) * val (canon (goodI b2 b).natAbs))))) < 0)), sv A35 (canon (capI (sgn false (val (canon (val (canon (goodI b1 a).natAbs) * val (canon (goodI b2 b).natAbs)))))).natAbs) c36], .bool (okI (sgn false (val (canon (val (canon (goodI b1 a).natAbs) * val (canon (goodI b2 b).natAbs))))))] ∧ SRow W .u32 A35 (canon (capI (sgn false (val (canon (val (canon (goodI b1 a).natAbs) * val (canon (goodI b2 b).natAbs)))))).natAbs) c36) _ _ := k.dep 11 23 (by kernel_rfl) (by kernel_rfl)
              exact ⟨_, v_extract rfl e39 rfl, ⟨A37, c38, rfl, hx40⟩⟩)) ?_
        refine .o1 (tk rfl rfl fun _ w hn k => (by
              obtain ⟨A43, c44, e45, hx46⟩ : (fun (v : Value) (W : World) => ∃ (A35 : Option Addr) (c36 : Nat), v = .tuple #[.agg #[.bool (decide (capI (sgn false (val (canon (val (canon (goodI b1 a).natAbs) * val (canon (goodI b2 b).natAbs))))) < 0)), sv A35 (canon (capI (sgn false (val (canon (val (canon (goodI b1 a).natAbs) * val (canon (goodI b2 b).natAbs)))))).natAbs) c36], .bool (okI (sgn false (val (canon (val (canon (goodI b1 a).natAbs) * val (canon (goodI b2 b).natAbs))))))] ∧ SRow W .u32 A35 (canon (capI (sgn false (val (canon (val (canon (goodI b1 a).natAbs) * val (canon (goodI b2 b).natAbs)))))).natAbs) c36) _ _ := k.dep 11 23 (by kernel_rfl) (by kernel_rfl)
              exact ⟨_, v_extract rfl e45 rfl, rfl⟩)) ?_
        refine .off ?_
        refine .off ?_
        exact .nil
      intro a84 w85 hn86 ha87
      have hs88 := ha87.size.trans hs31
      have hd89 := ha87.defers.trans hd32
      have h90 := ha87.fx 4 h33
      obtain ⟨A92, cc93, h91, hr94⟩ : (fun (v : Value) (W : World) => ∃ (A41 : Option Addr) (c42 : Nat), v = .agg #[.bool (decide (capI (sgn false (val (canon (val (canon (goodI b1 a).natAbs) * val (canon (goodI b2 b).natAbs))))) < 0)), sv A41 (canon (capI (sgn false (val (canon (val (canon (goodI b1 a).natAbs) * val (canon (goodI b2 b).natAbs)))))).natAbs) c42] ∧ SRow W .u32 A41 (canon (capI (sgn false (val (canon (val (canon (goodI b1 a).natAbs) * val (canon (goodI b2 b).natAbs)))))).natAbs) c42) _ _ := ha87.got 12 24 rfl (by kernel_rfl)
      have h91 : a84.eval (.tmp 24) = .agg #[.bool (decide (capI (sgn false (val (canon (val (canon (goodI b1 a).natAbs) * val (canon (goodI b2 b).natAbs))))) < 0)), sv A92 (canon (capI (sgn false (val (canon (val (canon (goodI b1 a).natAbs) * val (canon (goodI b2 b).natAbs)))))).natAbs) cc93] := h91
      have h95 := ha87.ge 13 25 rfl
      have hb96 := hb78.new_ hn86
      have hN97 := hN80.transNew hn86
      clear hs31 hd32 h33 h42 h46 hb78 hb79 hq54 hb71 hq55 hr76 hr77 hN80 ha87 hn86
      obtain ⟨w98, -, hst99, hb100, hu101, hf102⟩ := s_two (v0 := .bool (decide (capI (sgn false (val (canon (val (canon (goodI b1 a).natAbs) * val (canon (goodI b2 b).natAbs))))) < 0))) (v1 := sv A92 (canon (capI (sgn false (val (canon (val (canon (goodI b1 a).natAbs) * val (canon (goodI b2 b).natAbs)))))).natAbs) cc93) Try.sizeOf24 rfl rfl rfl hb96
      refine st_act rfl rfl fun K103 hL104 => a_store' rfl h90 h91 hst99 (hL104 _ _ trivial ?_)
      have hr105 := hr94.far hb96 hu101 (by first | rfl | decide | simp [notK])
      have hN106 := hN97.trans hu101 (fun k hk hkb => by subst hkb; omega)
      clear hb96 hst99 K103 hL104 hN97 hr94 hu101 hf102
      refine st_take rfl rfl (y_assign (v := .bool (okI (sgn false (val (canon (val (canon (goodI b1 a).natAbs) * val (canon (goodI b2 b).natAbs))))))) rfl h95) rfl ?_
      obtain ⟨a107, ha108⟩ : ∃ a', a' = a84.put (some 5) (.bool (okI (sgn false (val (canon (val (canon (goodI b1 a).natAbs) * val (canon (goodI b2 b).natAbs))))))) := ⟨_, rfl⟩
      have hs109 : a107.tmps.size = 26 := by rw [ha108, put_size]; exact hs88
      have hd110 : a107.defers = [] := by rw [ha108, put_defers]; exact hd89
      have h111 : a107.eval (.tmp 4) = pv q17 := by rw [ha108, put_ne _ _ _ _ (by decide)]; exact h90
      have h112 : a107.eval (.tmp 24) = .agg #[.bool (decide (capI (sgn false (val (canon (val (canon (goodI b1 a).natAbs) * val (canon (goodI b2 b).natAbs))))) < 0)), sv A92 (canon (capI (sgn false (val (canon (val (canon (goodI b1 a).natAbs) * val (canon (goodI b2 b).natAbs)))))).natAbs) cc93] := by rw [ha108, put_ne _ _ _ _ (by decide)]; exact h91
      have h113 : a107.eval (.tmp 25) = .bool (okI (sgn false (val (canon (val (canon (goodI b1 a).natAbs) * val (canon (goodI b2 b).natAbs)))))) := by rw [ha108, put_ne _ _ _ _ (by decide)]; exact h95
      have h114 : a107.eval (.tmp 5) = .bool (okI (sgn false (val (canon (val (canon (goodI b1 a).natAbs) * val (canon (goodI b2 b).natAbs)))))) := by rw [ha108]; exact put_same _ _ _ (by rw [hs88]; decide)
      show stepsTo _ _ _ _ _ (a84.put (some 5) (.bool (okI (sgn false (val (canon (val (canon (goodI b1 a).natAbs) * val (canon (goodI b2 b).natAbs)))))))) _
      rw [← ha108]
      clear ha108 hs88 hd89 h90 h91 h95
      refine st_nil ?_
      clear h112 h113
      refine hK81 _ _ ?_
      clear hK81 K81
      refine wp_ret (ret_k hd110 (v := .tuple #[.agg #[.bool (decide (capI (sgn false (val (canon (val (canon (goodI b1 a).natAbs) * val (canon (goodI b2 b).natAbs))))) < 0)), sv A92 (canon (capI (sgn false (val (canon (val (canon (goodI b1 a).natAbs) * val (canon (goodI b2 b).natAbs)))))).natAbs) cc93], .bool (okI (sgn false (val (canon (val (canon (goodI b1 a).natAbs) * val (canon (goodI b2 b).natAbs))))))]) (res_ct rfl h111 h114 (l_two Try.isAgg24 Try.sizeOf24 hb100)) ?_)
      have hs2 : (.bool (okI (sgn false (val (canon (val (canon (goodI b1 a).natAbs) * val (canon (goodI b2 b).natAbs)))))) : Value) = .bool (okI (goodI b1 a * goodI b2 b)) := congrArg (fun z => Value.bool (okI z)) (mul_sgn (d := true) (d' := true) ht82 ht83)
      have hz1 : capI (sgn false (val (canon (val (canon (goodI b1 a).natAbs) * val (canon (goodI b2 b).natAbs))))) = capI (goodI b1 a * goodI b2 b) := congrArg capI (mul_sgn (d := true) (d' := true) ht82 ht83)
      exact ⟨A92, cc93, (congrArg (fun z : Int => Ending.returned (Value.tuple #[.agg #[.bool (decide (z < 0)), sv A92 (canon z.natAbs) cc93], .bool (okI (sgn false (val (canon (val (canon (goodI b1 a).natAbs) * val (canon (goodI b2 b).natAbs))))))])) hz1).trans (congrArg (fun y => Ending.returned (Value.tuple #[.agg #[.bool (decide (capI (goodI b1 a * goodI b2 b) < 0)), sv A92 (canon (capI (goodI b1 a * goodI b2 b)).natAbs) cc93], y])) hs2), Eq.mp (congrArg (fun z : Int => SRow _ .u32 A92 (canon z.natAbs) cc93) hz1) hr105, hN106⟩
    have ht83d := of_decide_eq_false ht83
    refine wp_g0 [true, true, true, true, true, true, true, true, true, true, true, true, true, true, false, false] [(14, false), (15, true)] 26
      [ve (pv q43),
       ve (.bool true),
       ve (pv q47),
       ve (.bool false),
       ve (.bool true),
       ve (.pointer (some ⟨q43, 1, none⟩)),
       ve (sv A35 (canon (goodI b1 a).natAbs) cc36),
       ve (.pointer (some ⟨q47, 1, none⟩)),
       ve (sv A39 (canon (goodI b2 b).natAbs) cc40),
       (fun (v : Value) (W : World) => ∃ (A53 : Option Addr) (c54 : Nat), v = sv A53 (canon (val (canon (goodI b1 a).natAbs) * val (canon (goodI b2 b).natAbs))) c54 ∧ SOwn W w69.heap.size 50 .u32 A53 (canon (val (canon (goodI b1 a).natAbs) * val (canon (goodI b2 b).natAbs))) c54),
       (fun (v : Value) (W : World) => ∃ (A61 : Option Addr) (c62 : Nat), v = .agg #[.bool (decide (sgn true (val (canon (val (canon (goodI b1 a).natAbs) * val (canon (goodI b2 b).natAbs)))) < 0)), sv A61 (canon (sgn true (val (canon (val (canon (goodI b1 a).natAbs) * val (canon (goodI b2 b).natAbs))))).natAbs) c62] ∧ SRow W .u32 A61 (canon (sgn true (val (canon (val (canon (goodI b1 a).natAbs) * val (canon (goodI b2 b).natAbs))))).natAbs) c62),
       (fun (v : Value) (W : World) => ∃ (A69 : Option Addr) (c70 : Nat), v = .tuple #[.agg #[.bool (decide (capI (sgn true (val (canon (val (canon (goodI b1 a).natAbs) * val (canon (goodI b2 b).natAbs))))) < 0)), sv A69 (canon (capI (sgn true (val (canon (val (canon (goodI b1 a).natAbs) * val (canon (goodI b2 b).natAbs)))))).natAbs) c70], .bool (okI (sgn true (val (canon (val (canon (goodI b1 a).natAbs) * val (canon (goodI b2 b).natAbs))))))] ∧ SRow W .u32 A69 (canon (capI (sgn true (val (canon (val (canon (goodI b1 a).natAbs) * val (canon (goodI b2 b).natAbs)))))).natAbs) c70),
       (fun (v : Value) (W : World) => ∃ (A75 : Option Addr) (c76 : Nat), v = .agg #[.bool (decide (capI (sgn true (val (canon (val (canon (goodI b1 a).natAbs) * val (canon (goodI b2 b).natAbs))))) < 0)), sv A75 (canon (capI (sgn true (val (canon (val (canon (goodI b1 a).natAbs) * val (canon (goodI b2 b).natAbs)))))).natAbs) c76] ∧ SRow W .u32 A75 (canon (capI (sgn true (val (canon (val (canon (goodI b1 a).natAbs) * val (canon (goodI b2 b).natAbs)))))).natAbs) c76),
       ve (.bool (okI (sgn true (val (canon (val (canon (goodI b1 a).natAbs) * val (canon (goodI b2 b).natAbs))))))),
       vt,
       vt] hs31 (.eq (.eq (.eq (.eq (.eq (.eq (.eq (.eq (.eq (.cons (fun v W W' hn ⟨A53, c54, he, h0⟩ => ⟨A53, c54, he, h0.new_ hn⟩) (.cons (fun v W W' hn ⟨A61, c62, he, h0⟩ => ⟨A61, c62, he, h0.new_ hn⟩) (.cons (fun v W W' hn ⟨A69, c70, he, h0⟩ => ⟨A69, c70, he, h0.new_ hn⟩) (.cons (fun v W W' hn ⟨A75, c76, he, h0⟩ => ⟨A75, c76, he, h0.new_ hn⟩) (.eq (.tt (.tt (.nil))))))))))))))))) ?_ ?_
    · skip
      refine .o1 (tk rfl rfl fun _ w hn k => ⟨_, v_field rfl (k.fx 6 h42) (fun w => rfl), rfl⟩) ?_
      refine .o1 (tk rfl rfl fun _ w hn k => ⟨_, v_load rfl (k.eq1 0 12 rfl) (l_one Try.isAgg4 ((hb79.new_ hn).cell 0)), congrArg Value.bool ht82⟩) ?_
      refine .o1 (tk rfl rfl fun _ w hn k => ⟨_, v_field rfl (k.fx 7 h46) (fun w => rfl), rfl⟩) ?_
      refine .o1 (tk rfl rfl fun _ w hn k => ⟨_, v_load rfl (k.eq1 2 14 rfl) (l_one Try.isAgg4 ((hb71.new_ hn).cell 0)), congrArg Value.bool ht83⟩) ?_
      refine .o1 (tk rfl rfl fun _ w hn k => ⟨_, v_bin rfl (k.eq1 1 13 rfl) (k.eq1 3 15 rfl) (fun _ => rfl) (fun w => by kernel_rfl), rfl⟩) ?_
      refine .o1 (tk rfl rfl fun _ w hn k => ⟨_, v_field rfl (k.fx 6 h42) (fun w => rfl), rfl⟩) ?_
      refine .o1 (tk rfl rfl fun _ w hn k => ⟨_, v_load rfl (k.eq1 5 17 rfl) (l_one Try.isAgg22 ((hb79.new_ hn).cell 1)), rfl⟩) ?_
      refine .o1 (tk rfl rfl fun _ w hn k => ⟨_, v_field rfl (k.fx 7 h46) (fun w => rfl), rfl⟩) ?_
      refine .o1 (tk rfl rfl fun _ w hn k => ⟨_, v_load rfl (k.eq1 7 19 rfl) (l_one Try.isAgg22 ((hb71.new_ hn).cell 1)), rfl⟩) ?_
      refine .o1 (tkC rfl (noG rfl) rfl fun _ w hn k => (by
            refine ⟨#[sv A35 (canon (goodI b1 a).natAbs) cc36, sv A39 (canon (goodI b2 b).natAbs) cc40], _, args2 (k.eq1 6 18 rfl) (k.eq1 8 20 rfl), fun w => by kernel_rfl, rtimes_c _ _ _ _ _ _ _ (hr76.new_ hn) (hr77.new_ hn) (limbs_canon _) (limbs_canon _) (by first | omega | (simp only [List.length_nil, List.length_cons, List.length_set, List.length_replicate]; omega)) (by first | omega | (simp only [List.length_nil, List.length_cons, List.length_set, List.length_replicate]; omega)), ?_⟩
            rintro e w' ⟨A51, c52, rfl, hmo, hm⟩
            exact ⟨_, rfl, hm, ⟨A51, c52, rfl, (hmo.more hn.size)⟩⟩)) ?_
      refine .o1 (tkC rfl (noG rfl) rfl fun _ w hn k => (by
            obtain ⟨A55, c56, e57, hx58⟩ : (fun (v : Value) (W : World) => ∃ (A53 : Option Addr) (c54 : Nat), v = sv A53 (canon (val (canon (goodI b1 a).natAbs) * val (canon (goodI b2 b).natAbs))) c54 ∧ SOwn W w69.heap.size 50 .u32 A53 (canon (val (canon (goodI b1 a).natAbs) * val (canon (goodI b2 b).natAbs))) c54) _ _ := k.dep 9 21 (by kernel_rfl) (by kernel_rfl)
            refine ⟨#[.bool true, sv A55 (canon (val (canon (goodI b1 a).natAbs) * val (canon (goodI b2 b).natAbs))) c56], _, args2 (k.eq1 4 16 rfl) e57, fun w => by kernel_rfl, rmade_c _ _ _ _ _ hx58.row (limbs_canon _) (by first | omega | (simp only [List.length_nil, List.length_cons, List.length_set, List.length_replicate]; omega)), ?_⟩
            rintro e w' ⟨A59, c60, rfl, hmo, hm⟩
            exact ⟨_, rfl, hm, ⟨A59, c60, rfl, hmo⟩⟩)) ?_
      refine .o1 (tkC rfl (noG rfl) rfl fun _ w hn k => (by
            obtain ⟨A63, c64, e65, hx66⟩ : (fun (v : Value) (W : World) => ∃ (A61 : Option Addr) (c62 : Nat), v = .agg #[.bool (decide (sgn true (val (canon (val (canon (goodI b1 a).natAbs) * val (canon (goodI b2 b).natAbs)))) < 0)), sv A61 (canon (sgn true (val (canon (val (canon (goodI b1 a).natAbs) * val (canon (goodI b2 b).natAbs))))).natAbs) c62] ∧ SRow W .u32 A61 (canon (sgn true (val (canon (val (canon (goodI b1 a).natAbs) * val (canon (goodI b2 b).natAbs))))).natAbs) c62) _ _ := k.dep 10 22 (by kernel_rfl) (by kernel_rfl)
            refine ⟨#[.agg #[.bool (decide (sgn true (val (canon (val (canon (goodI b1 a).natAbs) * val (canon (goodI b2 b).natAbs)))) < 0)), sv A63 (canon (sgn true (val (canon (val (canon (goodI b1 a).natAbs) * val (canon (goodI b2 b).natAbs))))).natAbs) c64]], _, args1 e65, fun w => by kernel_rfl, rfits_c _ _ _ _ hx66, ?_⟩
            rintro e w' ⟨A67, c68, rfl, hmo, hm⟩
            exact ⟨_, rfl, hm, ⟨A67, c68, rfl, hmo⟩⟩)) ?_
      refine .o1 (tk rfl rfl fun _ w hn k => (by
            obtain ⟨A71, c72, e73, hx74⟩ : (fun (v : Value) (W : World) => ∃ (A69 : Option Addr) (c70 : Nat), v = .tuple #[.agg #[.bool (decide (capI (sgn true (val (canon (val (canon (goodI b1 a).natAbs) * val (canon (goodI b2 b).natAbs))))) < 0)), sv A69 (canon (capI (sgn true (val (canon (val (canon (goodI b1 a).natAbs) * val (canon (goodI b2 b).natAbs)))))).natAbs) c70], .bool (okI (sgn true (val (canon (val (canon (goodI b1 a).natAbs) * val (canon (goodI b2 b).natAbs))))))] ∧ SRow W .u32 A69 (canon (capI (sgn true (val (canon (val (canon (goodI b1 a).natAbs) * val (canon (goodI b2 b).natAbs)))))).natAbs) c70) _ _ := k.dep 11 23 (by kernel_rfl) (by kernel_rfl)
            exact ⟨_, v_extract rfl e73 rfl, ⟨A71, c72, rfl, hx74⟩⟩)) ?_
      refine .o1 (tk rfl rfl fun _ w hn k => (by
            obtain ⟨A77, c78, e79, hx80⟩ : (fun (v : Value) (W : World) => ∃ (A69 : Option Addr) (c70 : Nat), v = .tuple #[.agg #[.bool (decide (capI (sgn true (val (canon (val (canon (goodI b1 a).natAbs) * val (canon (goodI b2 b).natAbs))))) < 0)), sv A69 (canon (capI (sgn true (val (canon (val (canon (goodI b1 a).natAbs) * val (canon (goodI b2 b).natAbs)))))).natAbs) c70], .bool (okI (sgn true (val (canon (val (canon (goodI b1 a).natAbs) * val (canon (goodI b2 b).natAbs))))))] ∧ SRow W .u32 A69 (canon (capI (sgn true (val (canon (val (canon (goodI b1 a).natAbs) * val (canon (goodI b2 b).natAbs)))))).natAbs) c70) _ _ := k.dep 11 23 (by kernel_rfl) (by kernel_rfl)
            exact ⟨_, v_extract rfl e79 rfl, rfl⟩)) ?_
      refine .off ?_
      refine .off ?_
      exact .nil
    intro a115 w116 hn117 ha118
    have hs119 := ha118.size.trans hs31
    have hd120 := ha118.defers.trans hd32
    have h121 := ha118.fx 4 h33
    obtain ⟨A123, cc124, h122, hr125⟩ : (fun (v : Value) (W : World) => ∃ (A75 : Option Addr) (c76 : Nat), v = .agg #[.bool (decide (capI (sgn true (val (canon (val (canon (goodI b1 a).natAbs) * val (canon (goodI b2 b).natAbs))))) < 0)), sv A75 (canon (capI (sgn true (val (canon (val (canon (goodI b1 a).natAbs) * val (canon (goodI b2 b).natAbs)))))).natAbs) c76] ∧ SRow W .u32 A75 (canon (capI (sgn true (val (canon (val (canon (goodI b1 a).natAbs) * val (canon (goodI b2 b).natAbs)))))).natAbs) c76) _ _ := ha118.got 12 24 rfl (by kernel_rfl)
    have h122 : a115.eval (.tmp 24) = .agg #[.bool (decide (capI (sgn true (val (canon (val (canon (goodI b1 a).natAbs) * val (canon (goodI b2 b).natAbs))))) < 0)), sv A123 (canon (capI (sgn true (val (canon (val (canon (goodI b1 a).natAbs) * val (canon (goodI b2 b).natAbs)))))).natAbs) cc124] := h122
    have h126 := ha118.ge 13 25 rfl
    have hb127 := hb78.new_ hn117
    have hN128 := hN80.transNew hn117
    clear hs31 hd32 h33 h42 h46 hb78 hb79 hq54 hb71 hq55 hr76 hr77 hN80 ha118 hn117
    obtain ⟨w129, -, hst130, hb131, hu132, hf133⟩ := s_two (v0 := .bool (decide (capI (sgn true (val (canon (val (canon (goodI b1 a).natAbs) * val (canon (goodI b2 b).natAbs))))) < 0))) (v1 := sv A123 (canon (capI (sgn true (val (canon (val (canon (goodI b1 a).natAbs) * val (canon (goodI b2 b).natAbs)))))).natAbs) cc124) Try.sizeOf24 rfl rfl rfl hb127
    refine st_act rfl rfl fun K134 hL135 => a_store' rfl h121 h122 hst130 (hL135 _ _ trivial ?_)
    have hr136 := hr125.far hb127 hu132 (by first | rfl | decide | simp [notK])
    have hN137 := hN128.trans hu132 (fun k hk hkb => by subst hkb; omega)
    clear hb127 hst130 K134 hL135 hN128 hr125 hu132 hf133
    refine st_take rfl rfl (y_assign (v := .bool (okI (sgn true (val (canon (val (canon (goodI b1 a).natAbs) * val (canon (goodI b2 b).natAbs))))))) rfl h126) rfl ?_
    obtain ⟨a138, ha139⟩ : ∃ a', a' = a115.put (some 5) (.bool (okI (sgn true (val (canon (val (canon (goodI b1 a).natAbs) * val (canon (goodI b2 b).natAbs))))))) := ⟨_, rfl⟩
    have hs140 : a138.tmps.size = 26 := by rw [ha139, put_size]; exact hs119
    have hd141 : a138.defers = [] := by rw [ha139, put_defers]; exact hd120
    have h142 : a138.eval (.tmp 4) = pv q17 := by rw [ha139, put_ne _ _ _ _ (by decide)]; exact h121
    have h143 : a138.eval (.tmp 24) = .agg #[.bool (decide (capI (sgn true (val (canon (val (canon (goodI b1 a).natAbs) * val (canon (goodI b2 b).natAbs))))) < 0)), sv A123 (canon (capI (sgn true (val (canon (val (canon (goodI b1 a).natAbs) * val (canon (goodI b2 b).natAbs)))))).natAbs) cc124] := by rw [ha139, put_ne _ _ _ _ (by decide)]; exact h122
    have h144 : a138.eval (.tmp 25) = .bool (okI (sgn true (val (canon (val (canon (goodI b1 a).natAbs) * val (canon (goodI b2 b).natAbs)))))) := by rw [ha139, put_ne _ _ _ _ (by decide)]; exact h126
    have h145 : a138.eval (.tmp 5) = .bool (okI (sgn true (val (canon (val (canon (goodI b1 a).natAbs) * val (canon (goodI b2 b).natAbs)))))) := by rw [ha139]; exact put_same _ _ _ (by rw [hs119]; decide)
    show stepsTo _ _ _ _ _ (a115.put (some 5) (.bool (okI (sgn true (val (canon (val (canon (goodI b1 a).natAbs) * val (canon (goodI b2 b).natAbs)))))))) _
    rw [← ha139]
    clear ha139 hs119 hd120 h121 h122 h126
    refine st_nil ?_
    clear h143 h144
    refine hK81 _ _ ?_
    clear hK81 K81
    refine wp_ret (ret_k hd141 (v := .tuple #[.agg #[.bool (decide (capI (sgn true (val (canon (val (canon (goodI b1 a).natAbs) * val (canon (goodI b2 b).natAbs))))) < 0)), sv A123 (canon (capI (sgn true (val (canon (val (canon (goodI b1 a).natAbs) * val (canon (goodI b2 b).natAbs)))))).natAbs) cc124], .bool (okI (sgn true (val (canon (val (canon (goodI b1 a).natAbs) * val (canon (goodI b2 b).natAbs))))))]) (res_ct rfl h142 h145 (l_two Try.isAgg24 Try.sizeOf24 hb131)) ?_)
    have hs2 : (.bool (okI (sgn true (val (canon (val (canon (goodI b1 a).natAbs) * val (canon (goodI b2 b).natAbs)))))) : Value) = .bool (okI (goodI b1 a * goodI b2 b)) := congrArg (fun z => Value.bool (okI z)) (mul_sgn (d := true) (d' := false) ht82 ht83)
    have hz1 : capI (sgn true (val (canon (val (canon (goodI b1 a).natAbs) * val (canon (goodI b2 b).natAbs))))) = capI (goodI b1 a * goodI b2 b) := congrArg capI (mul_sgn (d := true) (d' := false) ht82 ht83)
    exact ⟨A123, cc124, (congrArg (fun z : Int => Ending.returned (Value.tuple #[.agg #[.bool (decide (z < 0)), sv A123 (canon z.natAbs) cc124], .bool (okI (sgn true (val (canon (val (canon (goodI b1 a).natAbs) * val (canon (goodI b2 b).natAbs))))))])) hz1).trans (congrArg (fun y => Ending.returned (Value.tuple #[.agg #[.bool (decide (capI (goodI b1 a * goodI b2 b) < 0)), sv A123 (canon (capI (goodI b1 a * goodI b2 b)).natAbs) cc124], y])) hs2), Eq.mp (congrArg (fun z : Int => SRow _ .u32 A123 (canon z.natAbs) cc124) hz1) hr136, hN137⟩
  have ht82d := of_decide_eq_false ht82
  rcases Bool.eq_false_or_eq_true (decide (goodI b2 b < 0)) with ht146 | ht146
  · skip
    have ht146d := of_decide_eq_true ht146
    refine wp_g0 [true, true, true, true, true, true, true, true, true, true, true, true, true, true, false, false] [(14, false), (15, true)] 26
      [ve (pv q43),
       ve (.bool false),
       ve (pv q47),
       ve (.bool true),
       ve (.bool true),
       ve (.pointer (some ⟨q43, 1, none⟩)),
       ve (sv A35 (canon (goodI b1 a).natAbs) cc36),
       ve (.pointer (some ⟨q47, 1, none⟩)),
       ve (sv A39 (canon (goodI b2 b).natAbs) cc40),
       (fun (v : Value) (W : World) => ∃ (A87 : Option Addr) (c88 : Nat), v = sv A87 (canon (val (canon (goodI b1 a).natAbs) * val (canon (goodI b2 b).natAbs))) c88 ∧ SOwn W w69.heap.size 50 .u32 A87 (canon (val (canon (goodI b1 a).natAbs) * val (canon (goodI b2 b).natAbs))) c88),
       (fun (v : Value) (W : World) => ∃ (A95 : Option Addr) (c96 : Nat), v = .agg #[.bool (decide (sgn true (val (canon (val (canon (goodI b1 a).natAbs) * val (canon (goodI b2 b).natAbs)))) < 0)), sv A95 (canon (sgn true (val (canon (val (canon (goodI b1 a).natAbs) * val (canon (goodI b2 b).natAbs))))).natAbs) c96] ∧ SRow W .u32 A95 (canon (sgn true (val (canon (val (canon (goodI b1 a).natAbs) * val (canon (goodI b2 b).natAbs))))).natAbs) c96),
       (fun (v : Value) (W : World) => ∃ (A103 : Option Addr) (c104 : Nat), v = .tuple #[.agg #[.bool (decide (capI (sgn true (val (canon (val (canon (goodI b1 a).natAbs) * val (canon (goodI b2 b).natAbs))))) < 0)), sv A103 (canon (capI (sgn true (val (canon (val (canon (goodI b1 a).natAbs) * val (canon (goodI b2 b).natAbs)))))).natAbs) c104], .bool (okI (sgn true (val (canon (val (canon (goodI b1 a).natAbs) * val (canon (goodI b2 b).natAbs))))))] ∧ SRow W .u32 A103 (canon (capI (sgn true (val (canon (val (canon (goodI b1 a).natAbs) * val (canon (goodI b2 b).natAbs)))))).natAbs) c104),
       (fun (v : Value) (W : World) => ∃ (A109 : Option Addr) (c110 : Nat), v = .agg #[.bool (decide (capI (sgn true (val (canon (val (canon (goodI b1 a).natAbs) * val (canon (goodI b2 b).natAbs))))) < 0)), sv A109 (canon (capI (sgn true (val (canon (val (canon (goodI b1 a).natAbs) * val (canon (goodI b2 b).natAbs)))))).natAbs) c110] ∧ SRow W .u32 A109 (canon (capI (sgn true (val (canon (val (canon (goodI b1 a).natAbs) * val (canon (goodI b2 b).natAbs)))))).natAbs) c110),
       ve (.bool (okI (sgn true (val (canon (val (canon (goodI b1 a).natAbs) * val (canon (goodI b2 b).natAbs))))))),
       vt,
       vt] hs31 (.eq (.eq (.eq (.eq (.eq (.eq (.eq (.eq (.eq (.cons (fun v W W' hn ⟨A87, c88, he, h0⟩ => ⟨A87, c88, he, h0.new_ hn⟩) (.cons (fun v W W' hn ⟨A95, c96, he, h0⟩ => ⟨A95, c96, he, h0.new_ hn⟩) (.cons (fun v W W' hn ⟨A103, c104, he, h0⟩ => ⟨A103, c104, he, h0.new_ hn⟩) (.cons (fun v W W' hn ⟨A109, c110, he, h0⟩ => ⟨A109, c110, he, h0.new_ hn⟩) (.eq (.tt (.tt (.nil))))))))))))))))) ?_ ?_
    · skip
      refine .o1 (tk rfl rfl fun _ w hn k => ⟨_, v_field rfl (k.fx 6 h42) (fun w => rfl), rfl⟩) ?_
      refine .o1 (tk rfl rfl fun _ w hn k => ⟨_, v_load rfl (k.eq1 0 12 rfl) (l_one Try.isAgg4 ((hb79.new_ hn).cell 0)), congrArg Value.bool ht82⟩) ?_
      refine .o1 (tk rfl rfl fun _ w hn k => ⟨_, v_field rfl (k.fx 7 h46) (fun w => rfl), rfl⟩) ?_
      refine .o1 (tk rfl rfl fun _ w hn k => ⟨_, v_load rfl (k.eq1 2 14 rfl) (l_one Try.isAgg4 ((hb71.new_ hn).cell 0)), congrArg Value.bool ht146⟩) ?_
      refine .o1 (tk rfl rfl fun _ w hn k => ⟨_, v_bin rfl (k.eq1 1 13 rfl) (k.eq1 3 15 rfl) (fun _ => rfl) (fun w => by kernel_rfl), rfl⟩) ?_
      refine .o1 (tk rfl rfl fun _ w hn k => ⟨_, v_field rfl (k.fx 6 h42) (fun w => rfl), rfl⟩) ?_
      refine .o1 (tk rfl rfl fun _ w hn k => ⟨_, v_load rfl (k.eq1 5 17 rfl) (l_one Try.isAgg22 ((hb79.new_ hn).cell 1)), rfl⟩) ?_
      refine .o1 (tk rfl rfl fun _ w hn k => ⟨_, v_field rfl (k.fx 7 h46) (fun w => rfl), rfl⟩) ?_
      refine .o1 (tk rfl rfl fun _ w hn k => ⟨_, v_load rfl (k.eq1 7 19 rfl) (l_one Try.isAgg22 ((hb71.new_ hn).cell 1)), rfl⟩) ?_
      refine .o1 (tkC rfl (noG rfl) rfl fun _ w hn k => (by
            refine ⟨#[sv A35 (canon (goodI b1 a).natAbs) cc36, sv A39 (canon (goodI b2 b).natAbs) cc40], _, args2 (k.eq1 6 18 rfl) (k.eq1 8 20 rfl), fun w => by kernel_rfl, rtimes_c _ _ _ _ _ _ _ (hr76.new_ hn) (hr77.new_ hn) (limbs_canon _) (limbs_canon _) (by first | omega | (simp only [List.length_nil, List.length_cons, List.length_set, List.length_replicate]; omega)) (by first | omega | (simp only [List.length_nil, List.length_cons, List.length_set, List.length_replicate]; omega)), ?_⟩
            rintro e w' ⟨A85, c86, rfl, hmo, hm⟩
            exact ⟨_, rfl, hm, ⟨A85, c86, rfl, (hmo.more hn.size)⟩⟩)) ?_
      refine .o1 (tkC rfl (noG rfl) rfl fun _ w hn k => (by
            obtain ⟨A89, c90, e91, hx92⟩ : (fun (v : Value) (W : World) => ∃ (A87 : Option Addr) (c88 : Nat), v = sv A87 (canon (val (canon (goodI b1 a).natAbs) * val (canon (goodI b2 b).natAbs))) c88 ∧ SOwn W w69.heap.size 50 .u32 A87 (canon (val (canon (goodI b1 a).natAbs) * val (canon (goodI b2 b).natAbs))) c88) _ _ := k.dep 9 21 (by kernel_rfl) (by kernel_rfl)
            refine ⟨#[.bool true, sv A89 (canon (val (canon (goodI b1 a).natAbs) * val (canon (goodI b2 b).natAbs))) c90], _, args2 (k.eq1 4 16 rfl) e91, fun w => by kernel_rfl, rmade_c _ _ _ _ _ hx92.row (limbs_canon _) (by first | omega | (simp only [List.length_nil, List.length_cons, List.length_set, List.length_replicate]; omega)), ?_⟩
            rintro e w' ⟨A93, c94, rfl, hmo, hm⟩
            exact ⟨_, rfl, hm, ⟨A93, c94, rfl, hmo⟩⟩)) ?_
      refine .o1 (tkC rfl (noG rfl) rfl fun _ w hn k => (by
            obtain ⟨A97, c98, e99, hx100⟩ : (fun (v : Value) (W : World) => ∃ (A95 : Option Addr) (c96 : Nat), v = .agg #[.bool (decide (sgn true (val (canon (val (canon (goodI b1 a).natAbs) * val (canon (goodI b2 b).natAbs)))) < 0)), sv A95 (canon (sgn true (val (canon (val (canon (goodI b1 a).natAbs) * val (canon (goodI b2 b).natAbs))))).natAbs) c96] ∧ SRow W .u32 A95 (canon (sgn true (val (canon (val (canon (goodI b1 a).natAbs) * val (canon (goodI b2 b).natAbs))))).natAbs) c96) _ _ := k.dep 10 22 (by kernel_rfl) (by kernel_rfl)
            refine ⟨#[.agg #[.bool (decide (sgn true (val (canon (val (canon (goodI b1 a).natAbs) * val (canon (goodI b2 b).natAbs)))) < 0)), sv A97 (canon (sgn true (val (canon (val (canon (goodI b1 a).natAbs) * val (canon (goodI b2 b).natAbs))))).natAbs) c98]], _, args1 e99, fun w => by kernel_rfl, rfits_c _ _ _ _ hx100, ?_⟩
            rintro e w' ⟨A101, c102, rfl, hmo, hm⟩
            exact ⟨_, rfl, hm, ⟨A101, c102, rfl, hmo⟩⟩)) ?_
      refine .o1 (tk rfl rfl fun _ w hn k => (by
            obtain ⟨A105, c106, e107, hx108⟩ : (fun (v : Value) (W : World) => ∃ (A103 : Option Addr) (c104 : Nat), v = .tuple #[.agg #[.bool (decide (capI (sgn true (val (canon (val (canon (goodI b1 a).natAbs) * val (canon (goodI b2 b).natAbs))))) < 0)), sv A103 (canon (capI (sgn true (val (canon (val (canon (goodI b1 a).natAbs) * val (canon (goodI b2 b).natAbs)))))).natAbs) c104], .bool (okI (sgn true (val (canon (val (canon (goodI b1 a).natAbs) * val (canon (goodI b2 b).natAbs))))))] ∧ SRow W .u32 A103 (canon (capI (sgn true (val (canon (val (canon (goodI b1 a).natAbs) * val (canon (goodI b2 b).natAbs)))))).natAbs) c104) _ _ := k.dep 11 23 (by kernel_rfl) (by kernel_rfl)
            exact ⟨_, v_extract rfl e107 rfl, ⟨A105, c106, rfl, hx108⟩⟩)) ?_
      refine .o1 (tk rfl rfl fun _ w hn k => (by
            obtain ⟨A111, c112, e113, hx114⟩ : (fun (v : Value) (W : World) => ∃ (A103 : Option Addr) (c104 : Nat), v = .tuple #[.agg #[.bool (decide (capI (sgn true (val (canon (val (canon (goodI b1 a).natAbs) * val (canon (goodI b2 b).natAbs))))) < 0)), sv A103 (canon (capI (sgn true (val (canon (val (canon (goodI b1 a).natAbs) * val (canon (goodI b2 b).natAbs)))))).natAbs) c104], .bool (okI (sgn true (val (canon (val (canon (goodI b1 a).natAbs) * val (canon (goodI b2 b).natAbs))))))] ∧ SRow W .u32 A103 (canon (capI (sgn true (val (canon (val (canon (goodI b1 a).natAbs) * val (canon (goodI b2 b).natAbs)))))).natAbs) c104) _ _ := k.dep 11 23 (by kernel_rfl) (by kernel_rfl)
            exact ⟨_, v_extract rfl e113 rfl, rfl⟩)) ?_
      refine .off ?_
      refine .off ?_
      exact .nil
    intro a147 w148 hn149 ha150
    have hs151 := ha150.size.trans hs31
    have hd152 := ha150.defers.trans hd32
    have h153 := ha150.fx 4 h33
    obtain ⟨A155, cc156, h154, hr157⟩ : (fun (v : Value) (W : World) => ∃ (A109 : Option Addr) (c110 : Nat), v = .agg #[.bool (decide (capI (sgn true (val (canon (val (canon (goodI b1 a).natAbs) * val (canon (goodI b2 b).natAbs))))) < 0)), sv A109 (canon (capI (sgn true (val (canon (val (canon (goodI b1 a).natAbs) * val (canon (goodI b2 b).natAbs)))))).natAbs) c110] ∧ SRow W .u32 A109 (canon (capI (sgn true (val (canon (val (canon (goodI b1 a).natAbs) * val (canon (goodI b2 b).natAbs)))))).natAbs) c110) _ _ := ha150.got 12 24 rfl (by kernel_rfl)
    have h154 : a147.eval (.tmp 24) = .agg #[.bool (decide (capI (sgn true (val (canon (val (canon (goodI b1 a).natAbs) * val (canon (goodI b2 b).natAbs))))) < 0)), sv A155 (canon (capI (sgn true (val (canon (val (canon (goodI b1 a).natAbs) * val (canon (goodI b2 b).natAbs)))))).natAbs) cc156] := h154
    have h158 := ha150.ge 13 25 rfl
    have hb159 := hb78.new_ hn149
    have hN160 := hN80.transNew hn149
    clear hs31 hd32 h33 h42 h46 hb78 hb79 hq54 hb71 hq55 hr76 hr77 hN80 ha150 hn149
    obtain ⟨w161, -, hst162, hb163, hu164, hf165⟩ := s_two (v0 := .bool (decide (capI (sgn true (val (canon (val (canon (goodI b1 a).natAbs) * val (canon (goodI b2 b).natAbs))))) < 0))) (v1 := sv A155 (canon (capI (sgn true (val (canon (val (canon (goodI b1 a).natAbs) * val (canon (goodI b2 b).natAbs)))))).natAbs) cc156) Try.sizeOf24 rfl rfl rfl hb159
    refine st_act rfl rfl fun K166 hL167 => a_store' rfl h153 h154 hst162 (hL167 _ _ trivial ?_)
    have hr168 := hr157.far hb159 hu164 (by first | rfl | decide | simp [notK])
    have hN169 := hN160.trans hu164 (fun k hk hkb => by subst hkb; omega)
    clear hb159 hst162 K166 hL167 hN160 hr157 hu164 hf165
    refine st_take rfl rfl (y_assign (v := .bool (okI (sgn true (val (canon (val (canon (goodI b1 a).natAbs) * val (canon (goodI b2 b).natAbs))))))) rfl h158) rfl ?_
    obtain ⟨a170, ha171⟩ : ∃ a', a' = a147.put (some 5) (.bool (okI (sgn true (val (canon (val (canon (goodI b1 a).natAbs) * val (canon (goodI b2 b).natAbs))))))) := ⟨_, rfl⟩
    have hs172 : a170.tmps.size = 26 := by rw [ha171, put_size]; exact hs151
    have hd173 : a170.defers = [] := by rw [ha171, put_defers]; exact hd152
    have h174 : a170.eval (.tmp 4) = pv q17 := by rw [ha171, put_ne _ _ _ _ (by decide)]; exact h153
    have h175 : a170.eval (.tmp 24) = .agg #[.bool (decide (capI (sgn true (val (canon (val (canon (goodI b1 a).natAbs) * val (canon (goodI b2 b).natAbs))))) < 0)), sv A155 (canon (capI (sgn true (val (canon (val (canon (goodI b1 a).natAbs) * val (canon (goodI b2 b).natAbs)))))).natAbs) cc156] := by rw [ha171, put_ne _ _ _ _ (by decide)]; exact h154
    have h176 : a170.eval (.tmp 25) = .bool (okI (sgn true (val (canon (val (canon (goodI b1 a).natAbs) * val (canon (goodI b2 b).natAbs)))))) := by rw [ha171, put_ne _ _ _ _ (by decide)]; exact h158
    have h177 : a170.eval (.tmp 5) = .bool (okI (sgn true (val (canon (val (canon (goodI b1 a).natAbs) * val (canon (goodI b2 b).natAbs)))))) := by rw [ha171]; exact put_same _ _ _ (by rw [hs151]; decide)
    show stepsTo _ _ _ _ _ (a147.put (some 5) (.bool (okI (sgn true (val (canon (val (canon (goodI b1 a).natAbs) * val (canon (goodI b2 b).natAbs)))))))) _
    rw [← ha171]
    clear ha171 hs151 hd152 h153 h154 h158
    refine st_nil ?_
    clear h175 h176
    refine hK81 _ _ ?_
    clear hK81 K81
    refine wp_ret (ret_k hd173 (v := .tuple #[.agg #[.bool (decide (capI (sgn true (val (canon (val (canon (goodI b1 a).natAbs) * val (canon (goodI b2 b).natAbs))))) < 0)), sv A155 (canon (capI (sgn true (val (canon (val (canon (goodI b1 a).natAbs) * val (canon (goodI b2 b).natAbs)))))).natAbs) cc156], .bool (okI (sgn true (val (canon (val (canon (goodI b1 a).natAbs) * val (canon (goodI b2 b).natAbs))))))]) (res_ct rfl h174 h177 (l_two Try.isAgg24 Try.sizeOf24 hb163)) ?_)
    have hs2 : (.bool (okI (sgn true (val (canon (val (canon (goodI b1 a).natAbs) * val (canon (goodI b2 b).natAbs)))))) : Value) = .bool (okI (goodI b1 a * goodI b2 b)) := congrArg (fun z => Value.bool (okI z)) (mul_sgn (d := false) (d' := true) ht82 ht146)
    have hz1 : capI (sgn true (val (canon (val (canon (goodI b1 a).natAbs) * val (canon (goodI b2 b).natAbs))))) = capI (goodI b1 a * goodI b2 b) := congrArg capI (mul_sgn (d := false) (d' := true) ht82 ht146)
    exact ⟨A155, cc156, (congrArg (fun z : Int => Ending.returned (Value.tuple #[.agg #[.bool (decide (z < 0)), sv A155 (canon z.natAbs) cc156], .bool (okI (sgn true (val (canon (val (canon (goodI b1 a).natAbs) * val (canon (goodI b2 b).natAbs))))))])) hz1).trans (congrArg (fun y => Ending.returned (Value.tuple #[.agg #[.bool (decide (capI (goodI b1 a * goodI b2 b) < 0)), sv A155 (canon (capI (goodI b1 a * goodI b2 b)).natAbs) cc156], y])) hs2), Eq.mp (congrArg (fun z : Int => SRow _ .u32 A155 (canon z.natAbs) cc156) hz1) hr168, hN169⟩
  have ht146d := of_decide_eq_false ht146
  refine wp_g0 [true, true, true, true, true, true, true, true, true, true, true, true, true, true, false, false] [(14, false), (15, true)] 26
    [ve (pv q43),
     ve (.bool false),
     ve (pv q47),
     ve (.bool false),
     ve (.bool false),
     ve (.pointer (some ⟨q43, 1, none⟩)),
     ve (sv A35 (canon (goodI b1 a).natAbs) cc36),
     ve (.pointer (some ⟨q47, 1, none⟩)),
     ve (sv A39 (canon (goodI b2 b).natAbs) cc40),
     (fun (v : Value) (W : World) => ∃ (A121 : Option Addr) (c122 : Nat), v = sv A121 (canon (val (canon (goodI b1 a).natAbs) * val (canon (goodI b2 b).natAbs))) c122 ∧ SOwn W w69.heap.size 50 .u32 A121 (canon (val (canon (goodI b1 a).natAbs) * val (canon (goodI b2 b).natAbs))) c122),
     (fun (v : Value) (W : World) => ∃ (A129 : Option Addr) (c130 : Nat), v = .agg #[.bool (decide (sgn false (val (canon (val (canon (goodI b1 a).natAbs) * val (canon (goodI b2 b).natAbs)))) < 0)), sv A129 (canon (sgn false (val (canon (val (canon (goodI b1 a).natAbs) * val (canon (goodI b2 b).natAbs))))).natAbs) c130] ∧ SRow W .u32 A129 (canon (sgn false (val (canon (val (canon (goodI b1 a).natAbs) * val (canon (goodI b2 b).natAbs))))).natAbs) c130),
     (fun (v : Value) (W : World) => ∃ (A137 : Option Addr) (c138 : Nat), v = .tuple #[.agg #[.bool (decide (capI (sgn false (val (canon (val (canon (goodI b1 a).natAbs) * val (canon (goodI b2 b).natAbs))))) < 0)), sv A137 (canon (capI (sgn false (val (canon (val (canon (goodI b1 a).natAbs) * val (canon (goodI b2 b).natAbs)))))).natAbs) c138], .bool (okI (sgn false (val (canon (val (canon (goodI b1 a).natAbs) * val (canon (goodI b2 b).natAbs))))))] ∧ SRow W .u32 A137 (canon (capI (sgn false (val (canon (val (canon (goodI b1 a).natAbs) * val (canon (goodI b2 b).natAbs)))))).natAbs) c138),
     (fun (v : Value) (W : World) => ∃ (A143 : Option Addr) (c144 : Nat), v = .agg #[.bool (decide (capI (sgn false (val (canon (val (canon (goodI b1 a).natAbs) * val (canon (goodI b2 b).natAbs))))) < 0)), sv A143 (canon (capI (sgn false (val (canon (val (canon (goodI b1 a).natAbs) * val (canon (goodI b2 b).natAbs)))))).natAbs) c144] ∧ SRow W .u32 A143 (canon (capI (sgn false (val (canon (val (canon (goodI b1 a).natAbs) * val (canon (goodI b2 b).natAbs)))))).natAbs) c144),
     ve (.bool (okI (sgn false (val (canon (val (canon (goodI b1 a).natAbs) * val (canon (goodI b2 b).natAbs))))))),
     vt,
     vt] hs31 (.eq (.eq (.eq (.eq (.eq (.eq (.eq (.eq (.eq (.cons (fun v W W' hn ⟨A121, c122, he, h0⟩ => ⟨A121, c122, he, h0.new_ hn⟩) (.cons (fun v W W' hn ⟨A129, c130, he, h0⟩ => ⟨A129, c130, he, h0.new_ hn⟩) (.cons (fun v W W' hn ⟨A137, c138, he, h0⟩ => ⟨A137, c138, he, h0.new_ hn⟩) (.cons (fun v W W' hn ⟨A143, c144, he, h0⟩ => ⟨A143, c144, he, h0.new_ hn⟩) (.eq (.tt (.tt (.nil))))))))))))))))) ?_ ?_
  · skip
    refine .o1 (tk rfl rfl fun _ w hn k => ⟨_, v_field rfl (k.fx 6 h42) (fun w => rfl), rfl⟩) ?_
    refine .o1 (tk rfl rfl fun _ w hn k => ⟨_, v_load rfl (k.eq1 0 12 rfl) (l_one Try.isAgg4 ((hb79.new_ hn).cell 0)), congrArg Value.bool ht82⟩) ?_
    refine .o1 (tk rfl rfl fun _ w hn k => ⟨_, v_field rfl (k.fx 7 h46) (fun w => rfl), rfl⟩) ?_
    refine .o1 (tk rfl rfl fun _ w hn k => ⟨_, v_load rfl (k.eq1 2 14 rfl) (l_one Try.isAgg4 ((hb71.new_ hn).cell 0)), congrArg Value.bool ht146⟩) ?_
    refine .o1 (tk rfl rfl fun _ w hn k => ⟨_, v_bin rfl (k.eq1 1 13 rfl) (k.eq1 3 15 rfl) (fun _ => rfl) (fun w => by kernel_rfl), rfl⟩) ?_
    refine .o1 (tk rfl rfl fun _ w hn k => ⟨_, v_field rfl (k.fx 6 h42) (fun w => rfl), rfl⟩) ?_
    refine .o1 (tk rfl rfl fun _ w hn k => ⟨_, v_load rfl (k.eq1 5 17 rfl) (l_one Try.isAgg22 ((hb79.new_ hn).cell 1)), rfl⟩) ?_
    refine .o1 (tk rfl rfl fun _ w hn k => ⟨_, v_field rfl (k.fx 7 h46) (fun w => rfl), rfl⟩) ?_
    refine .o1 (tk rfl rfl fun _ w hn k => ⟨_, v_load rfl (k.eq1 7 19 rfl) (l_one Try.isAgg22 ((hb71.new_ hn).cell 1)), rfl⟩) ?_
    refine .o1 (tkC rfl (noG rfl) rfl fun _ w hn k => (by
          refine ⟨#[sv A35 (canon (goodI b1 a).natAbs) cc36, sv A39 (canon (goodI b2 b).natAbs) cc40], _, args2 (k.eq1 6 18 rfl) (k.eq1 8 20 rfl), fun w => by kernel_rfl, rtimes_c _ _ _ _ _ _ _ (hr76.new_ hn) (hr77.new_ hn) (limbs_canon _) (limbs_canon _) (by first | omega | (simp only [List.length_nil, List.length_cons, List.length_set, List.length_replicate]; omega)) (by first | omega | (simp only [List.length_nil, List.length_cons, List.length_set, List.length_replicate]; omega)), ?_⟩
          rintro e w' ⟨A119, c120, rfl, hmo, hm⟩
          exact ⟨_, rfl, hm, ⟨A119, c120, rfl, (hmo.more hn.size)⟩⟩)) ?_
    refine .o1 (tkC rfl (noG rfl) rfl fun _ w hn k => (by
          obtain ⟨A123, c124, e125, hx126⟩ : (fun (v : Value) (W : World) => ∃ (A121 : Option Addr) (c122 : Nat), v = sv A121 (canon (val (canon (goodI b1 a).natAbs) * val (canon (goodI b2 b).natAbs))) c122 ∧ SOwn W w69.heap.size 50 .u32 A121 (canon (val (canon (goodI b1 a).natAbs) * val (canon (goodI b2 b).natAbs))) c122) _ _ := k.dep 9 21 (by kernel_rfl) (by kernel_rfl)
          refine ⟨#[.bool false, sv A123 (canon (val (canon (goodI b1 a).natAbs) * val (canon (goodI b2 b).natAbs))) c124], _, args2 (k.eq1 4 16 rfl) e125, fun w => by kernel_rfl, rmade_c _ _ _ _ _ hx126.row (limbs_canon _) (by first | omega | (simp only [List.length_nil, List.length_cons, List.length_set, List.length_replicate]; omega)), ?_⟩
          rintro e w' ⟨A127, c128, rfl, hmo, hm⟩
          exact ⟨_, rfl, hm, ⟨A127, c128, rfl, hmo⟩⟩)) ?_
    refine .o1 (tkC rfl (noG rfl) rfl fun _ w hn k => (by
          obtain ⟨A131, c132, e133, hx134⟩ : (fun (v : Value) (W : World) => ∃ (A129 : Option Addr) (c130 : Nat), v = .agg #[.bool (decide (sgn false (val (canon (val (canon (goodI b1 a).natAbs) * val (canon (goodI b2 b).natAbs)))) < 0)), sv A129 (canon (sgn false (val (canon (val (canon (goodI b1 a).natAbs) * val (canon (goodI b2 b).natAbs))))).natAbs) c130] ∧ SRow W .u32 A129 (canon (sgn false (val (canon (val (canon (goodI b1 a).natAbs) * val (canon (goodI b2 b).natAbs))))).natAbs) c130) _ _ := k.dep 10 22 (by kernel_rfl) (by kernel_rfl)
          refine ⟨#[.agg #[.bool (decide (sgn false (val (canon (val (canon (goodI b1 a).natAbs) * val (canon (goodI b2 b).natAbs)))) < 0)), sv A131 (canon (sgn false (val (canon (val (canon (goodI b1 a).natAbs) * val (canon (goodI b2 b).natAbs))))).natAbs) c132]], _, args1 e133, fun w => by kernel_rfl, rfits_c _ _ _ _ hx134, ?_⟩
          rintro e w' ⟨A135, c136, rfl, hmo, hm⟩
          exact ⟨_, rfl, hm, ⟨A135, c136, rfl, hmo⟩⟩)) ?_
    refine .o1 (tk rfl rfl fun _ w hn k => (by
          obtain ⟨A139, c140, e141, hx142⟩ : (fun (v : Value) (W : World) => ∃ (A137 : Option Addr) (c138 : Nat), v = .tuple #[.agg #[.bool (decide (capI (sgn false (val (canon (val (canon (goodI b1 a).natAbs) * val (canon (goodI b2 b).natAbs))))) < 0)), sv A137 (canon (capI (sgn false (val (canon (val (canon (goodI b1 a).natAbs) * val (canon (goodI b2 b).natAbs)))))).natAbs) c138], .bool (okI (sgn false (val (canon (val (canon (goodI b1 a).natAbs) * val (canon (goodI b2 b).natAbs))))))] ∧ SRow W .u32 A137 (canon (capI (sgn false (val (canon (val (canon (goodI b1 a).natAbs) * val (canon (goodI b2 b).natAbs)))))).natAbs) c138) _ _ := k.dep 11 23 (by kernel_rfl) (by kernel_rfl)
          exact ⟨_, v_extract rfl e141 rfl, ⟨A139, c140, rfl, hx142⟩⟩)) ?_
    refine .o1 (tk rfl rfl fun _ w hn k => (by
          obtain ⟨A145, c146, e147, hx148⟩ : (fun (v : Value) (W : World) => ∃ (A137 : Option Addr) (c138 : Nat), v = .tuple #[.agg #[.bool (decide (capI (sgn false (val (canon (val (canon (goodI b1 a).natAbs) * val (canon (goodI b2 b).natAbs))))) < 0)), sv A137 (canon (capI (sgn false (val (canon (val (canon (goodI b1 a).natAbs) * val (canon (goodI b2 b).natAbs)))))).natAbs) c138], .bool (okI (sgn false (val (canon (val (canon (goodI b1 a).natAbs) * val (canon (goodI b2 b).natAbs))))))] ∧ SRow W .u32 A137 (canon (capI (sgn false (val (canon (val (canon (goodI b1 a).natAbs) * val (canon (goodI b2 b).natAbs)))))).natAbs) c138) _ _ := k.dep 11 23 (by kernel_rfl) (by kernel_rfl)
          exact ⟨_, v_extract rfl e147 rfl, rfl⟩)) ?_
    refine .off ?_
    refine .off ?_
    exact .nil
  intro a178 w179 hn180 ha181
  have hs182 := ha181.size.trans hs31
  have hd183 := ha181.defers.trans hd32
  have h184 := ha181.fx 4 h33
  obtain ⟨A186, cc187, h185, hr188⟩ : (fun (v : Value) (W : World) => ∃ (A143 : Option Addr) (c144 : Nat), v = .agg #[.bool (decide (capI (sgn false (val (canon (val (canon (goodI b1 a).natAbs) * val (canon (goodI b2 b).natAbs))))) < 0)), sv A143 (canon (capI (sgn false (val (canon (val (canon (goodI b1 a).natAbs) * val (canon (goodI b2 b).natAbs)))))).natAbs) c144] ∧ SRow W .u32 A143 (canon (capI (sgn false (val (canon (val (canon (goodI b1 a).natAbs) * val (canon (goodI b2 b).natAbs)))))).natAbs) c144) _ _ := ha181.got 12 24 rfl (by kernel_rfl)
  have h185 : a178.eval (.tmp 24) = .agg #[.bool (decide (capI (sgn false (val (canon (val (canon (goodI b1 a).natAbs) * val (canon (goodI b2 b).natAbs))))) < 0)), sv A186 (canon (capI (sgn false (val (canon (val (canon (goodI b1 a).natAbs) * val (canon (goodI b2 b).natAbs)))))).natAbs) cc187] := h185
  have h189 := ha181.ge 13 25 rfl
  have hb190 := hb78.new_ hn180
  have hN191 := hN80.transNew hn180
  clear hs31 hd32 h33 h42 h46 hb78 hb79 hq54 hb71 hq55 hr76 hr77 hN80 ha181 hn180
  obtain ⟨w192, -, hst193, hb194, hu195, hf196⟩ := s_two (v0 := .bool (decide (capI (sgn false (val (canon (val (canon (goodI b1 a).natAbs) * val (canon (goodI b2 b).natAbs))))) < 0))) (v1 := sv A186 (canon (capI (sgn false (val (canon (val (canon (goodI b1 a).natAbs) * val (canon (goodI b2 b).natAbs)))))).natAbs) cc187) Try.sizeOf24 rfl rfl rfl hb190
  refine st_act rfl rfl fun K197 hL198 => a_store' rfl h184 h185 hst193 (hL198 _ _ trivial ?_)
  have hr199 := hr188.far hb190 hu195 (by first | rfl | decide | simp [notK])
  have hN200 := hN191.trans hu195 (fun k hk hkb => by subst hkb; omega)
  clear hb190 hst193 K197 hL198 hN191 hr188 hu195 hf196
  refine st_take rfl rfl (y_assign (v := .bool (okI (sgn false (val (canon (val (canon (goodI b1 a).natAbs) * val (canon (goodI b2 b).natAbs))))))) rfl h189) rfl ?_
  obtain ⟨a201, ha202⟩ : ∃ a', a' = a178.put (some 5) (.bool (okI (sgn false (val (canon (val (canon (goodI b1 a).natAbs) * val (canon (goodI b2 b).natAbs))))))) := ⟨_, rfl⟩
  have hs203 : a201.tmps.size = 26 := by rw [ha202, put_size]; exact hs182
  have hd204 : a201.defers = [] := by rw [ha202, put_defers]; exact hd183
  have h205 : a201.eval (.tmp 4) = pv q17 := by rw [ha202, put_ne _ _ _ _ (by decide)]; exact h184
  have h206 : a201.eval (.tmp 24) = .agg #[.bool (decide (capI (sgn false (val (canon (val (canon (goodI b1 a).natAbs) * val (canon (goodI b2 b).natAbs))))) < 0)), sv A186 (canon (capI (sgn false (val (canon (val (canon (goodI b1 a).natAbs) * val (canon (goodI b2 b).natAbs)))))).natAbs) cc187] := by rw [ha202, put_ne _ _ _ _ (by decide)]; exact h185
  have h207 : a201.eval (.tmp 25) = .bool (okI (sgn false (val (canon (val (canon (goodI b1 a).natAbs) * val (canon (goodI b2 b).natAbs)))))) := by rw [ha202, put_ne _ _ _ _ (by decide)]; exact h189
  have h208 : a201.eval (.tmp 5) = .bool (okI (sgn false (val (canon (val (canon (goodI b1 a).natAbs) * val (canon (goodI b2 b).natAbs)))))) := by rw [ha202]; exact put_same _ _ _ (by rw [hs182]; decide)
  show stepsTo _ _ _ _ _ (a178.put (some 5) (.bool (okI (sgn false (val (canon (val (canon (goodI b1 a).natAbs) * val (canon (goodI b2 b).natAbs)))))))) _
  rw [← ha202]
  clear ha202 hs182 hd183 h184 h185 h189
  refine st_nil ?_
  clear h206 h207
  refine hK81 _ _ ?_
  clear hK81 K81
  refine wp_ret (ret_k hd204 (v := .tuple #[.agg #[.bool (decide (capI (sgn false (val (canon (val (canon (goodI b1 a).natAbs) * val (canon (goodI b2 b).natAbs))))) < 0)), sv A186 (canon (capI (sgn false (val (canon (val (canon (goodI b1 a).natAbs) * val (canon (goodI b2 b).natAbs)))))).natAbs) cc187], .bool (okI (sgn false (val (canon (val (canon (goodI b1 a).natAbs) * val (canon (goodI b2 b).natAbs))))))]) (res_ct rfl h205 h208 (l_two Try.isAgg24 Try.sizeOf24 hb194)) ?_)
  have hs2 : (.bool (okI (sgn false (val (canon (val (canon (goodI b1 a).natAbs) * val (canon (goodI b2 b).natAbs)))))) : Value) = .bool (okI (goodI b1 a * goodI b2 b)) := congrArg (fun z => Value.bool (okI z)) (mul_sgn (d := false) (d' := false) ht82 ht146)
  have hz1 : capI (sgn false (val (canon (val (canon (goodI b1 a).natAbs) * val (canon (goodI b2 b).natAbs))))) = capI (goodI b1 a * goodI b2 b) := congrArg capI (mul_sgn (d := false) (d' := false) ht82 ht146)
  exact ⟨A186, cc187, (congrArg (fun z : Int => Ending.returned (Value.tuple #[.agg #[.bool (decide (z < 0)), sv A186 (canon z.natAbs) cc187], .bool (okI (sgn false (val (canon (val (canon (goodI b1 a).natAbs) * val (canon (goodI b2 b).natAbs))))))])) hz1).trans (congrArg (fun y => Ending.returned (Value.tuple #[.agg #[.bool (decide (capI (goodI b1 a * goodI b2 b) < 0)), sv A186 (canon (capI (goodI b1 a * goodI b2 b)).natAbs) cc187], y])) hs2), Eq.mp (congrArg (fun z : Int => SRow _ .u32 A186 (canon z.natAbs) cc187) hz1) hr199, hN200⟩
end Go.Proofs.Ytfhflpchfgkgcaa
