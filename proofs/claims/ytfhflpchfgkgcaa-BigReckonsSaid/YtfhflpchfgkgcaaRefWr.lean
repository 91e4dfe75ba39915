/- BigReckons: walk. -/
import Derived.Test.YtfhflpchfgkgcaaRefW
namespace Go.Proofs.Ytfhflpchfgkgcaa
open Go.RowKit
set_option linter.unusedSimpArgs false
set_option linter.unusedVariables false
set_option maxHeartbeats 16000000 in
set_option maxRecDepth 100000 in
theorem reckons_w (b1 : Bool) (A : Option Addr) (a : List Nat) (c : Nat) (b2 : Bool) (B : Option Addr) (b : List Nat) (d : Nat) (w : World) (hra : SRow w .u32 A a c) (ha : Limbs a) (hrb : SRow w .u32 B b d) (hb : Limbs b) : Calls Try.prog 11 #[.agg #[.bool b1, sv A a c], .agg #[.bool b2, sv B b d]] w (IsRet (.bool true) w) := by
  refine enter_abs Try.func11 rfl fun a0 hs0 hd0 hp => ?_
  have hs0 : a0.tmps.size = 198 := hs0
  have hN0 : New w w := Upd.refl _ _
  have hp0 : a0.eval (.tmp 0) = .agg #[.bool b1, sv A a c] := hp 0 _ rfl
  have hp1 : a0.eval (.tmp 1) = .agg #[.bool b2, sv B b d] := hp 1 _ rfl
  clear hp
  refine wp_seq_k fun K1 hK1 => ?_
  refine wp_g [true, true, true] [] [] 198
    [IsNew w 24 [.bool b1, sv A a c],
     IsNew w 24 [.bool b2, sv B b d],
     ve (.bool false)]
    [0, 1] (newsCons (fun v w h => IsNew.old h) (newsCons (fun v w h => IsNew.old h) newsNil)) hs0 (.nw (.nw (.eq (.nil)))) ?_ (fun i h => by cases h) ?_
  · skip
    refine .o2 (step_allocN (cs := [.bool b1, sv A a c]) (t := 24) rfl (noG rfl) (fun _ w hn k => v_box rfl (k.fx 0 hp0) (fun w => rfl)) (fun q _ hq hb => ⟨q, rfl, hq, hb⟩)) ?_
    refine .o2 (step_allocN (cs := [.bool b2, sv B b d]) (t := 24) rfl (noG rfl) (fun _ w hn k => v_box rfl (k.fx 1 hp1) (fun w => rfl)) (fun q _ hq hb => ⟨q, rfl, hq, hb⟩)) ?_
    refine .o1 (tk rfl rfl fun _ w hn k => ⟨_, v_assign rfl rfl, rfl⟩) ?_
    exact .nil
  intro a2 w3 hn4 ha5
  have hs6 := ha5.size.trans hs0
  have hd7 := ha5.defers.trans hd0
  obtain ⟨q9, h8, hq10, hb11⟩ : IsNew _ _ _ _ _ := ha5.got 0 2 rfl (by kernel_rfl)
  obtain ⟨q13, h12, hq14, hb15⟩ : IsNew _ _ _ _ _ := ha5.got 1 3 rfl (by kernel_rfl)
  have hq16 := Nat.le_trans hN0.size hq10
  have hq17 := Nat.le_trans hN0.size hq14
  have hN18 := hN0.transNew hn4
  clear hs0 hd0 hp0 hp1 hq10 hq14 hN0 ha5 hn4
  refine st_nil ?_
  refine hK1 _ _ ?_
  clear hK1 K1
  refine wp_seq_k fun K19 hK19 => ?_
  refine wp_seq_k fun K20 hK20 => ?_
  refine wp_g0 [true, true] [] 198
    [ve (.bool true),
     ve (.bool false)] hs6 (.eq (.eq (.nil))) ?_ ?_
  · skip
    refine .o1 (ck rfl rfl rfl (fun _ w hn k => ⟨#[], rfl, fun _ => by kernel_rfl, bfirst_c _⟩) fun _ => rfl) ?_
    refine .o1 (tk rfl rfl fun _ w hn k => ⟨_, v_not rfl (k.eq1 0 27 rfl), rfl⟩) ?_
    exact .nil
  intro a21 w22 hn23 ha24
  have hs25 := ha24.size.trans hs6
  have hd26 := ha24.defers.trans hd7
  have h27 := ha24.fx 2 h8
  have h28 := ha24.fx 3 h12
  have h29 := ha24.ge 1 28 rfl
  have hb30 := hb11.new_ hn23
  have hb31 := hb15.new_ hn23
  have hN32 := hN18.transNew hn23
  clear hs6 hd7 h8 h12 hb11 hb15 hN18 ha24 hn23
  refine st_nil ?_
  refine hK20 _ _ ?_
  clear hK20 K20
  refine wp_cond_false h29 ?_
  refine wp_skip ?_
  refine hK19 _ _ ?_
  clear hK19 K19
  refine wp_seq_k fun K33 hK33 => ?_
  refine wp_seq_k fun K34 hK34 => ?_
  rcases Bool.eq_false_or_eq_true (decide (a.length ≤ 40)) with ht35 | ht35
  · skip
    have ht35d := of_decide_eq_true ht35
    rcases Bool.eq_false_or_eq_true (decide (b.length ≤ 40)) with ht36 | ht36
    · skip
      have ht36d := of_decide_eq_true ht36
      refine wp_g0 [true, true, true, true, true, true, true, true] [] 198
        [ve (.agg #[.bool b1, sv A a c]),
         ve (.bool true),
         ve (.bool false),
         ve (.bool false),
         ve (.agg #[.bool b2, sv B b d]),
         ve (.bool true),
         ve (.bool false),
         ve (.bool false)] hs25 (.eq (.eq (.eq (.eq (.eq (.eq (.eq (.eq (.nil))))))))) ?_ ?_
      · skip
        refine .o1 (tk rfl rfl fun _ w hn k => ⟨_, v_load rfl (k.fx 2 h27) (l_two Try.isAgg24 Try.sizeOf24 (hb30.new_ hn)), rfl⟩) ?_
        refine .o1 (ck rfl rfl rfl (fun _ w hn k => ⟨#[.agg #[.bool b1, sv A a c]], args1 (k.eq1 0 29 rfl), fun _ => by kernel_rfl, bfew_c _ _ _ _ _ (hra.new_ (hN32.transNew hn))⟩) fun _ => congrArg Value.bool ht35) ?_
        refine .o1 (tk rfl rfl fun _ w hn k => ⟨_, v_not rfl (k.eq1 1 30 rfl), rfl⟩) ?_
        refine .o1 (tk rfl rfl fun _ w hn k => ⟨_, v_move rfl (k.eq1 2 31 rfl), rfl⟩) ?_
        refine .o1 (tg rfl rfl rfl (fun _ _ k => k.eq1 3 32 rfl) fun _ w hn k => ⟨_, v_load rfl (k.fx 3 h28) (l_two Try.isAgg24 Try.sizeOf24 (hb31.new_ hn)), rfl⟩) ?_
        refine .o1 (cg rfl rfl rfl (fun _ _ k => k.eq1 3 32 rfl) rfl (fun _ w hn k => ⟨#[.agg #[.bool b2, sv B b d]], args1 (k.eq1 4 33 rfl), fun _ => by kernel_rfl, bfew_c _ _ _ _ _ (hrb.new_ (hN32.transNew hn))⟩) fun _ => congrArg Value.bool ht36) ?_
        refine .o1 (tg rfl rfl rfl (fun _ _ k => k.eq1 3 32 rfl) fun _ w hn k => ⟨_, v_not rfl (k.eq1 5 34 rfl), rfl⟩) ?_
        refine .o1 (tk rfl rfl fun _ w hn k => ⟨_, v_pickF rfl (k.eq1 3 32 rfl) (k.eq1 6 35 rfl), rfl⟩) ?_
        exact .nil
      intro a37 w38 hn39 ha40
      have hs41 := ha40.size.trans hs25
      have hd42 := ha40.defers.trans hd26
      have h43 := ha40.fx 2 h27
      have h44 := ha40.fx 3 h28
      have h45 := ha40.ge 7 36 rfl
      have hb46 := hb30.new_ hn39
      have hb47 := hb31.new_ hn39
      have hN48 := hN32.transNew hn39
      clear hs25 hd26 h27 h28 h29 hb30 hb31 hN32 ha40 hn39
      refine st_nil ?_
      refine hK34 _ _ ?_
      clear hK34 K34
      refine wp_cond_false h45 ?_
      refine wp_skip ?_
      refine hK33 _ _ ?_
      clear hK33 K33
      refine wp_seq_k fun K49 hK49 => ?_
      refine wp_g [true, true, true, true, true, true, false, false] [] [(6, false), (7, false)] 198
        [ve (.agg #[.bool b1, sv A a c]),
         (fun (v : Value) (W : World) => ∃ (A3 : Option Addr) (c4 : Nat), v = .agg #[.bool b1, sv A3 a c4] ∧ SRow W .u32 A3 a c4),
         ve (.agg #[.bool b2, sv B b d]),
         (fun (v : Value) (W : World) => ∃ (A7 : Option Addr) (c8 : Nat), v = .agg #[.bool b2, sv A7 b c8] ∧ SRow W .u32 A7 b c8),
         IsNew w38 24 [.bool false, sv none ([]) 0],
         IsNew w38 24 [.bool false, sv none ([]) 0],
         vt,
         vt]
        [4, 5] (newsCons (fun v w h => IsNew.old h) (newsCons (fun v w h => IsNew.old h) newsNil)) hs41 (.eq (.cons (fun v W W' hn ⟨A3, c4, he, h0⟩ => ⟨A3, c4, he, h0.new_ hn⟩) (.eq (.cons (fun v W W' hn ⟨A7, c8, he, h0⟩ => ⟨A7, c8, he, h0.new_ hn⟩) (.nw (.nw (.tt (.tt (.nil))))))))) ?_ (fun i h => by cases h) ?_
      · skip
        refine .o1 (tk rfl rfl fun _ w hn k => ⟨_, v_load rfl (k.fx 2 h43) (l_two Try.isAgg24 Try.sizeOf24 (hb46.new_ hn)), rfl⟩) ?_
        refine .o1 (tkC rfl (noG rfl) rfl fun _ w hn k => (by
              refine ⟨#[.agg #[.bool b1, sv A a c]], _, args1 (k.eq1 0 38 rfl), fun w => by kernel_rfl, copyb_c _ _ _ _ _ (hra.new_ (hN48.transNew hn)) (by omega), ?_⟩
              rintro e w' ⟨A1, c2, rfl, hmo, hm⟩
              exact ⟨_, rfl, hm, ⟨A1, c2, rfl, hmo⟩⟩)) ?_
        refine .o1 (tk rfl rfl fun _ w hn k => ⟨_, v_load rfl (k.fx 3 h44) (l_two Try.isAgg24 Try.sizeOf24 (hb47.new_ hn)), rfl⟩) ?_
        refine .o1 (tkC rfl (noG rfl) rfl fun _ w hn k => (by
              refine ⟨#[.agg #[.bool b2, sv B b d]], _, args1 (k.eq1 2 40 rfl), fun w => by kernel_rfl, copyb_c _ _ _ _ _ (hrb.new_ (hN48.transNew hn)) (by omega), ?_⟩
              rintro e w' ⟨A5, c6, rfl, hmo, hm⟩
              exact ⟨_, rfl, hm, ⟨A5, c6, rfl, hmo⟩⟩)) ?_
        refine .o2 (step_allocN (cs := [.bool false, sv none ([]) 0]) (t := 24) rfl (noG rfl) (fun _ w hn k => rfl) (fun q _ hq hb => ⟨q, rfl, hq, hb⟩)) ?_
        refine .o2 (step_allocN (cs := [.bool false, sv none ([]) 0]) (t := 24) rfl (noG rfl) (fun _ w hn k => rfl) (fun q _ hq hb => ⟨q, rfl, hq, hb⟩)) ?_
        refine .off ?_
        refine .off ?_
        exact .nil
      intro a50 w51 hn52 ha53
      have hs54 := ha53.size.trans hs41
      have hd55 := ha53.defers.trans hd42
      have h56 := ha53.fx 2 h43
      have h57 := ha53.fx 3 h44
      obtain ⟨A59, cc60, h58, hr61⟩ : (fun (v : Value) (W : World) => ∃ (A3 : Option Addr) (c4 : Nat), v = .agg #[.bool b1, sv A3 a c4] ∧ SRow W .u32 A3 a c4) _ _ := ha53.got 1 39 rfl (by kernel_rfl)
      have h58 : a50.eval (.tmp 39) = .agg #[.bool b1, sv A59 a cc60] := h58
      obtain ⟨A63, cc64, h62, hr65⟩ : (fun (v : Value) (W : World) => ∃ (A7 : Option Addr) (c8 : Nat), v = .agg #[.bool b2, sv A7 b c8] ∧ SRow W .u32 A7 b c8) _ _ := ha53.got 3 41 rfl (by kernel_rfl)
      have h62 : a50.eval (.tmp 41) = .agg #[.bool b2, sv A63 b cc64] := h62
      obtain ⟨q67, h66, hq68, hb69⟩ : IsNew _ _ _ _ _ := ha53.got 4 5 rfl (by kernel_rfl)
      obtain ⟨q71, h70, hq72, hb73⟩ : IsNew _ _ _ _ _ := ha53.got 5 6 rfl (by kernel_rfl)
      have hb74 := hb46.new_ hn52
      have hb75 := hb47.new_ hn52
      have hne76 : q67 ≠ q71 := ha53.ne 4 5 5 6 h66 h70
      have hne77 : q9 ≠ q67 := by have h1 := hb46.lt; have h2 := hq68; omega
      have hne78 : q9 ≠ q71 := by have h1 := hb46.lt; have h2 := hq72; omega
      have hne79 : q13 ≠ q67 := by have h1 := hb47.lt; have h2 := hq68; omega
      have hne80 : q13 ≠ q71 := by have h1 := hb47.lt; have h2 := hq72; omega
      have hq81 := Nat.le_trans hN48.size hq68
      have hq82 := Nat.le_trans hN48.size hq72
      have hN83 := hN48.transNew hn52
      clear hs41 hd42 h43 h44 h45 hb46 hb47 hq68 hq72 hN48 ha53 hn52
      obtain ⟨w84, -, hst85, hb86, hu87, hf88⟩ := s_two (v0 := .bool b1) (v1 := sv A59 a cc60) Try.sizeOf24 rfl rfl rfl hb69
      refine st_act rfl rfl fun K89 hL90 => a_store' rfl h66 h58 hst85 (hL90 _ _ trivial ?_)
      have hr91 := hr61.far hb69 hu87 (by first | rfl | decide | simp [notK])
      have hr92 := hr65.far hb69 hu87 (by first | rfl | decide | simp [notK])
      have hb93 := hf88 _ _ _ (hne77) hb74
      have hb94 := hf88 _ _ _ (hne79) hb75
      have hb95 := hf88 _ _ _ (fun h => hne76 h.symm) hb73
      have hN96 := hN83.trans hu87 (fun k hk hkb => by subst hkb; omega)
      clear hb69 hst85 K89 hL90 hN83 hr61 hr65 hb74 hb75 hb73 hu87 hf88
      obtain ⟨w97, -, hst98, hb99, hu100, hf101⟩ := s_two (v0 := .bool b2) (v1 := sv A63 b cc64) Try.sizeOf24 rfl rfl rfl hb95
      refine st_act rfl rfl fun K102 hL103 => a_store' rfl h70 h62 hst98 (hL103 _ _ trivial ?_)
      have hr104 := hr91.far hb95 hu100 (by first | rfl | decide | simp [notK])
      have hr105 := hr92.far hb95 hu100 (by first | rfl | decide | simp [notK])
      have hb106 := hf101 _ _ _ (hne78) hb93
      have hb107 := hf101 _ _ _ (hne80) hb94
      have hb108 := hf101 _ _ _ (hne76) hb86
      have hN109 := hN96.trans hu100 (fun k hk hkb => by subst hkb; omega)
      clear hb95 hst98 K102 hL103 hN96 hr91 hr92 hb93 hb94 hb86 hu100 hf101
      clear hne76
      clear hne77
      clear hne78
      clear hne79
      clear hne80
      refine st_nil ?_
      clear h58 h62
      refine hK49 _ _ ?_
      clear hK49 K49
      refine wp_seq_k fun K110 hK110 => ?_
      refine wp_gS (fun W => True) (fun W W' hn h => trivial) trivial [true, true, true, true, true, true, true, false, false] [5] [(7, false), (8, true)] 198
        [ve (.agg #[.bool b1, sv A59 a cc60]),
         ve (.agg #[.bool b2, sv A63 b cc64]),
         (fun (v : Value) (W : World) => ∃ (A19 : Option Addr) (c20 : Nat), v = .tuple #[.agg #[.bool (decide (capI (goodI b1 a + goodI b2 b) < 0)), sv A19 (canon (capI (goodI b1 a + goodI b2 b)).natAbs) c20], .bool (okI (goodI b1 a + goodI b2 b))] ∧ SRow W .u32 A19 (canon (capI (goodI b1 a + goodI b2 b)).natAbs) c20),
         (fun (v : Value) (W : World) => ∃ (A25 : Option Addr) (c26 : Nat), v = .tuple #[.agg #[.bool (decide (capI (goodI b1 a + goodI b2 b) < 0)), sv A25 (canon (capI (goodI b1 a + goodI b2 b)).natAbs) c26], .bool (okI (goodI b1 a + goodI b2 b))] ∧ SRow W .u32 A25 (canon (capI (goodI b1 a + goodI b2 b)).natAbs) c26),
         (fun (v : Value) (W : World) => ∃ (A31 : Option Addr) (c32 : Nat), v = .agg #[.bool (decide (capI (goodI b1 a + goodI b2 b) < 0)), sv A31 (canon (capI (goodI b1 a + goodI b2 b)).natAbs) c32] ∧ SRow W .u32 A31 (canon (capI (goodI b1 a + goodI b2 b)).natAbs) c32),
         ve (.bool (okI (goodI b1 a + goodI b2 b))),
         IsNew w97 24 [.bool false, sv none ([]) 0],
         vt,
         vt]
        [6] (newsCons (fun v w h => IsNew.old h) newsNil) hs54 (.eq (.eq (.cons (fun v W W' hn ⟨A19, c20, he, h0⟩ => ⟨A19, c20, he, h0.new_ hn⟩) (.cons (fun v W W' hn ⟨A25, c26, he, h0⟩ => ⟨A25, c26, he, h0.new_ hn⟩) (.cons (fun v W W' hn ⟨A31, c32, he, h0⟩ => ⟨A31, c32, he, h0.new_ hn⟩) (.eq (.nw (.tt (.tt (.nil)))))))))) ?_ ?_ ?_
      · skip
        refine .o1 (tk rfl rfl fun _ w hn k => ⟨_, v_load rfl (k.fx 5 h66) (l_two Try.isAgg24 Try.sizeOf24 (hb108.new_ hn)), rfl⟩) ?_
        refine .o1 (tk rfl rfl fun _ w hn k => ⟨_, v_load rfl (k.fx 6 h70) (l_two Try.isAgg24 Try.sizeOf24 (hb99.new_ hn)), rfl⟩) ?_
        refine .o1 (tkC rfl (noG rfl) rfl fun _ w hn k => (by
              refine ⟨#[.agg #[.bool b1, sv A59 a cc60], .agg #[.bool b2, sv A63 b cc64]], _, args2 (k.eq1 0 43 rfl) (k.eq1 1 44 rfl), fun w => by kernel_rfl, bAdd_c _ _ _ _ _ _ _ _ _ (hr104.new_ hn) ha (hr105.new_ hn) hb, ?_⟩
              rintro e w' ⟨A17, c18, rfl, hmo, hm⟩
              exact ⟨_, rfl, hm, ⟨A17, c18, rfl, hmo⟩⟩)) ?_
        refine .o1 (tk rfl rfl fun _ w hn k => (by
              obtain ⟨A21, c22, e23, hx24⟩ : (fun (v : Value) (W : World) => ∃ (A19 : Option Addr) (c20 : Nat), v = .tuple #[.agg #[.bool (decide (capI (goodI b1 a + goodI b2 b) < 0)), sv A19 (canon (capI (goodI b1 a + goodI b2 b)).natAbs) c20], .bool (okI (goodI b1 a + goodI b2 b))] ∧ SRow W .u32 A19 (canon (capI (goodI b1 a + goodI b2 b)).natAbs) c20) _ _ := k.dep 2 45 (by kernel_rfl) (by kernel_rfl)
              exact ⟨_, v_move rfl e23, ⟨A21, c22, rfl, hx24⟩⟩)) ?_
        refine .o1 (tk rfl rfl fun _ w hn k => (by
              obtain ⟨A27, c28, e29, hx30⟩ : (fun (v : Value) (W : World) => ∃ (A25 : Option Addr) (c26 : Nat), v = .tuple #[.agg #[.bool (decide (capI (goodI b1 a + goodI b2 b) < 0)), sv A25 (canon (capI (goodI b1 a + goodI b2 b)).natAbs) c26], .bool (okI (goodI b1 a + goodI b2 b))] ∧ SRow W .u32 A25 (canon (capI (goodI b1 a + goodI b2 b)).natAbs) c26) _ _ := k.dep 3 42 (by kernel_rfl) (by kernel_rfl)
              exact ⟨_, v_extract rfl e29 rfl, ⟨A27, c28, rfl, hx30⟩⟩)) ?_
        refine .o3 ?_
        refine .o2 (step_allocN (cs := [.bool false, sv none ([]) 0]) (t := 24) rfl (noG rfl) (fun _ w hn k => rfl) (fun q _ hq hb => ⟨q, rfl, hq, hb⟩)) ?_
        refine .off ?_
        refine .off ?_
        exact .nil
      · skip
        intro i h
        simp only [List.contains_eq_mem, List.mem_cons, List.not_mem_nil, or_false, decide_eq_true_eq] at h
        subst h
        · exact eager_takeG rfl (noG rfl) fun _ w hn k => (by
              obtain ⟨A33, c34, e35, hx36⟩ : (fun (v : Value) (W : World) => ∃ (A25 : Option Addr) (c26 : Nat), v = .tuple #[.agg #[.bool (decide (capI (goodI b1 a + goodI b2 b) < 0)), sv A25 (canon (capI (goodI b1 a + goodI b2 b)).natAbs) c26], .bool (okI (goodI b1 a + goodI b2 b))] ∧ SRow W .u32 A25 (canon (capI (goodI b1 a + goodI b2 b)).natAbs) c26) _ _ := k.dep 3 42 (by kernel_rfl) (by kernel_rfl)
              exact ⟨_, fun w hS => v_extract rfl e35 rfl, rfl⟩)
      intro a111 w112 _ hn113 ha114
      have hs115 := ha114.size.trans hs54
      have hd116 := ha114.defers.trans hd55
      have h117 := ha114.fx 2 h56
      have h118 := ha114.fx 3 h57
      have h119 := ha114.fx 5 h66
      have h120 := ha114.fx 6 h70
      obtain ⟨A122, cc123, h121, hr124⟩ : (fun (v : Value) (W : World) => ∃ (A31 : Option Addr) (c32 : Nat), v = .agg #[.bool (decide (capI (goodI b1 a + goodI b2 b) < 0)), sv A31 (canon (capI (goodI b1 a + goodI b2 b)).natAbs) c32] ∧ SRow W .u32 A31 (canon (capI (goodI b1 a + goodI b2 b)).natAbs) c32) _ _ := ha114.got 4 46 rfl (by kernel_rfl)
      have h121 : a111.eval (.tmp 46) = .agg #[.bool (decide (capI (goodI b1 a + goodI b2 b) < 0)), sv A122 (canon (capI (goodI b1 a + goodI b2 b)).natAbs) cc123] := h121
      have h125 := ha114.ge 5 47 rfl
      obtain ⟨q127, h126, hq128, hb129⟩ : IsNew _ _ _ _ _ := ha114.got 6 7 rfl (by kernel_rfl)
      have hb130 := hb106.new_ hn113
      have hb131 := hb107.new_ hn113
      have hb132 := hb108.new_ hn113
      have hb133 := hb99.new_ hn113
      have hne134 : q9 ≠ q127 := by have h1 := hb106.lt; have h2 := hq128; omega
      have hne135 : q13 ≠ q127 := by have h1 := hb107.lt; have h2 := hq128; omega
      have hne136 : q67 ≠ q127 := by have h1 := hb108.lt; have h2 := hq128; omega
      have hne137 : q71 ≠ q127 := by have h1 := hb99.lt; have h2 := hq128; omega
      have hq138 := Nat.le_trans hN109.size hq128
      have hr139 := hr104.new_ hn113
      have hr140 := hr105.new_ hn113
      have hN141 := hN109.transNew hn113
      clear hs54 hd55 h56 h57 h66 h70 hb106 hb107 hb108 hb99 hq128 hr104 hr105 hN109 ha114 hn113
      obtain ⟨w142, -, hst143, hb144, hu145, hf146⟩ := s_two (v0 := .bool (decide (capI (goodI b1 a + goodI b2 b) < 0))) (v1 := sv A122 (canon (capI (goodI b1 a + goodI b2 b)).natAbs) cc123) Try.sizeOf24 rfl rfl rfl hb129
      refine st_act rfl rfl fun K147 hL148 => a_store' rfl h126 h121 hst143 (hL148 _ _ trivial ?_)
      have hr149 := hr139.far hb129 hu145 (by first | rfl | decide | simp [notK])
      have hr150 := hr140.far hb129 hu145 (by first | rfl | decide | simp [notK])
      have hr151 := hr124.far hb129 hu145 (by first | rfl | decide | simp [notK])
      have hb152 := hf146 _ _ _ (hne134) hb130
      have hb153 := hf146 _ _ _ (hne135) hb131
      have hb154 := hf146 _ _ _ (hne136) hb132
      have hb155 := hf146 _ _ _ (hne137) hb133
      have hN156 := hN141.trans hu145 (fun k hk hkb => by subst hkb; omega)
      clear hb129 hst143 K147 hL148 hN141 hr139 hr140 hr124 hb130 hb131 hb132 hb133 hu145 hf146
      refine st_take rfl rfl (y_assign (v := .bool (okI (goodI b1 a + goodI b2 b))) rfl h125) rfl ?_
      obtain ⟨a157, ha158⟩ : ∃ a', a' = a111.put (some 8) (.bool (okI (goodI b1 a + goodI b2 b))) := ⟨_, rfl⟩
      have hs159 : a157.tmps.size = 198 := by rw [ha158, put_size]; exact hs115
      have hd160 : a157.defers = [] := by rw [ha158, put_defers]; exact hd116
      have h161 : a157.eval (.tmp 2) = pv q9 := by rw [ha158, put_ne _ _ _ _ (by decide)]; exact h117
      have h162 : a157.eval (.tmp 3) = pv q13 := by rw [ha158, put_ne _ _ _ _ (by decide)]; exact h118
      have h163 : a157.eval (.tmp 5) = pv q67 := by rw [ha158, put_ne _ _ _ _ (by decide)]; exact h119
      have h164 : a157.eval (.tmp 6) = pv q71 := by rw [ha158, put_ne _ _ _ _ (by decide)]; exact h120
      have h165 : a157.eval (.tmp 46) = .agg #[.bool (decide (capI (goodI b1 a + goodI b2 b) < 0)), sv A122 (canon (capI (goodI b1 a + goodI b2 b)).natAbs) cc123] := by rw [ha158, put_ne _ _ _ _ (by decide)]; exact h121
      have h166 : a157.eval (.tmp 47) = .bool (okI (goodI b1 a + goodI b2 b)) := by rw [ha158, put_ne _ _ _ _ (by decide)]; exact h125
      have h167 : a157.eval (.tmp 7) = pv q127 := by rw [ha158, put_ne _ _ _ _ (by decide)]; exact h126
      have h168 : a157.eval (.tmp 8) = .bool (okI (goodI b1 a + goodI b2 b)) := by rw [ha158]; exact put_same _ _ _ (by rw [hs115]; decide)
      show stepsTo _ _ _ _ _ (a111.put (some 8) (.bool (okI (goodI b1 a + goodI b2 b)))) _
      rw [← ha158]
      clear ha158 hs115 hd116 h117 h118 h119 h120 h121 h125 h126
      clear hne134
      clear hne135
      clear hne136
      clear hne137
      refine st_nil ?_
      clear h165 h166
      refine hK110 _ _ ?_
      clear hK110 K110
      refine wp_seq_k fun K169 hK169 => ?_
      refine wp_gS (fun W => True) (fun W W' hn h => trivial) trivial [true, true, true, true, true, true, true, false, false] [5] [(7, false), (8, true)] 198
        [ve (.agg #[.bool b1, sv A a c]),
         ve (.agg #[.bool b2, sv B b d]),
         (fun (v : Value) (W : World) => ∃ (A43 : Option Addr) (c44 : Nat), v = .tuple #[.agg #[.bool (decide (capI (goodI b1 a + goodI b2 b) < 0)), sv A43 (canon (capI (goodI b1 a + goodI b2 b)).natAbs) c44], .bool (okI (goodI b1 a + goodI b2 b))] ∧ SRow W .u32 A43 (canon (capI (goodI b1 a + goodI b2 b)).natAbs) c44),
         (fun (v : Value) (W : World) => ∃ (A49 : Option Addr) (c50 : Nat), v = .tuple #[.agg #[.bool (decide (capI (goodI b1 a + goodI b2 b) < 0)), sv A49 (canon (capI (goodI b1 a + goodI b2 b)).natAbs) c50], .bool (okI (goodI b1 a + goodI b2 b))] ∧ SRow W .u32 A49 (canon (capI (goodI b1 a + goodI b2 b)).natAbs) c50),
         (fun (v : Value) (W : World) => ∃ (A55 : Option Addr) (c56 : Nat), v = .agg #[.bool (decide (capI (goodI b1 a + goodI b2 b) < 0)), sv A55 (canon (capI (goodI b1 a + goodI b2 b)).natAbs) c56] ∧ SRow W .u32 A55 (canon (capI (goodI b1 a + goodI b2 b)).natAbs) c56),
         ve (.bool (okI (goodI b1 a + goodI b2 b))),
         IsNew w142 24 [.bool false, sv none ([]) 0],
         vt,
         vt]
        [6] (newsCons (fun v w h => IsNew.old h) newsNil) hs159 (.eq (.eq (.cons (fun v W W' hn ⟨A43, c44, he, h0⟩ => ⟨A43, c44, he, h0.new_ hn⟩) (.cons (fun v W W' hn ⟨A49, c50, he, h0⟩ => ⟨A49, c50, he, h0.new_ hn⟩) (.cons (fun v W W' hn ⟨A55, c56, he, h0⟩ => ⟨A55, c56, he, h0.new_ hn⟩) (.eq (.nw (.tt (.tt (.nil)))))))))) ?_ ?_ ?_
      · skip
        refine .o1 (tk rfl rfl fun _ w hn k => ⟨_, v_load rfl (k.fx 2 h161) (l_two Try.isAgg24 Try.sizeOf24 (hb152.new_ hn)), rfl⟩) ?_
        refine .o1 (tk rfl rfl fun _ w hn k => ⟨_, v_load rfl (k.fx 3 h162) (l_two Try.isAgg24 Try.sizeOf24 (hb153.new_ hn)), rfl⟩) ?_
        refine .o1 (tkC rfl (noG rfl) rfl fun _ w hn k => (by
              refine ⟨#[.agg #[.bool b1, sv A a c], .agg #[.bool b2, sv B b d]], _, args2 (k.eq1 0 49 rfl) (k.eq1 1 50 rfl), fun w => by kernel_rfl, radd_c _ _ _ _ _ _ _ _ _ (hra.new_ (hN156.transNew hn)) ha (hrb.new_ (hN156.transNew hn)) hb, ?_⟩
              rintro e w' ⟨A41, c42, rfl, hmo, hm⟩
              exact ⟨_, rfl, hm, ⟨A41, c42, rfl, hmo⟩⟩)) ?_
        refine .o1 (tk rfl rfl fun _ w hn k => (by
              obtain ⟨A45, c46, e47, hx48⟩ : (fun (v : Value) (W : World) => ∃ (A43 : Option Addr) (c44 : Nat), v = .tuple #[.agg #[.bool (decide (capI (goodI b1 a + goodI b2 b) < 0)), sv A43 (canon (capI (goodI b1 a + goodI b2 b)).natAbs) c44], .bool (okI (goodI b1 a + goodI b2 b))] ∧ SRow W .u32 A43 (canon (capI (goodI b1 a + goodI b2 b)).natAbs) c44) _ _ := k.dep 2 51 (by kernel_rfl) (by kernel_rfl)
              exact ⟨_, v_move rfl e47, ⟨A45, c46, rfl, hx48⟩⟩)) ?_
        refine .o1 (tk rfl rfl fun _ w hn k => (by
              obtain ⟨A51, c52, e53, hx54⟩ : (fun (v : Value) (W : World) => ∃ (A49 : Option Addr) (c50 : Nat), v = .tuple #[.agg #[.bool (decide (capI (goodI b1 a + goodI b2 b) < 0)), sv A49 (canon (capI (goodI b1 a + goodI b2 b)).natAbs) c50], .bool (okI (goodI b1 a + goodI b2 b))] ∧ SRow W .u32 A49 (canon (capI (goodI b1 a + goodI b2 b)).natAbs) c50) _ _ := k.dep 3 48 (by kernel_rfl) (by kernel_rfl)
              exact ⟨_, v_extract rfl e53 rfl, ⟨A51, c52, rfl, hx54⟩⟩)) ?_
        refine .o3 ?_
        refine .o2 (step_allocN (cs := [.bool false, sv none ([]) 0]) (t := 24) rfl (noG rfl) (fun _ w hn k => rfl) (fun q _ hq hb => ⟨q, rfl, hq, hb⟩)) ?_
        refine .off ?_
        refine .off ?_
        exact .nil
      · skip
        intro i h
        simp only [List.contains_eq_mem, List.mem_cons, List.not_mem_nil, or_false, decide_eq_true_eq] at h
        subst h
        · exact eager_takeG rfl (noG rfl) fun _ w hn k => (by
              obtain ⟨A57, c58, e59, hx60⟩ : (fun (v : Value) (W : World) => ∃ (A49 : Option Addr) (c50 : Nat), v = .tuple #[.agg #[.bool (decide (capI (goodI b1 a + goodI b2 b) < 0)), sv A49 (canon (capI (goodI b1 a + goodI b2 b)).natAbs) c50], .bool (okI (goodI b1 a + goodI b2 b))] ∧ SRow W .u32 A49 (canon (capI (goodI b1 a + goodI b2 b)).natAbs) c50) _ _ := k.dep 3 48 (by kernel_rfl) (by kernel_rfl)
              exact ⟨_, fun w hS => v_extract rfl e59 rfl, rfl⟩)
      intro a170 w171 _ hn172 ha173
      have hs174 := ha173.size.trans hs159
      have hd175 := ha173.defers.trans hd160
      have h176 := ha173.fx 2 h161
      have h177 := ha173.fx 3 h162
      have h178 := ha173.fx 5 h163
      have h179 := ha173.fx 6 h164
      have h180 := ha173.fx 7 h167
      have h181 := ha173.fx 8 h168
      obtain ⟨A183, cc184, h182, hr185⟩ : (fun (v : Value) (W : World) => ∃ (A55 : Option Addr) (c56 : Nat), v = .agg #[.bool (decide (capI (goodI b1 a + goodI b2 b) < 0)), sv A55 (canon (capI (goodI b1 a + goodI b2 b)).natAbs) c56] ∧ SRow W .u32 A55 (canon (capI (goodI b1 a + goodI b2 b)).natAbs) c56) _ _ := ha173.got 4 52 rfl (by kernel_rfl)
      have h182 : a170.eval (.tmp 52) = .agg #[.bool (decide (capI (goodI b1 a + goodI b2 b) < 0)), sv A183 (canon (capI (goodI b1 a + goodI b2 b)).natAbs) cc184] := h182
      have h186 := ha173.ge 5 53 rfl
      obtain ⟨q188, h187, hq189, hb190⟩ : IsNew _ _ _ _ _ := ha173.got 6 9 rfl (by kernel_rfl)
      have hb191 := hb152.new_ hn172
      have hb192 := hb153.new_ hn172
      have hb193 := hb154.new_ hn172
      have hb194 := hb155.new_ hn172
      have hb195 := hb144.new_ hn172
      have hne196 : q9 ≠ q188 := by have h1 := hb152.lt; have h2 := hq189; omega
      have hne197 : q13 ≠ q188 := by have h1 := hb153.lt; have h2 := hq189; omega
      have hne198 : q67 ≠ q188 := by have h1 := hb154.lt; have h2 := hq189; omega
      have hne199 : q71 ≠ q188 := by have h1 := hb155.lt; have h2 := hq189; omega
      have hne200 : q127 ≠ q188 := by have h1 := hb144.lt; have h2 := hq189; omega
      have hq201 := Nat.le_trans hN156.size hq189
      have hr202 := hr149.new_ hn172
      have hr203 := hr150.new_ hn172
      have hr204 := hr151.new_ hn172
      have hN205 := hN156.transNew hn172
      clear hs159 hd160 h161 h162 h163 h164 h167 h168 hb152 hb153 hb154 hb155 hb144 hq189 hr149 hr150 hr151 hN156 ha173 hn172
      obtain ⟨w206, -, hst207, hb208, hu209, hf210⟩ := s_two (v0 := .bool (decide (capI (goodI b1 a + goodI b2 b) < 0))) (v1 := sv A183 (canon (capI (goodI b1 a + goodI b2 b)).natAbs) cc184) Try.sizeOf24 rfl rfl rfl hb190
      refine st_act rfl rfl fun K211 hL212 => a_store' rfl h187 h182 hst207 (hL212 _ _ trivial ?_)
      have hr213 := hr202.far hb190 hu209 (by first | rfl | decide | simp [notK])
      have hr214 := hr203.far hb190 hu209 (by first | rfl | decide | simp [notK])
      have hr215 := hr204.far hb190 hu209 (by first | rfl | decide | simp [notK])
      have hr216 := hr185.far hb190 hu209 (by first | rfl | decide | simp [notK])
      have hb217 := hf210 _ _ _ (hne196) hb191
      have hb218 := hf210 _ _ _ (hne197) hb192
      have hb219 := hf210 _ _ _ (hne198) hb193
      have hb220 := hf210 _ _ _ (hne199) hb194
      have hb221 := hf210 _ _ _ (hne200) hb195
      have hN222 := hN205.trans hu209 (fun k hk hkb => by subst hkb; omega)
      clear hb190 hst207 K211 hL212 hN205 hr202 hr203 hr204 hr185 hb191 hb192 hb193 hb194 hb195 hu209 hf210
      refine st_take rfl rfl (y_assign (v := .bool (okI (goodI b1 a + goodI b2 b))) rfl h186) rfl ?_
      obtain ⟨a223, ha224⟩ : ∃ a', a' = a170.put (some 10) (.bool (okI (goodI b1 a + goodI b2 b))) := ⟨_, rfl⟩
      have hs225 : a223.tmps.size = 198 := by rw [ha224, put_size]; exact hs174
      have hd226 : a223.defers = [] := by rw [ha224, put_defers]; exact hd175
      have h227 : a223.eval (.tmp 2) = pv q9 := by rw [ha224, put_ne _ _ _ _ (by decide)]; exact h176
      have h228 : a223.eval (.tmp 3) = pv q13 := by rw [ha224, put_ne _ _ _ _ (by decide)]; exact h177
      have h229 : a223.eval (.tmp 5) = pv q67 := by rw [ha224, put_ne _ _ _ _ (by decide)]; exact h178
      have h230 : a223.eval (.tmp 6) = pv q71 := by rw [ha224, put_ne _ _ _ _ (by decide)]; exact h179
      have h231 : a223.eval (.tmp 7) = pv q127 := by rw [ha224, put_ne _ _ _ _ (by decide)]; exact h180
      have h232 : a223.eval (.tmp 8) = .bool (okI (goodI b1 a + goodI b2 b)) := by rw [ha224, put_ne _ _ _ _ (by decide)]; exact h181
      have h233 : a223.eval (.tmp 52) = .agg #[.bool (decide (capI (goodI b1 a + goodI b2 b) < 0)), sv A183 (canon (capI (goodI b1 a + goodI b2 b)).natAbs) cc184] := by rw [ha224, put_ne _ _ _ _ (by decide)]; exact h182
      have h234 : a223.eval (.tmp 53) = .bool (okI (goodI b1 a + goodI b2 b)) := by rw [ha224, put_ne _ _ _ _ (by decide)]; exact h186
      have h235 : a223.eval (.tmp 9) = pv q188 := by rw [ha224, put_ne _ _ _ _ (by decide)]; exact h187
      have h236 : a223.eval (.tmp 10) = .bool (okI (goodI b1 a + goodI b2 b)) := by rw [ha224]; exact put_same _ _ _ (by rw [hs174]; decide)
      show stepsTo _ _ _ _ _ (a170.put (some 10) (.bool (okI (goodI b1 a + goodI b2 b)))) _
      rw [← ha224]
      clear ha224 hs174 hd175 h176 h177 h178 h179 h180 h181 h182 h186 h187
      clear hne196
      clear hne197
      clear hne198
      clear hne199
      clear hne200
      refine st_nil ?_
      clear h233 h234
      refine hK169 _ _ ?_
      clear hK169 K169
      refine wp_seq_k fun K237 hK237 => ?_
      refine wp_gS (fun W => True) (fun W W' hn h => trivial) trivial [true, true, true, true, true, true, true, false, false] [5] [(7, false), (8, true)] 198
        [ve (.agg #[.bool b1, sv A59 a cc60]),
         ve (.agg #[.bool b2, sv A63 b cc64]),
         (fun (v : Value) (W : World) => ∃ (A67 : Option Addr) (c68 : Nat), v = .tuple #[.agg #[.bool (decide (capI (goodI b1 a - goodI b2 b) < 0)), sv A67 (canon (capI (goodI b1 a - goodI b2 b)).natAbs) c68], .bool (okI (goodI b1 a - goodI b2 b))] ∧ SRow W .u32 A67 (canon (capI (goodI b1 a - goodI b2 b)).natAbs) c68),
         (fun (v : Value) (W : World) => ∃ (A73 : Option Addr) (c74 : Nat), v = .tuple #[.agg #[.bool (decide (capI (goodI b1 a - goodI b2 b) < 0)), sv A73 (canon (capI (goodI b1 a - goodI b2 b)).natAbs) c74], .bool (okI (goodI b1 a - goodI b2 b))] ∧ SRow W .u32 A73 (canon (capI (goodI b1 a - goodI b2 b)).natAbs) c74),
         (fun (v : Value) (W : World) => ∃ (A79 : Option Addr) (c80 : Nat), v = .agg #[.bool (decide (capI (goodI b1 a - goodI b2 b) < 0)), sv A79 (canon (capI (goodI b1 a - goodI b2 b)).natAbs) c80] ∧ SRow W .u32 A79 (canon (capI (goodI b1 a - goodI b2 b)).natAbs) c80),
         ve (.bool (okI (goodI b1 a - goodI b2 b))),
         IsNew w206 24 [.bool false, sv none ([]) 0],
         vt,
         vt]
        [6] (newsCons (fun v w h => IsNew.old h) newsNil) hs225 (.eq (.eq (.cons (fun v W W' hn ⟨A67, c68, he, h0⟩ => ⟨A67, c68, he, h0.new_ hn⟩) (.cons (fun v W W' hn ⟨A73, c74, he, h0⟩ => ⟨A73, c74, he, h0.new_ hn⟩) (.cons (fun v W W' hn ⟨A79, c80, he, h0⟩ => ⟨A79, c80, he, h0.new_ hn⟩) (.eq (.nw (.tt (.tt (.nil)))))))))) ?_ ?_ ?_
      · skip
        refine .o1 (tk rfl rfl fun _ w hn k => ⟨_, v_load rfl (k.fx 5 h229) (l_two Try.isAgg24 Try.sizeOf24 (hb219.new_ hn)), rfl⟩) ?_
        refine .o1 (tk rfl rfl fun _ w hn k => ⟨_, v_load rfl (k.fx 6 h230) (l_two Try.isAgg24 Try.sizeOf24 (hb220.new_ hn)), rfl⟩) ?_
        refine .o1 (tkC rfl (noG rfl) rfl fun _ w hn k => (by
              refine ⟨#[.agg #[.bool b1, sv A59 a cc60], .agg #[.bool b2, sv A63 b cc64]], _, args2 (k.eq1 0 55 rfl) (k.eq1 1 56 rfl), fun w => by kernel_rfl, bSub_c _ _ _ _ _ _ _ _ _ (hr213.new_ hn) ha (hr214.new_ hn) hb, ?_⟩
              rintro e w' ⟨A65, c66, rfl, hmo, hm⟩
              exact ⟨_, rfl, hm, ⟨A65, c66, rfl, hmo⟩⟩)) ?_
        refine .o1 (tk rfl rfl fun _ w hn k => (by
              obtain ⟨A69, c70, e71, hx72⟩ : (fun (v : Value) (W : World) => ∃ (A67 : Option Addr) (c68 : Nat), v = .tuple #[.agg #[.bool (decide (capI (goodI b1 a - goodI b2 b) < 0)), sv A67 (canon (capI (goodI b1 a - goodI b2 b)).natAbs) c68], .bool (okI (goodI b1 a - goodI b2 b))] ∧ SRow W .u32 A67 (canon (capI (goodI b1 a - goodI b2 b)).natAbs) c68) _ _ := k.dep 2 57 (by kernel_rfl) (by kernel_rfl)
              exact ⟨_, v_move rfl e71, ⟨A69, c70, rfl, hx72⟩⟩)) ?_
        refine .o1 (tk rfl rfl fun _ w hn k => (by
              obtain ⟨A75, c76, e77, hx78⟩ : (fun (v : Value) (W : World) => ∃ (A73 : Option Addr) (c74 : Nat), v = .tuple #[.agg #[.bool (decide (capI (goodI b1 a - goodI b2 b) < 0)), sv A73 (canon (capI (goodI b1 a - goodI b2 b)).natAbs) c74], .bool (okI (goodI b1 a - goodI b2 b))] ∧ SRow W .u32 A73 (canon (capI (goodI b1 a - goodI b2 b)).natAbs) c74) _ _ := k.dep 3 54 (by kernel_rfl) (by kernel_rfl)
              exact ⟨_, v_extract rfl e77 rfl, ⟨A75, c76, rfl, hx78⟩⟩)) ?_
        refine .o3 ?_
        refine .o2 (step_allocN (cs := [.bool false, sv none ([]) 0]) (t := 24) rfl (noG rfl) (fun _ w hn k => rfl) (fun q _ hq hb => ⟨q, rfl, hq, hb⟩)) ?_
        refine .off ?_
        refine .off ?_
        exact .nil
      · skip
        intro i h
        simp only [List.contains_eq_mem, List.mem_cons, List.not_mem_nil, or_false, decide_eq_true_eq] at h
        subst h
        · exact eager_takeG rfl (noG rfl) fun _ w hn k => (by
              obtain ⟨A81, c82, e83, hx84⟩ : (fun (v : Value) (W : World) => ∃ (A73 : Option Addr) (c74 : Nat), v = .tuple #[.agg #[.bool (decide (capI (goodI b1 a - goodI b2 b) < 0)), sv A73 (canon (capI (goodI b1 a - goodI b2 b)).natAbs) c74], .bool (okI (goodI b1 a - goodI b2 b))] ∧ SRow W .u32 A73 (canon (capI (goodI b1 a - goodI b2 b)).natAbs) c74) _ _ := k.dep 3 54 (by kernel_rfl) (by kernel_rfl)
              exact ⟨_, fun w hS => v_extract rfl e83 rfl, rfl⟩)
      intro a238 w239 _ hn240 ha241
      have hs242 := ha241.size.trans hs225
      have hd243 := ha241.defers.trans hd226
      have h244 := ha241.fx 2 h227
      have h245 := ha241.fx 3 h228
      have h246 := ha241.fx 5 h229
      have h247 := ha241.fx 6 h230
      have h248 := ha241.fx 7 h231
      have h249 := ha241.fx 8 h232
      have h250 := ha241.fx 9 h235
      have h251 := ha241.fx 10 h236
      obtain ⟨A253, cc254, h252, hr255⟩ : (fun (v : Value) (W : World) => ∃ (A79 : Option Addr) (c80 : Nat), v = .agg #[.bool (decide (capI (goodI b1 a - goodI b2 b) < 0)), sv A79 (canon (capI (goodI b1 a - goodI b2 b)).natAbs) c80] ∧ SRow W .u32 A79 (canon (capI (goodI b1 a - goodI b2 b)).natAbs) c80) _ _ := ha241.got 4 58 rfl (by kernel_rfl)
      have h252 : a238.eval (.tmp 58) = .agg #[.bool (decide (capI (goodI b1 a - goodI b2 b) < 0)), sv A253 (canon (capI (goodI b1 a - goodI b2 b)).natAbs) cc254] := h252
      have h256 := ha241.ge 5 59 rfl
      obtain ⟨q258, h257, hq259, hb260⟩ : IsNew _ _ _ _ _ := ha241.got 6 11 rfl (by kernel_rfl)
      have hb261 := hb217.new_ hn240
      have hb262 := hb218.new_ hn240
      have hb263 := hb219.new_ hn240
      have hb264 := hb220.new_ hn240
      have hb265 := hb221.new_ hn240
      have hb266 := hb208.new_ hn240
      have hne267 : q9 ≠ q258 := by have h1 := hb217.lt; have h2 := hq259; omega
      have hne268 : q13 ≠ q258 := by have h1 := hb218.lt; have h2 := hq259; omega
      have hne269 : q67 ≠ q258 := by have h1 := hb219.lt; have h2 := hq259; omega
      have hne270 : q71 ≠ q258 := by have h1 := hb220.lt; have h2 := hq259; omega
      have hne271 : q127 ≠ q258 := by have h1 := hb221.lt; have h2 := hq259; omega
      have hne272 : q188 ≠ q258 := by have h1 := hb208.lt; have h2 := hq259; omega
      have hq273 := Nat.le_trans hN222.size hq259
      have hr274 := hr213.new_ hn240
      have hr275 := hr214.new_ hn240
      have hr276 := hr215.new_ hn240
      have hr277 := hr216.new_ hn240
      have hN278 := hN222.transNew hn240
      clear hs225 hd226 h227 h228 h229 h230 h231 h232 h235 h236 hb217 hb218 hb219 hb220 hb221 hb208 hq259 hr213 hr214 hr215 hr216 hN222 ha241 hn240
      obtain ⟨w279, -, hst280, hb281, hu282, hf283⟩ := s_two (v0 := .bool (decide (capI (goodI b1 a - goodI b2 b) < 0))) (v1 := sv A253 (canon (capI (goodI b1 a - goodI b2 b)).natAbs) cc254) Try.sizeOf24 rfl rfl rfl hb260
      refine st_act rfl rfl fun K284 hL285 => a_store' rfl h257 h252 hst280 (hL285 _ _ trivial ?_)
      have hr286 := hr274.far hb260 hu282 (by first | rfl | decide | simp [notK])
      have hr287 := hr275.far hb260 hu282 (by first | rfl | decide | simp [notK])
      have hr288 := hr276.far hb260 hu282 (by first | rfl | decide | simp [notK])
      have hr289 := hr277.far hb260 hu282 (by first | rfl | decide | simp [notK])
      have hr290 := hr255.far hb260 hu282 (by first | rfl | decide | simp [notK])
      have hb291 := hf283 _ _ _ (hne267) hb261
      have hb292 := hf283 _ _ _ (hne268) hb262
      have hb293 := hf283 _ _ _ (hne269) hb263
      have hb294 := hf283 _ _ _ (hne270) hb264
      have hb295 := hf283 _ _ _ (hne271) hb265
      have hb296 := hf283 _ _ _ (hne272) hb266
      have hN297 := hN278.trans hu282 (fun k hk hkb => by subst hkb; omega)
      clear hb260 hst280 K284 hL285 hN278 hr274 hr275 hr276 hr277 hr255 hb261 hb262 hb263 hb264 hb265 hb266 hu282 hf283
      refine st_take rfl rfl (y_assign (v := .bool (okI (goodI b1 a - goodI b2 b))) rfl h256) rfl ?_
      obtain ⟨a298, ha299⟩ : ∃ a', a' = a238.put (some 12) (.bool (okI (goodI b1 a - goodI b2 b))) := ⟨_, rfl⟩
      have hs300 : a298.tmps.size = 198 := by rw [ha299, put_size]; exact hs242
      have hd301 : a298.defers = [] := by rw [ha299, put_defers]; exact hd243
      have h302 : a298.eval (.tmp 2) = pv q9 := by rw [ha299, put_ne _ _ _ _ (by decide)]; exact h244
      have h303 : a298.eval (.tmp 3) = pv q13 := by rw [ha299, put_ne _ _ _ _ (by decide)]; exact h245
      have h304 : a298.eval (.tmp 5) = pv q67 := by rw [ha299, put_ne _ _ _ _ (by decide)]; exact h246
      have h305 : a298.eval (.tmp 6) = pv q71 := by rw [ha299, put_ne _ _ _ _ (by decide)]; exact h247
      have h306 : a298.eval (.tmp 7) = pv q127 := by rw [ha299, put_ne _ _ _ _ (by decide)]; exact h248
      have h307 : a298.eval (.tmp 8) = .bool (okI (goodI b1 a + goodI b2 b)) := by rw [ha299, put_ne _ _ _ _ (by decide)]; exact h249
      have h308 : a298.eval (.tmp 9) = pv q188 := by rw [ha299, put_ne _ _ _ _ (by decide)]; exact h250
      have h309 : a298.eval (.tmp 10) = .bool (okI (goodI b1 a + goodI b2 b)) := by rw [ha299, put_ne _ _ _ _ (by decide)]; exact h251
      have h310 : a298.eval (.tmp 58) = .agg #[.bool (decide (capI (goodI b1 a - goodI b2 b) < 0)), sv A253 (canon (capI (goodI b1 a - goodI b2 b)).natAbs) cc254] := by rw [ha299, put_ne _ _ _ _ (by decide)]; exact h252
      have h311 : a298.eval (.tmp 59) = .bool (okI (goodI b1 a - goodI b2 b)) := by rw [ha299, put_ne _ _ _ _ (by decide)]; exact h256
      have h312 : a298.eval (.tmp 11) = pv q258 := by rw [ha299, put_ne _ _ _ _ (by decide)]; exact h257
      have h313 : a298.eval (.tmp 12) = .bool (okI (goodI b1 a - goodI b2 b)) := by rw [ha299]; exact put_same _ _ _ (by rw [hs242]; decide)
      show stepsTo _ _ _ _ _ (a238.put (some 12) (.bool (okI (goodI b1 a - goodI b2 b)))) _
      rw [← ha299]
      clear ha299 hs242 hd243 h244 h245 h246 h247 h248 h249 h250 h251 h252 h256 h257
      clear hne267
      clear hne268
      clear hne269
      clear hne270
      clear hne271
      clear hne272
      refine st_nil ?_
      clear h310 h311
      refine hK237 _ _ ?_
      clear hK237 K237
      refine wp_seq_k fun K314 hK314 => ?_
      refine wp_gS (fun W => True) (fun W W' hn h => trivial) trivial [true, true, true, true, true, true, true, false, false] [5] [(7, false), (8, true)] 198
        [ve (.agg #[.bool b1, sv A a c]),
         ve (.agg #[.bool b2, sv B b d]),
         (fun (v : Value) (W : World) => ∃ (A91 : Option Addr) (c92 : Nat), v = .tuple #[.agg #[.bool (decide (capI (goodI b1 a - goodI b2 b) < 0)), sv A91 (canon (capI (goodI b1 a - goodI b2 b)).natAbs) c92], .bool (okI (goodI b1 a - goodI b2 b))] ∧ SRow W .u32 A91 (canon (capI (goodI b1 a - goodI b2 b)).natAbs) c92),
         (fun (v : Value) (W : World) => ∃ (A97 : Option Addr) (c98 : Nat), v = .tuple #[.agg #[.bool (decide (capI (goodI b1 a - goodI b2 b) < 0)), sv A97 (canon (capI (goodI b1 a - goodI b2 b)).natAbs) c98], .bool (okI (goodI b1 a - goodI b2 b))] ∧ SRow W .u32 A97 (canon (capI (goodI b1 a - goodI b2 b)).natAbs) c98),
         (fun (v : Value) (W : World) => ∃ (A103 : Option Addr) (c104 : Nat), v = .agg #[.bool (decide (capI (goodI b1 a - goodI b2 b) < 0)), sv A103 (canon (capI (goodI b1 a - goodI b2 b)).natAbs) c104] ∧ SRow W .u32 A103 (canon (capI (goodI b1 a - goodI b2 b)).natAbs) c104),
         ve (.bool (okI (goodI b1 a - goodI b2 b))),
         IsNew w279 24 [.bool false, sv none ([]) 0],
         vt,
         vt]
        [6] (newsCons (fun v w h => IsNew.old h) newsNil) hs300 (.eq (.eq (.cons (fun v W W' hn ⟨A91, c92, he, h0⟩ => ⟨A91, c92, he, h0.new_ hn⟩) (.cons (fun v W W' hn ⟨A97, c98, he, h0⟩ => ⟨A97, c98, he, h0.new_ hn⟩) (.cons (fun v W W' hn ⟨A103, c104, he, h0⟩ => ⟨A103, c104, he, h0.new_ hn⟩) (.eq (.nw (.tt (.tt (.nil)))))))))) ?_ ?_ ?_
      · skip
        refine .o1 (tk rfl rfl fun _ w hn k => ⟨_, v_load rfl (k.fx 2 h302) (l_two Try.isAgg24 Try.sizeOf24 (hb291.new_ hn)), rfl⟩) ?_
        refine .o1 (tk rfl rfl fun _ w hn k => ⟨_, v_load rfl (k.fx 3 h303) (l_two Try.isAgg24 Try.sizeOf24 (hb292.new_ hn)), rfl⟩) ?_
        refine .o1 (tkC rfl (noG rfl) rfl fun _ w hn k => (by
              refine ⟨#[.agg #[.bool b1, sv A a c], .agg #[.bool b2, sv B b d]], _, args2 (k.eq1 0 61 rfl) (k.eq1 1 62 rfl), fun w => by kernel_rfl, rsub_c _ _ _ _ _ _ _ _ _ (hra.new_ (hN297.transNew hn)) ha (hrb.new_ (hN297.transNew hn)) hb, ?_⟩
              rintro e w' ⟨A89, c90, rfl, hmo, hm⟩
              exact ⟨_, rfl, hm, ⟨A89, c90, rfl, hmo⟩⟩)) ?_
        refine .o1 (tk rfl rfl fun _ w hn k => (by
              obtain ⟨A93, c94, e95, hx96⟩ : (fun (v : Value) (W : World) => ∃ (A91 : Option Addr) (c92 : Nat), v = .tuple #[.agg #[.bool (decide (capI (goodI b1 a - goodI b2 b) < 0)), sv A91 (canon (capI (goodI b1 a - goodI b2 b)).natAbs) c92], .bool (okI (goodI b1 a - goodI b2 b))] ∧ SRow W .u32 A91 (canon (capI (goodI b1 a - goodI b2 b)).natAbs) c92) _ _ := k.dep 2 63 (by kernel_rfl) (by kernel_rfl)
              exact ⟨_, v_move rfl e95, ⟨A93, c94, rfl, hx96⟩⟩)) ?_
        refine .o1 (tk rfl rfl fun _ w hn k => (by
              obtain ⟨A99, c100, e101, hx102⟩ : (fun (v : Value) (W : World) => ∃ (A97 : Option Addr) (c98 : Nat), v = .tuple #[.agg #[.bool (decide (capI (goodI b1 a - goodI b2 b) < 0)), sv A97 (canon (capI (goodI b1 a - goodI b2 b)).natAbs) c98], .bool (okI (goodI b1 a - goodI b2 b))] ∧ SRow W .u32 A97 (canon (capI (goodI b1 a - goodI b2 b)).natAbs) c98) _ _ := k.dep 3 60 (by kernel_rfl) (by kernel_rfl)
              exact ⟨_, v_extract rfl e101 rfl, ⟨A99, c100, rfl, hx102⟩⟩)) ?_
        refine .o3 ?_
        refine .o2 (step_allocN (cs := [.bool false, sv none ([]) 0]) (t := 24) rfl (noG rfl) (fun _ w hn k => rfl) (fun q _ hq hb => ⟨q, rfl, hq, hb⟩)) ?_
        refine .off ?_
        refine .off ?_
        exact .nil
      · skip
        intro i h
        simp only [List.contains_eq_mem, List.mem_cons, List.not_mem_nil, or_false, decide_eq_true_eq] at h
        subst h
        · exact eager_takeG rfl (noG rfl) fun _ w hn k => (by
              obtain ⟨A105, c106, e107, hx108⟩ : (fun (v : Value) (W : World) => ∃ (A97 : Option Addr) (c98 : Nat), v = .tuple #[.agg #[.bool (decide (capI (goodI b1 a - goodI b2 b) < 0)), sv A97 (canon (capI (goodI b1 a - goodI b2 b)).natAbs) c98], .bool (okI (goodI b1 a - goodI b2 b))] ∧ SRow W .u32 A97 (canon (capI (goodI b1 a - goodI b2 b)).natAbs) c98) _ _ := k.dep 3 60 (by kernel_rfl) (by kernel_rfl)
              exact ⟨_, fun w hS => v_extract rfl e107 rfl, rfl⟩)
      intro a315 w316 _ hn317 ha318
      have hs319 := ha318.size.trans hs300
      have hd320 := ha318.defers.trans hd301
      have h321 := ha318.fx 2 h302
      have h322 := ha318.fx 3 h303
      have h323 := ha318.fx 5 h304
      have h324 := ha318.fx 6 h305
      have h325 := ha318.fx 7 h306
      have h326 := ha318.fx 8 h307
      have h327 := ha318.fx 9 h308
      have h328 := ha318.fx 10 h309
      have h329 := ha318.fx 11 h312
      have h330 := ha318.fx 12 h313
      obtain ⟨A332, cc333, h331, hr334⟩ : (fun (v : Value) (W : World) => ∃ (A103 : Option Addr) (c104 : Nat), v = .agg #[.bool (decide (capI (goodI b1 a - goodI b2 b) < 0)), sv A103 (canon (capI (goodI b1 a - goodI b2 b)).natAbs) c104] ∧ SRow W .u32 A103 (canon (capI (goodI b1 a - goodI b2 b)).natAbs) c104) _ _ := ha318.got 4 64 rfl (by kernel_rfl)
      have h331 : a315.eval (.tmp 64) = .agg #[.bool (decide (capI (goodI b1 a - goodI b2 b) < 0)), sv A332 (canon (capI (goodI b1 a - goodI b2 b)).natAbs) cc333] := h331
      have h335 := ha318.ge 5 65 rfl
      obtain ⟨q337, h336, hq338, hb339⟩ : IsNew _ _ _ _ _ := ha318.got 6 13 rfl (by kernel_rfl)
      have hb340 := hb291.new_ hn317
      have hb341 := hb292.new_ hn317
      have hb342 := hb293.new_ hn317
      have hb343 := hb294.new_ hn317
      have hb344 := hb295.new_ hn317
      have hb345 := hb296.new_ hn317
      have hb346 := hb281.new_ hn317
      have hne347 : q9 ≠ q337 := by have h1 := hb291.lt; have h2 := hq338; omega
      have hne348 : q13 ≠ q337 := by have h1 := hb292.lt; have h2 := hq338; omega
      have hne349 : q67 ≠ q337 := by have h1 := hb293.lt; have h2 := hq338; omega
      have hne350 : q71 ≠ q337 := by have h1 := hb294.lt; have h2 := hq338; omega
      have hne351 : q127 ≠ q337 := by have h1 := hb295.lt; have h2 := hq338; omega
      have hne352 : q188 ≠ q337 := by have h1 := hb296.lt; have h2 := hq338; omega
      have hne353 : q258 ≠ q337 := by have h1 := hb281.lt; have h2 := hq338; omega
      have hq354 := Nat.le_trans hN297.size hq338
      have hr355 := hr286.new_ hn317
      have hr356 := hr287.new_ hn317
      have hr357 := hr288.new_ hn317
      have hr358 := hr289.new_ hn317
      have hr359 := hr290.new_ hn317
      have hN360 := hN297.transNew hn317
      clear hs300 hd301 h302 h303 h304 h305 h306 h307 h308 h309 h312 h313 hb291 hb292 hb293 hb294 hb295 hb296 hb281 hq338 hr286 hr287 hr288 hr289 hr290 hN297 ha318 hn317
      obtain ⟨w361, -, hst362, hb363, hu364, hf365⟩ := s_two (v0 := .bool (decide (capI (goodI b1 a - goodI b2 b) < 0))) (v1 := sv A332 (canon (capI (goodI b1 a - goodI b2 b)).natAbs) cc333) Try.sizeOf24 rfl rfl rfl hb339
      refine st_act rfl rfl fun K366 hL367 => a_store' rfl h336 h331 hst362 (hL367 _ _ trivial ?_)
      have hr368 := hr355.far hb339 hu364 (by first | rfl | decide | simp [notK])
      have hr369 := hr356.far hb339 hu364 (by first | rfl | decide | simp [notK])
      have hr370 := hr357.far hb339 hu364 (by first | rfl | decide | simp [notK])
      have hr371 := hr358.far hb339 hu364 (by first | rfl | decide | simp [notK])
      have hr372 := hr359.far hb339 hu364 (by first | rfl | decide | simp [notK])
      have hr373 := hr334.far hb339 hu364 (by first | rfl | decide | simp [notK])
      have hb374 := hf365 _ _ _ (hne347) hb340
      have hb375 := hf365 _ _ _ (hne348) hb341
      have hb376 := hf365 _ _ _ (hne349) hb342
      have hb377 := hf365 _ _ _ (hne350) hb343
      have hb378 := hf365 _ _ _ (hne351) hb344
      have hb379 := hf365 _ _ _ (hne352) hb345
      have hb380 := hf365 _ _ _ (hne353) hb346
      have hN381 := hN360.trans hu364 (fun k hk hkb => by subst hkb; omega)
      clear hb339 hst362 K366 hL367 hN360 hr355 hr356 hr357 hr358 hr359 hr334 hb340 hb341 hb342 hb343 hb344 hb345 hb346 hu364 hf365
      refine st_take rfl rfl (y_assign (v := .bool (okI (goodI b1 a - goodI b2 b))) rfl h335) rfl ?_
      obtain ⟨a382, ha383⟩ : ∃ a', a' = a315.put (some 14) (.bool (okI (goodI b1 a - goodI b2 b))) := ⟨_, rfl⟩
      have hs384 : a382.tmps.size = 198 := by rw [ha383, put_size]; exact hs319
      have hd385 : a382.defers = [] := by rw [ha383, put_defers]; exact hd320
      have h386 : a382.eval (.tmp 2) = pv q9 := by rw [ha383, put_ne _ _ _ _ (by decide)]; exact h321
      have h387 : a382.eval (.tmp 3) = pv q13 := by rw [ha383, put_ne _ _ _ _ (by decide)]; exact h322
      have h388 : a382.eval (.tmp 5) = pv q67 := by rw [ha383, put_ne _ _ _ _ (by decide)]; exact h323
      have h389 : a382.eval (.tmp 6) = pv q71 := by rw [ha383, put_ne _ _ _ _ (by decide)]; exact h324
      have h390 : a382.eval (.tmp 7) = pv q127 := by rw [ha383, put_ne _ _ _ _ (by decide)]; exact h325
      have h391 : a382.eval (.tmp 8) = .bool (okI (goodI b1 a + goodI b2 b)) := by rw [ha383, put_ne _ _ _ _ (by decide)]; exact h326
      have h392 : a382.eval (.tmp 9) = pv q188 := by rw [ha383, put_ne _ _ _ _ (by decide)]; exact h327
      have h393 : a382.eval (.tmp 10) = .bool (okI (goodI b1 a + goodI b2 b)) := by rw [ha383, put_ne _ _ _ _ (by decide)]; exact h328
      have h394 : a382.eval (.tmp 11) = pv q258 := by rw [ha383, put_ne _ _ _ _ (by decide)]; exact h329
      have h395 : a382.eval (.tmp 12) = .bool (okI (goodI b1 a - goodI b2 b)) := by rw [ha383, put_ne _ _ _ _ (by decide)]; exact h330
      have h396 : a382.eval (.tmp 64) = .agg #[.bool (decide (capI (goodI b1 a - goodI b2 b) < 0)), sv A332 (canon (capI (goodI b1 a - goodI b2 b)).natAbs) cc333] := by rw [ha383, put_ne _ _ _ _ (by decide)]; exact h331
      have h397 : a382.eval (.tmp 65) = .bool (okI (goodI b1 a - goodI b2 b)) := by rw [ha383, put_ne _ _ _ _ (by decide)]; exact h335
      have h398 : a382.eval (.tmp 13) = pv q337 := by rw [ha383, put_ne _ _ _ _ (by decide)]; exact h336
      have h399 : a382.eval (.tmp 14) = .bool (okI (goodI b1 a - goodI b2 b)) := by rw [ha383]; exact put_same _ _ _ (by rw [hs319]; decide)
      show stepsTo _ _ _ _ _ (a315.put (some 14) (.bool (okI (goodI b1 a - goodI b2 b)))) _
      rw [← ha383]
      clear ha383 hs319 hd320 h321 h322 h323 h324 h325 h326 h327 h328 h329 h330 h331 h335 h336
      clear hne347
      clear hne348
      clear hne349
      clear hne350
      clear hne351
      clear hne352
      clear hne353
      refine st_nil ?_
      clear h396 h397
      refine hK314 _ _ ?_
      clear hK314 K314
      refine wp_seq_k fun K400 hK400 => ?_
      refine wp_gS (fun W => True) (fun W W' hn h => trivial) trivial [true, true, true, true, true, true, true, false, false] [5] [(7, false), (8, true)] 198
        [ve (.agg #[.bool b1, sv A59 a cc60]),
         ve (.agg #[.bool b2, sv A63 b cc64]),
         (fun (v : Value) (W : World) => ∃ (A115 : Option Addr) (c116 : Nat), v = .tuple #[.agg #[.bool (decide (capI (goodI b1 a * goodI b2 b) < 0)), sv A115 (canon (capI (goodI b1 a * goodI b2 b)).natAbs) c116], .bool (okI (goodI b1 a * goodI b2 b))] ∧ SRow W .u32 A115 (canon (capI (goodI b1 a * goodI b2 b)).natAbs) c116),
         (fun (v : Value) (W : World) => ∃ (A121 : Option Addr) (c122 : Nat), v = .tuple #[.agg #[.bool (decide (capI (goodI b1 a * goodI b2 b) < 0)), sv A121 (canon (capI (goodI b1 a * goodI b2 b)).natAbs) c122], .bool (okI (goodI b1 a * goodI b2 b))] ∧ SRow W .u32 A121 (canon (capI (goodI b1 a * goodI b2 b)).natAbs) c122),
         (fun (v : Value) (W : World) => ∃ (A127 : Option Addr) (c128 : Nat), v = .agg #[.bool (decide (capI (goodI b1 a * goodI b2 b) < 0)), sv A127 (canon (capI (goodI b1 a * goodI b2 b)).natAbs) c128] ∧ SRow W .u32 A127 (canon (capI (goodI b1 a * goodI b2 b)).natAbs) c128),
         ve (.bool (okI (goodI b1 a * goodI b2 b))),
         IsNew w361 24 [.bool false, sv none ([]) 0],
         vt,
         vt]
        [6] (newsCons (fun v w h => IsNew.old h) newsNil) hs384 (.eq (.eq (.cons (fun v W W' hn ⟨A115, c116, he, h0⟩ => ⟨A115, c116, he, h0.new_ hn⟩) (.cons (fun v W W' hn ⟨A121, c122, he, h0⟩ => ⟨A121, c122, he, h0.new_ hn⟩) (.cons (fun v W W' hn ⟨A127, c128, he, h0⟩ => ⟨A127, c128, he, h0.new_ hn⟩) (.eq (.nw (.tt (.tt (.nil)))))))))) ?_ ?_ ?_
      · skip
        refine .o1 (tk rfl rfl fun _ w hn k => ⟨_, v_load rfl (k.fx 5 h388) (l_two Try.isAgg24 Try.sizeOf24 (hb376.new_ hn)), rfl⟩) ?_
        refine .o1 (tk rfl rfl fun _ w hn k => ⟨_, v_load rfl (k.fx 6 h389) (l_two Try.isAgg24 Try.sizeOf24 (hb377.new_ hn)), rfl⟩) ?_
        refine .o1 (tkC rfl (noG rfl) rfl fun _ w hn k => (by
              refine ⟨#[.agg #[.bool b1, sv A59 a cc60], .agg #[.bool b2, sv A63 b cc64]], _, args2 (k.eq1 0 67 rfl) (k.eq1 1 68 rfl), fun w => by kernel_rfl, bMul_c _ _ _ _ _ _ _ _ _ (hr368.new_ hn) ha (hr369.new_ hn) hb, ?_⟩
              rintro e w' ⟨A113, c114, rfl, hmo, hm⟩
              exact ⟨_, rfl, hm, ⟨A113, c114, rfl, hmo⟩⟩)) ?_
        refine .o1 (tk rfl rfl fun _ w hn k => (by
              obtain ⟨A117, c118, e119, hx120⟩ : (fun (v : Value) (W : World) => ∃ (A115 : Option Addr) (c116 : Nat), v = .tuple #[.agg #[.bool (decide (capI (goodI b1 a * goodI b2 b) < 0)), sv A115 (canon (capI (goodI b1 a * goodI b2 b)).natAbs) c116], .bool (okI (goodI b1 a * goodI b2 b))] ∧ SRow W .u32 A115 (canon (capI (goodI b1 a * goodI b2 b)).natAbs) c116) _ _ := k.dep 2 69 (by kernel_rfl) (by kernel_rfl)
              exact ⟨_, v_move rfl e119, ⟨A117, c118, rfl, hx120⟩⟩)) ?_
        refine .o1 (tk rfl rfl fun _ w hn k => (by
              obtain ⟨A123, c124, e125, hx126⟩ : (fun (v : Value) (W : World) => ∃ (A121 : Option Addr) (c122 : Nat), v = .tuple #[.agg #[.bool (decide (capI (goodI b1 a * goodI b2 b) < 0)), sv A121 (canon (capI (goodI b1 a * goodI b2 b)).natAbs) c122], .bool (okI (goodI b1 a * goodI b2 b))] ∧ SRow W .u32 A121 (canon (capI (goodI b1 a * goodI b2 b)).natAbs) c122) _ _ := k.dep 3 66 (by kernel_rfl) (by kernel_rfl)
              exact ⟨_, v_extract rfl e125 rfl, ⟨A123, c124, rfl, hx126⟩⟩)) ?_
        refine .o3 ?_
        refine .o2 (step_allocN (cs := [.bool false, sv none ([]) 0]) (t := 24) rfl (noG rfl) (fun _ w hn k => rfl) (fun q _ hq hb => ⟨q, rfl, hq, hb⟩)) ?_
        refine .off ?_
        refine .off ?_
        exact .nil
      · skip
        intro i h
        simp only [List.contains_eq_mem, List.mem_cons, List.not_mem_nil, or_false, decide_eq_true_eq] at h
        subst h
        · exact eager_takeG rfl (noG rfl) fun _ w hn k => (by
              obtain ⟨A129, c130, e131, hx132⟩ : (fun (v : Value) (W : World) => ∃ (A121 : Option Addr) (c122 : Nat), v = .tuple #[.agg #[.bool (decide (capI (goodI b1 a * goodI b2 b) < 0)), sv A121 (canon (capI (goodI b1 a * goodI b2 b)).natAbs) c122], .bool (okI (goodI b1 a * goodI b2 b))] ∧ SRow W .u32 A121 (canon (capI (goodI b1 a * goodI b2 b)).natAbs) c122) _ _ := k.dep 3 66 (by kernel_rfl) (by kernel_rfl)
              exact ⟨_, fun w hS => v_extract rfl e131 rfl, rfl⟩)
      intro a401 w402 _ hn403 ha404
      have hs405 := ha404.size.trans hs384
      have hd406 := ha404.defers.trans hd385
      have h407 := ha404.fx 2 h386
      have h408 := ha404.fx 3 h387
      have h409 := ha404.fx 5 h388
      have h410 := ha404.fx 6 h389
      have h411 := ha404.fx 7 h390
      have h412 := ha404.fx 8 h391
      have h413 := ha404.fx 9 h392
      have h414 := ha404.fx 10 h393
      have h415 := ha404.fx 11 h394
      have h416 := ha404.fx 12 h395
      have h417 := ha404.fx 13 h398
      have h418 := ha404.fx 14 h399
      obtain ⟨A420, cc421, h419, hr422⟩ : (fun (v : Value) (W : World) => ∃ (A127 : Option Addr) (c128 : Nat), v = .agg #[.bool (decide (capI (goodI b1 a * goodI b2 b) < 0)), sv A127 (canon (capI (goodI b1 a * goodI b2 b)).natAbs) c128] ∧ SRow W .u32 A127 (canon (capI (goodI b1 a * goodI b2 b)).natAbs) c128) _ _ := ha404.got 4 70 rfl (by kernel_rfl)
      have h419 : a401.eval (.tmp 70) = .agg #[.bool (decide (capI (goodI b1 a * goodI b2 b) < 0)), sv A420 (canon (capI (goodI b1 a * goodI b2 b)).natAbs) cc421] := h419
      have h423 := ha404.ge 5 71 rfl
      obtain ⟨q425, h424, hq426, hb427⟩ : IsNew _ _ _ _ _ := ha404.got 6 15 rfl (by kernel_rfl)
      have hb428 := hb374.new_ hn403
      have hb429 := hb375.new_ hn403
      have hb430 := hb376.new_ hn403
      have hb431 := hb377.new_ hn403
      have hb432 := hb378.new_ hn403
      have hb433 := hb379.new_ hn403
      have hb434 := hb380.new_ hn403
      have hb435 := hb363.new_ hn403
      have hne436 : q9 ≠ q425 := by have h1 := hb374.lt; have h2 := hq426; omega
      have hne437 : q13 ≠ q425 := by have h1 := hb375.lt; have h2 := hq426; omega
      have hne438 : q67 ≠ q425 := by have h1 := hb376.lt; have h2 := hq426; omega
      have hne439 : q71 ≠ q425 := by have h1 := hb377.lt; have h2 := hq426; omega
      have hne440 : q127 ≠ q425 := by have h1 := hb378.lt; have h2 := hq426; omega
      have hne441 : q188 ≠ q425 := by have h1 := hb379.lt; have h2 := hq426; omega
      have hne442 : q258 ≠ q425 := by have h1 := hb380.lt; have h2 := hq426; omega
      have hne443 : q337 ≠ q425 := by have h1 := hb363.lt; have h2 := hq426; omega
      have hq444 := Nat.le_trans hN381.size hq426
      have hr445 := hr368.new_ hn403
      have hr446 := hr369.new_ hn403
      have hr447 := hr370.new_ hn403
      have hr448 := hr371.new_ hn403
      have hr449 := hr372.new_ hn403
      have hr450 := hr373.new_ hn403
      have hN451 := hN381.transNew hn403
      clear hs384 hd385 h386 h387 h388 h389 h390 h391 h392 h393 h394 h395 h398 h399 hb374 hb375 hb376 hb377 hb378 hb379 hb380 hb363 hq426 hr368 hr369 hr370 hr371 hr372 hr373 hN381 ha404 hn403
      obtain ⟨w452, -, hst453, hb454, hu455, hf456⟩ := s_two (v0 := .bool (decide (capI (goodI b1 a * goodI b2 b) < 0))) (v1 := sv A420 (canon (capI (goodI b1 a * goodI b2 b)).natAbs) cc421) Try.sizeOf24 rfl rfl rfl hb427
      refine st_act rfl rfl fun K457 hL458 => a_store' rfl h424 h419 hst453 (hL458 _ _ trivial ?_)
      have hr459 := hr445.far hb427 hu455 (by first | rfl | decide | simp [notK])
      have hr460 := hr446.far hb427 hu455 (by first | rfl | decide | simp [notK])
      have hr461 := hr447.far hb427 hu455 (by first | rfl | decide | simp [notK])
      have hr462 := hr448.far hb427 hu455 (by first | rfl | decide | simp [notK])
      have hr463 := hr449.far hb427 hu455 (by first | rfl | decide | simp [notK])
      have hr464 := hr450.far hb427 hu455 (by first | rfl | decide | simp [notK])
      have hr465 := hr422.far hb427 hu455 (by first | rfl | decide | simp [notK])
      have hb466 := hf456 _ _ _ (hne436) hb428
      have hb467 := hf456 _ _ _ (hne437) hb429
      have hb468 := hf456 _ _ _ (hne438) hb430
      have hb469 := hf456 _ _ _ (hne439) hb431
      have hb470 := hf456 _ _ _ (hne440) hb432
      have hb471 := hf456 _ _ _ (hne441) hb433
      have hb472 := hf456 _ _ _ (hne442) hb434
      have hb473 := hf456 _ _ _ (hne443) hb435
      have hN474 := hN451.trans hu455 (fun k hk hkb => by subst hkb; omega)
      clear hb427 hst453 K457 hL458 hN451 hr445 hr446 hr447 hr448 hr449 hr450 hr422 hb428 hb429 hb430 hb431 hb432 hb433 hb434 hb435 hu455 hf456
      refine st_take rfl rfl (y_assign (v := .bool (okI (goodI b1 a * goodI b2 b))) rfl h423) rfl ?_
      obtain ⟨a475, ha476⟩ : ∃ a', a' = a401.put (some 16) (.bool (okI (goodI b1 a * goodI b2 b))) := ⟨_, rfl⟩
      have hs477 : a475.tmps.size = 198 := by rw [ha476, put_size]; exact hs405
      have hd478 : a475.defers = [] := by rw [ha476, put_defers]; exact hd406
      have h479 : a475.eval (.tmp 2) = pv q9 := by rw [ha476, put_ne _ _ _ _ (by decide)]; exact h407
      have h480 : a475.eval (.tmp 3) = pv q13 := by rw [ha476, put_ne _ _ _ _ (by decide)]; exact h408
      have h481 : a475.eval (.tmp 5) = pv q67 := by rw [ha476, put_ne _ _ _ _ (by decide)]; exact h409
      have h482 : a475.eval (.tmp 6) = pv q71 := by rw [ha476, put_ne _ _ _ _ (by decide)]; exact h410
      have h483 : a475.eval (.tmp 7) = pv q127 := by rw [ha476, put_ne _ _ _ _ (by decide)]; exact h411
      have h484 : a475.eval (.tmp 8) = .bool (okI (goodI b1 a + goodI b2 b)) := by rw [ha476, put_ne _ _ _ _ (by decide)]; exact h412
      have h485 : a475.eval (.tmp 9) = pv q188 := by rw [ha476, put_ne _ _ _ _ (by decide)]; exact h413
      have h486 : a475.eval (.tmp 10) = .bool (okI (goodI b1 a + goodI b2 b)) := by rw [ha476, put_ne _ _ _ _ (by decide)]; exact h414
      have h487 : a475.eval (.tmp 11) = pv q258 := by rw [ha476, put_ne _ _ _ _ (by decide)]; exact h415
      have h488 : a475.eval (.tmp 12) = .bool (okI (goodI b1 a - goodI b2 b)) := by rw [ha476, put_ne _ _ _ _ (by decide)]; exact h416
      have h489 : a475.eval (.tmp 13) = pv q337 := by rw [ha476, put_ne _ _ _ _ (by decide)]; exact h417
      have h490 : a475.eval (.tmp 14) = .bool (okI (goodI b1 a - goodI b2 b)) := by rw [ha476, put_ne _ _ _ _ (by decide)]; exact h418
      have h491 : a475.eval (.tmp 70) = .agg #[.bool (decide (capI (goodI b1 a * goodI b2 b) < 0)), sv A420 (canon (capI (goodI b1 a * goodI b2 b)).natAbs) cc421] := by rw [ha476, put_ne _ _ _ _ (by decide)]; exact h419
      have h492 : a475.eval (.tmp 71) = .bool (okI (goodI b1 a * goodI b2 b)) := by rw [ha476, put_ne _ _ _ _ (by decide)]; exact h423
      have h493 : a475.eval (.tmp 15) = pv q425 := by rw [ha476, put_ne _ _ _ _ (by decide)]; exact h424
      have h494 : a475.eval (.tmp 16) = .bool (okI (goodI b1 a * goodI b2 b)) := by rw [ha476]; exact put_same _ _ _ (by rw [hs405]; decide)
      show stepsTo _ _ _ _ _ (a401.put (some 16) (.bool (okI (goodI b1 a * goodI b2 b)))) _
      rw [← ha476]
      clear ha476 hs405 hd406 h407 h408 h409 h410 h411 h412 h413 h414 h415 h416 h417 h418 h419 h423 h424
      clear hne436
      clear hne437
      clear hne438
      clear hne439
      clear hne440
      clear hne441
      clear hne442
      clear hne443
      refine st_nil ?_
      clear h491 h492
      refine hK400 _ _ ?_
      clear hK400 K400
      refine wp_seq_k fun K495 hK495 => ?_
      refine wp_gS (fun W => True) (fun W W' hn h => trivial) trivial [true, true, true, true, true, true, true, false, false] [5] [(7, false), (8, true)] 198
        [ve (.agg #[.bool b1, sv A a c]),
         ve (.agg #[.bool b2, sv B b d]),
         (fun (v : Value) (W : World) => ∃ (A139 : Option Addr) (c140 : Nat), v = .tuple #[.agg #[.bool (decide (capI (goodI b1 a * goodI b2 b) < 0)), sv A139 (canon (capI (goodI b1 a * goodI b2 b)).natAbs) c140], .bool (okI (goodI b1 a * goodI b2 b))] ∧ SRow W .u32 A139 (canon (capI (goodI b1 a * goodI b2 b)).natAbs) c140),
         (fun (v : Value) (W : World) => ∃ (A145 : Option Addr) (c146 : Nat), v = .tuple #[.agg #[.bool (decide (capI (goodI b1 a * goodI b2 b) < 0)), sv A145 (canon (capI (goodI b1 a * goodI b2 b)).natAbs) c146], .bool (okI (goodI b1 a * goodI b2 b))] ∧ SRow W .u32 A145 (canon (capI (goodI b1 a * goodI b2 b)).natAbs) c146),
         (fun (v : Value) (W : World) => ∃ (A151 : Option Addr) (c152 : Nat), v = .agg #[.bool (decide (capI (goodI b1 a * goodI b2 b) < 0)), sv A151 (canon (capI (goodI b1 a * goodI b2 b)).natAbs) c152] ∧ SRow W .u32 A151 (canon (capI (goodI b1 a * goodI b2 b)).natAbs) c152),
         ve (.bool (okI (goodI b1 a * goodI b2 b))),
         IsNew w452 24 [.bool false, sv none ([]) 0],
         vt,
         vt]
        [6] (newsCons (fun v w h => IsNew.old h) newsNil) hs477 (.eq (.eq (.cons (fun v W W' hn ⟨A139, c140, he, h0⟩ => ⟨A139, c140, he, h0.new_ hn⟩) (.cons (fun v W W' hn ⟨A145, c146, he, h0⟩ => ⟨A145, c146, he, h0.new_ hn⟩) (.cons (fun v W W' hn ⟨A151, c152, he, h0⟩ => ⟨A151, c152, he, h0.new_ hn⟩) (.eq (.nw (.tt (.tt (.nil)))))))))) ?_ ?_ ?_
      · skip
        refine .o1 (tk rfl rfl fun _ w hn k => ⟨_, v_load rfl (k.fx 2 h479) (l_two Try.isAgg24 Try.sizeOf24 (hb466.new_ hn)), rfl⟩) ?_
        refine .o1 (tk rfl rfl fun _ w hn k => ⟨_, v_load rfl (k.fx 3 h480) (l_two Try.isAgg24 Try.sizeOf24 (hb467.new_ hn)), rfl⟩) ?_
        refine .o1 (tkC rfl (noG rfl) rfl fun _ w hn k => (by
              refine ⟨#[.agg #[.bool b1, sv A a c], .agg #[.bool b2, sv B b d]], _, args2 (k.eq1 0 73 rfl) (k.eq1 1 74 rfl), fun w => by kernel_rfl, rmul_c _ _ _ _ _ _ _ _ _ (hra.new_ (hN474.transNew hn)) ha (hrb.new_ (hN474.transNew hn)) hb, ?_⟩
              rintro e w' ⟨A137, c138, rfl, hmo, hm⟩
              exact ⟨_, rfl, hm, ⟨A137, c138, rfl, hmo⟩⟩)) ?_
        refine .o1 (tk rfl rfl fun _ w hn k => (by
              obtain ⟨A141, c142, e143, hx144⟩ : (fun (v : Value) (W : World) => ∃ (A139 : Option Addr) (c140 : Nat), v = .tuple #[.agg #[.bool (decide (capI (goodI b1 a * goodI b2 b) < 0)), sv A139 (canon (capI (goodI b1 a * goodI b2 b)).natAbs) c140], .bool (okI (goodI b1 a * goodI b2 b))] ∧ SRow W .u32 A139 (canon (capI (goodI b1 a * goodI b2 b)).natAbs) c140) _ _ := k.dep 2 75 (by kernel_rfl) (by kernel_rfl)
              exact ⟨_, v_move rfl e143, ⟨A141, c142, rfl, hx144⟩⟩)) ?_
        refine .o1 (tk rfl rfl fun _ w hn k => (by
              obtain ⟨A147, c148, e149, hx150⟩ : (fun (v : Value) (W : World) => ∃ (A145 : Option Addr) (c146 : Nat), v = .tuple #[.agg #[.bool (decide (capI (goodI b1 a * goodI b2 b) < 0)), sv A145 (canon (capI (goodI b1 a * goodI b2 b)).natAbs) c146], .bool (okI (goodI b1 a * goodI b2 b))] ∧ SRow W .u32 A145 (canon (capI (goodI b1 a * goodI b2 b)).natAbs) c146) _ _ := k.dep 3 72 (by kernel_rfl) (by kernel_rfl)
              exact ⟨_, v_extract rfl e149 rfl, ⟨A147, c148, rfl, hx150⟩⟩)) ?_
        refine .o3 ?_
        refine .o2 (step_allocN (cs := [.bool false, sv none ([]) 0]) (t := 24) rfl (noG rfl) (fun _ w hn k => rfl) (fun q _ hq hb => ⟨q, rfl, hq, hb⟩)) ?_
        refine .off ?_
        refine .off ?_
        exact .nil
      · skip
        intro i h
        simp only [List.contains_eq_mem, List.mem_cons, List.not_mem_nil, or_false, decide_eq_true_eq] at h
        subst h
        · exact eager_takeG rfl (noG rfl) fun _ w hn k => (by
              obtain ⟨A153, c154, e155, hx156⟩ : (fun (v : Value) (W : World) => ∃ (A145 : Option Addr) (c146 : Nat), v = .tuple #[.agg #[.bool (decide (capI (goodI b1 a * goodI b2 b) < 0)), sv A145 (canon (capI (goodI b1 a * goodI b2 b)).natAbs) c146], .bool (okI (goodI b1 a * goodI b2 b))] ∧ SRow W .u32 A145 (canon (capI (goodI b1 a * goodI b2 b)).natAbs) c146) _ _ := k.dep 3 72 (by kernel_rfl) (by kernel_rfl)
              exact ⟨_, fun w hS => v_extract rfl e155 rfl, rfl⟩)
      intro a496 w497 _ hn498 ha499
      have hs500 := ha499.size.trans hs477
      have hd501 := ha499.defers.trans hd478
      have h502 := ha499.fx 2 h479
      have h503 := ha499.fx 3 h480
      have h504 := ha499.fx 5 h481
      have h505 := ha499.fx 6 h482
      have h506 := ha499.fx 7 h483
      have h507 := ha499.fx 8 h484
      have h508 := ha499.fx 9 h485
      have h509 := ha499.fx 10 h486
      have h510 := ha499.fx 11 h487
      have h511 := ha499.fx 12 h488
      have h512 := ha499.fx 13 h489
      have h513 := ha499.fx 14 h490
      have h514 := ha499.fx 15 h493
      have h515 := ha499.fx 16 h494
      obtain ⟨A517, cc518, h516, hr519⟩ : (fun (v : Value) (W : World) => ∃ (A151 : Option Addr) (c152 : Nat), v = .agg #[.bool (decide (capI (goodI b1 a * goodI b2 b) < 0)), sv A151 (canon (capI (goodI b1 a * goodI b2 b)).natAbs) c152] ∧ SRow W .u32 A151 (canon (capI (goodI b1 a * goodI b2 b)).natAbs) c152) _ _ := ha499.got 4 76 rfl (by kernel_rfl)
      have h516 : a496.eval (.tmp 76) = .agg #[.bool (decide (capI (goodI b1 a * goodI b2 b) < 0)), sv A517 (canon (capI (goodI b1 a * goodI b2 b)).natAbs) cc518] := h516
      have h520 := ha499.ge 5 77 rfl
      obtain ⟨q522, h521, hq523, hb524⟩ : IsNew _ _ _ _ _ := ha499.got 6 17 rfl (by kernel_rfl)
      have hb525 := hb466.new_ hn498
      have hb526 := hb467.new_ hn498
      have hb527 := hb468.new_ hn498
      have hb528 := hb469.new_ hn498
      have hb529 := hb470.new_ hn498
      have hb530 := hb471.new_ hn498
      have hb531 := hb472.new_ hn498
      have hb532 := hb473.new_ hn498
      have hb533 := hb454.new_ hn498
      have hne534 : q9 ≠ q522 := by have h1 := hb466.lt; have h2 := hq523; omega
      have hne535 : q13 ≠ q522 := by have h1 := hb467.lt; have h2 := hq523; omega
      have hne536 : q67 ≠ q522 := by have h1 := hb468.lt; have h2 := hq523; omega
      have hne537 : q71 ≠ q522 := by have h1 := hb469.lt; have h2 := hq523; omega
      have hne538 : q127 ≠ q522 := by have h1 := hb470.lt; have h2 := hq523; omega
      have hne539 : q188 ≠ q522 := by have h1 := hb471.lt; have h2 := hq523; omega
      have hne540 : q258 ≠ q522 := by have h1 := hb472.lt; have h2 := hq523; omega
      have hne541 : q337 ≠ q522 := by have h1 := hb473.lt; have h2 := hq523; omega
      have hne542 : q425 ≠ q522 := by have h1 := hb454.lt; have h2 := hq523; omega
      have hq543 := Nat.le_trans hN474.size hq523
      have hr544 := hr459.new_ hn498
      have hr545 := hr460.new_ hn498
      have hr546 := hr461.new_ hn498
      have hr547 := hr462.new_ hn498
      have hr548 := hr463.new_ hn498
      have hr549 := hr464.new_ hn498
      have hr550 := hr465.new_ hn498
      have hN551 := hN474.transNew hn498
      clear hs477 hd478 h479 h480 h481 h482 h483 h484 h485 h486 h487 h488 h489 h490 h493 h494 hb466 hb467 hb468 hb469 hb470 hb471 hb472 hb473 hb454 hq523 hr459 hr460 hr461 hr462 hr463 hr464 hr465 hN474 ha499 hn498
      obtain ⟨w552, -, hst553, hb554, hu555, hf556⟩ := s_two (v0 := .bool (decide (capI (goodI b1 a * goodI b2 b) < 0))) (v1 := sv A517 (canon (capI (goodI b1 a * goodI b2 b)).natAbs) cc518) Try.sizeOf24 rfl rfl rfl hb524
      refine st_act rfl rfl fun K557 hL558 => a_store' rfl h521 h516 hst553 (hL558 _ _ trivial ?_)
      have hr559 := hr544.far hb524 hu555 (by first | rfl | decide | simp [notK])
      have hr560 := hr545.far hb524 hu555 (by first | rfl | decide | simp [notK])
      have hr561 := hr546.far hb524 hu555 (by first | rfl | decide | simp [notK])
      have hr562 := hr547.far hb524 hu555 (by first | rfl | decide | simp [notK])
      have hr563 := hr548.far hb524 hu555 (by first | rfl | decide | simp [notK])
      have hr564 := hr549.far hb524 hu555 (by first | rfl | decide | simp [notK])
      have hr565 := hr550.far hb524 hu555 (by first | rfl | decide | simp [notK])
      have hr566 := hr519.far hb524 hu555 (by first | rfl | decide | simp [notK])
      have hb567 := hf556 _ _ _ (hne534) hb525
      have hb568 := hf556 _ _ _ (hne535) hb526
      have hb569 := hf556 _ _ _ (hne536) hb527
      have hb570 := hf556 _ _ _ (hne537) hb528
      have hb571 := hf556 _ _ _ (hne538) hb529
      have hb572 := hf556 _ _ _ (hne539) hb530
      have hb573 := hf556 _ _ _ (hne540) hb531
      have hb574 := hf556 _ _ _ (hne541) hb532
      have hb575 := hf556 _ _ _ (hne542) hb533
      have hN576 := hN551.trans hu555 (fun k hk hkb => by subst hkb; omega)
      clear hb524 hst553 K557 hL558 hN551 hr544 hr545 hr546 hr547 hr548 hr549 hr550 hr519 hb525 hb526 hb527 hb528 hb529 hb530 hb531 hb532 hb533 hu555 hf556
      refine st_take rfl rfl (y_assign (v := .bool (okI (goodI b1 a * goodI b2 b))) rfl h520) rfl ?_
      obtain ⟨a577, ha578⟩ : ∃ a', a' = a496.put (some 18) (.bool (okI (goodI b1 a * goodI b2 b))) := ⟨_, rfl⟩
      have hs579 : a577.tmps.size = 198 := by rw [ha578, put_size]; exact hs500
      have hd580 : a577.defers = [] := by rw [ha578, put_defers]; exact hd501
      have h581 : a577.eval (.tmp 2) = pv q9 := by rw [ha578, put_ne _ _ _ _ (by decide)]; exact h502
      have h582 : a577.eval (.tmp 3) = pv q13 := by rw [ha578, put_ne _ _ _ _ (by decide)]; exact h503
      have h583 : a577.eval (.tmp 5) = pv q67 := by rw [ha578, put_ne _ _ _ _ (by decide)]; exact h504
      have h584 : a577.eval (.tmp 6) = pv q71 := by rw [ha578, put_ne _ _ _ _ (by decide)]; exact h505
      have h585 : a577.eval (.tmp 7) = pv q127 := by rw [ha578, put_ne _ _ _ _ (by decide)]; exact h506
      have h586 : a577.eval (.tmp 8) = .bool (okI (goodI b1 a + goodI b2 b)) := by rw [ha578, put_ne _ _ _ _ (by decide)]; exact h507
      have h587 : a577.eval (.tmp 9) = pv q188 := by rw [ha578, put_ne _ _ _ _ (by decide)]; exact h508
      have h588 : a577.eval (.tmp 10) = .bool (okI (goodI b1 a + goodI b2 b)) := by rw [ha578, put_ne _ _ _ _ (by decide)]; exact h509
      have h589 : a577.eval (.tmp 11) = pv q258 := by rw [ha578, put_ne _ _ _ _ (by decide)]; exact h510
      have h590 : a577.eval (.tmp 12) = .bool (okI (goodI b1 a - goodI b2 b)) := by rw [ha578, put_ne _ _ _ _ (by decide)]; exact h511
      have h591 : a577.eval (.tmp 13) = pv q337 := by rw [ha578, put_ne _ _ _ _ (by decide)]; exact h512
      have h592 : a577.eval (.tmp 14) = .bool (okI (goodI b1 a - goodI b2 b)) := by rw [ha578, put_ne _ _ _ _ (by decide)]; exact h513
      have h593 : a577.eval (.tmp 15) = pv q425 := by rw [ha578, put_ne _ _ _ _ (by decide)]; exact h514
      have h594 : a577.eval (.tmp 16) = .bool (okI (goodI b1 a * goodI b2 b)) := by rw [ha578, put_ne _ _ _ _ (by decide)]; exact h515
      have h595 : a577.eval (.tmp 76) = .agg #[.bool (decide (capI (goodI b1 a * goodI b2 b) < 0)), sv A517 (canon (capI (goodI b1 a * goodI b2 b)).natAbs) cc518] := by rw [ha578, put_ne _ _ _ _ (by decide)]; exact h516
      have h596 : a577.eval (.tmp 77) = .bool (okI (goodI b1 a * goodI b2 b)) := by rw [ha578, put_ne _ _ _ _ (by decide)]; exact h520
      have h597 : a577.eval (.tmp 17) = pv q522 := by rw [ha578, put_ne _ _ _ _ (by decide)]; exact h521
      have h598 : a577.eval (.tmp 18) = .bool (okI (goodI b1 a * goodI b2 b)) := by rw [ha578]; exact put_same _ _ _ (by rw [hs500]; decide)
      show stepsTo _ _ _ _ _ (a496.put (some 18) (.bool (okI (goodI b1 a * goodI b2 b)))) _
      rw [← ha578]
      clear ha578 hs500 hd501 h502 h503 h504 h505 h506 h507 h508 h509 h510 h511 h512 h513 h514 h515 h516 h520 h521
      clear hne534
      clear hne535
      clear hne536
      clear hne537
      clear hne538
      clear hne539
      clear hne540
      clear hne541
      clear hne542
      refine st_nil ?_
      clear h595 h596
      refine hK495 _ _ ?_
      clear hK495 K495
      refine wp_seq_k fun K599 hK599 => ?_
      refine wp_seq_k fun K600 hK600 => ?_
      refine wp_g0 [true, true, true, true, true, true, true, true, true, true, true, true, true, true, true, true, true, true, true, true, true, true, true, true, true, true, true, true, true, true, true, true, true, true, true, true, true, true, true, true, true, true, true] [] 198
        [ve (.agg #[.bool (decide (capI (goodI b1 a + goodI b2 b) < 0)), sv A122 (canon (capI (goodI b1 a + goodI b2 b)).natAbs) cc123]),
         ve (.agg #[.bool (decide (capI (goodI b1 a + goodI b2 b) < 0)), sv A183 (canon (capI (goodI b1 a + goodI b2 b)).natAbs) cc184]),
         ve (.bool true),
         ve (.bool false),
         ve (.bool false),
         ve (.bool (okI (goodI b1 a + goodI b2 b))),
         ve (.bool (okI (goodI b1 a + goodI b2 b))),
         ve (.bool false),
         ve (.bool false),
         ve (.bool false),
         ve (.agg #[.bool (decide (capI (goodI b1 a - goodI b2 b) < 0)), sv A253 (canon (capI (goodI b1 a - goodI b2 b)).natAbs) cc254]),
         ve (.agg #[.bool (decide (capI (goodI b1 a - goodI b2 b) < 0)), sv A332 (canon (capI (goodI b1 a - goodI b2 b)).natAbs) cc333]),
         ve (.bool true),
         ve (.bool false),
         ve (.bool false),
         ve (.bool false),
         ve (.bool (okI (goodI b1 a - goodI b2 b))),
         ve (.bool (okI (goodI b1 a - goodI b2 b))),
         ve (.bool false),
         ve (.bool false),
         ve (.bool false),
         ve (.agg #[.bool (decide (capI (goodI b1 a * goodI b2 b) < 0)), sv A420 (canon (capI (goodI b1 a * goodI b2 b)).natAbs) cc421]),
         ve (.agg #[.bool (decide (capI (goodI b1 a * goodI b2 b) < 0)), sv A517 (canon (capI (goodI b1 a * goodI b2 b)).natAbs) cc518]),
         ve (.bool true),
         ve (.bool false),
         ve (.bool false),
         ve (.bool false),
         ve (.bool (okI (goodI b1 a * goodI b2 b))),
         ve (.bool (okI (goodI b1 a * goodI b2 b))),
         ve (.bool false),
         ve (.bool false),
         ve (.bool false),
         ve (.agg #[.bool b1, sv A59 a cc60]),
         ve (.agg #[.bool b1, sv A a c]),
         ve (.bool true),
         ve (.bool false),
         ve (.bool false),
         ve (.bool false),
         ve (.agg #[.bool b2, sv A63 b cc64]),
         ve (.agg #[.bool b2, sv B b d]),
         ve (.bool true),
         ve (.bool false),
         ve (.bool false)] hs579 (.eq (.eq (.eq (.eq (.eq (.eq (.eq (.eq (.eq (.eq (.eq (.eq (.eq (.eq (.eq (.eq (.eq (.eq (.eq (.eq (.eq (.eq (.eq (.eq (.eq (.eq (.eq (.eq (.eq (.eq (.eq (.eq (.eq (.eq (.eq (.eq (.eq (.eq (.eq (.eq (.eq (.eq (.eq (.nil)))))))))))))))))))))))))))))))))))))))))))) ?_ ?_
      · skip
        refine .o1 (tk rfl rfl fun _ w hn k => ⟨_, v_load rfl (k.fx 7 h585) (l_two Try.isAgg24 Try.sizeOf24 (hb571.new_ hn)), rfl⟩) ?_
        refine .o1 (tk rfl rfl fun _ w hn k => ⟨_, v_load rfl (k.fx 9 h587) (l_two Try.isAgg24 Try.sizeOf24 (hb572.new_ hn)), rfl⟩) ?_
        refine .o1 (ck rfl rfl rfl (fun _ w hn k => ⟨#[.agg #[.bool (decide (capI (goodI b1 a + goodI b2 b) < 0)), sv A122 (canon (capI (goodI b1 a + goodI b2 b)).natAbs) cc123], .agg #[.bool (decide (capI (goodI b1 a + goodI b2 b) < 0)), sv A183 (canon (capI (goodI b1 a + goodI b2 b)).natAbs) cc184]], args2 (k.eq1 0 78 rfl) (k.eq1 1 79 rfl), fun _ => by kernel_rfl, rbig_c _ _ _ _ _ _ _ _ _ (hr561.new_ hn) (hr562.new_ hn)⟩) fun _ => congrArg Value.bool (by simp)) ?_
        refine .o1 (tk rfl rfl fun _ w hn k => ⟨_, v_not rfl (k.eq1 2 80 rfl), rfl⟩) ?_
        refine .o1 (tk rfl rfl fun _ w hn k => ⟨_, v_move rfl (k.eq1 3 81 rfl), rfl⟩) ?_
        refine .o1 (tg rfl rfl rfl (fun _ _ k => k.eq1 4 82 rfl) fun _ w hn k => ⟨_, v_move rfl (k.fx 8 h586), rfl⟩) ?_
        refine .o1 (tg rfl rfl rfl (fun _ _ k => k.eq1 4 82 rfl) fun _ w hn k => ⟨_, v_move rfl (k.fx 10 h588), rfl⟩) ?_
        refine .o1 (tg rfl rfl rfl (fun _ _ k => k.eq1 4 82 rfl) fun _ w hn k => ⟨_, v_bin rfl (k.eq1 5 83 rfl) (k.eq1 6 84 rfl) (fun _ => rfl) (self_neqB _), rfl⟩) ?_
        refine .o1 (tk rfl rfl fun _ w hn k => ⟨_, v_pickF rfl (k.eq1 4 82 rfl) (k.eq1 7 85 rfl), rfl⟩) ?_
        refine .o1 (tk rfl rfl fun _ w hn k => ⟨_, v_move rfl (k.eq1 8 86 rfl), rfl⟩) ?_
        refine .o1 (tg rfl rfl rfl (fun _ _ k => k.eq1 9 87 rfl) fun _ w hn k => ⟨_, v_load rfl (k.fx 11 h589) (l_two Try.isAgg24 Try.sizeOf24 (hb573.new_ hn)), rfl⟩) ?_
        refine .o1 (tg rfl rfl rfl (fun _ _ k => k.eq1 9 87 rfl) fun _ w hn k => ⟨_, v_load rfl (k.fx 13 h591) (l_two Try.isAgg24 Try.sizeOf24 (hb574.new_ hn)), rfl⟩) ?_
        refine .o1 (cg rfl rfl rfl (fun _ _ k => k.eq1 9 87 rfl) rfl (fun _ w hn k => ⟨#[.agg #[.bool (decide (capI (goodI b1 a - goodI b2 b) < 0)), sv A253 (canon (capI (goodI b1 a - goodI b2 b)).natAbs) cc254], .agg #[.bool (decide (capI (goodI b1 a - goodI b2 b) < 0)), sv A332 (canon (capI (goodI b1 a - goodI b2 b)).natAbs) cc333]], args2 (k.eq1 10 88 rfl) (k.eq1 11 89 rfl), fun _ => by kernel_rfl, rbig_c _ _ _ _ _ _ _ _ _ (hr563.new_ hn) (hr564.new_ hn)⟩) fun _ => congrArg Value.bool (by simp)) ?_
        refine .o1 (tg rfl rfl rfl (fun _ _ k => k.eq1 9 87 rfl) fun _ w hn k => ⟨_, v_not rfl (k.eq1 12 90 rfl), rfl⟩) ?_
        refine .o1 (tk rfl rfl fun _ w hn k => ⟨_, v_pickF rfl (k.eq1 9 87 rfl) (k.eq1 13 91 rfl), rfl⟩) ?_
        refine .o1 (tk rfl rfl fun _ w hn k => ⟨_, v_move rfl (k.eq1 14 92 rfl), rfl⟩) ?_
        refine .o1 (tg rfl rfl rfl (fun _ _ k => k.eq1 15 93 rfl) fun _ w hn k => ⟨_, v_move rfl (k.fx 12 h590), rfl⟩) ?_
        refine .o1 (tg rfl rfl rfl (fun _ _ k => k.eq1 15 93 rfl) fun _ w hn k => ⟨_, v_move rfl (k.fx 14 h592), rfl⟩) ?_
        refine .o1 (tg rfl rfl rfl (fun _ _ k => k.eq1 15 93 rfl) fun _ w hn k => ⟨_, v_bin rfl (k.eq1 16 94 rfl) (k.eq1 17 95 rfl) (fun _ => rfl) (self_neqB _), rfl⟩) ?_
        refine .o1 (tk rfl rfl fun _ w hn k => ⟨_, v_pickF rfl (k.eq1 15 93 rfl) (k.eq1 18 96 rfl), rfl⟩) ?_
        refine .o1 (tk rfl rfl fun _ w hn k => ⟨_, v_move rfl (k.eq1 19 97 rfl), rfl⟩) ?_
        refine .o1 (tg rfl rfl rfl (fun _ _ k => k.eq1 20 98 rfl) fun _ w hn k => ⟨_, v_load rfl (k.fx 15 h593) (l_two Try.isAgg24 Try.sizeOf24 (hb575.new_ hn)), rfl⟩) ?_
        refine .o1 (tg rfl rfl rfl (fun _ _ k => k.eq1 20 98 rfl) fun _ w hn k => ⟨_, v_load rfl (k.fx 17 h597) (l_two Try.isAgg24 Try.sizeOf24 (hb554.new_ hn)), rfl⟩) ?_
        refine .o1 (cg rfl rfl rfl (fun _ _ k => k.eq1 20 98 rfl) rfl (fun _ w hn k => ⟨#[.agg #[.bool (decide (capI (goodI b1 a * goodI b2 b) < 0)), sv A420 (canon (capI (goodI b1 a * goodI b2 b)).natAbs) cc421], .agg #[.bool (decide (capI (goodI b1 a * goodI b2 b) < 0)), sv A517 (canon (capI (goodI b1 a * goodI b2 b)).natAbs) cc518]], args2 (k.eq1 21 99 rfl) (k.eq1 22 100 rfl), fun _ => by kernel_rfl, rbig_c _ _ _ _ _ _ _ _ _ (hr565.new_ hn) (hr566.new_ hn)⟩) fun _ => congrArg Value.bool (by simp)) ?_
        refine .o1 (tg rfl rfl rfl (fun _ _ k => k.eq1 20 98 rfl) fun _ w hn k => ⟨_, v_not rfl (k.eq1 23 101 rfl), rfl⟩) ?_
        refine .o1 (tk rfl rfl fun _ w hn k => ⟨_, v_pickF rfl (k.eq1 20 98 rfl) (k.eq1 24 102 rfl), rfl⟩) ?_
        refine .o1 (tk rfl rfl fun _ w hn k => ⟨_, v_move rfl (k.eq1 25 103 rfl), rfl⟩) ?_
        refine .o1 (tg rfl rfl rfl (fun _ _ k => k.eq1 26 104 rfl) fun _ w hn k => ⟨_, v_move rfl (k.fx 16 h594), rfl⟩) ?_
        refine .o1 (tg rfl rfl rfl (fun _ _ k => k.eq1 26 104 rfl) fun _ w hn k => ⟨_, v_move rfl (k.fx 18 h598), rfl⟩) ?_
        refine .o1 (tg rfl rfl rfl (fun _ _ k => k.eq1 26 104 rfl) fun _ w hn k => ⟨_, v_bin rfl (k.eq1 27 105 rfl) (k.eq1 28 106 rfl) (fun _ => rfl) (self_neqB _), rfl⟩) ?_
        refine .o1 (tk rfl rfl fun _ w hn k => ⟨_, v_pickF rfl (k.eq1 26 104 rfl) (k.eq1 29 107 rfl), rfl⟩) ?_
        refine .o1 (tk rfl rfl fun _ w hn k => ⟨_, v_move rfl (k.eq1 30 108 rfl), rfl⟩) ?_
        refine .o1 (tg rfl rfl rfl (fun _ _ k => k.eq1 31 109 rfl) fun _ w hn k => ⟨_, v_load rfl (k.fx 5 h583) (l_two Try.isAgg24 Try.sizeOf24 (hb569.new_ hn)), rfl⟩) ?_
        refine .o1 (tg rfl rfl rfl (fun _ _ k => k.eq1 31 109 rfl) fun _ w hn k => ⟨_, v_load rfl (k.fx 2 h581) (l_two Try.isAgg24 Try.sizeOf24 (hb567.new_ hn)), rfl⟩) ?_
        refine .o1 (cg rfl rfl rfl (fun _ _ k => k.eq1 31 109 rfl) rfl (fun _ w hn k => ⟨#[.agg #[.bool b1, sv A59 a cc60], .agg #[.bool b1, sv A a c]], args2 (k.eq1 32 110 rfl) (k.eq1 33 111 rfl), fun _ => by kernel_rfl, rbig_c _ _ _ _ _ _ _ _ _ (hr559.new_ hn) (hra.new_ (hN576.transNew hn))⟩) fun _ => congrArg Value.bool (by simp)) ?_
        refine .o1 (tg rfl rfl rfl (fun _ _ k => k.eq1 31 109 rfl) fun _ w hn k => ⟨_, v_not rfl (k.eq1 34 112 rfl), rfl⟩) ?_
        refine .o1 (tk rfl rfl fun _ w hn k => ⟨_, v_pickF rfl (k.eq1 31 109 rfl) (k.eq1 35 113 rfl), rfl⟩) ?_
        refine .o1 (tk rfl rfl fun _ w hn k => ⟨_, v_move rfl (k.eq1 36 114 rfl), rfl⟩) ?_
        refine .o1 (tg rfl rfl rfl (fun _ _ k => k.eq1 37 115 rfl) fun _ w hn k => ⟨_, v_load rfl (k.fx 6 h584) (l_two Try.isAgg24 Try.sizeOf24 (hb570.new_ hn)), rfl⟩) ?_
        refine .o1 (tg rfl rfl rfl (fun _ _ k => k.eq1 37 115 rfl) fun _ w hn k => ⟨_, v_load rfl (k.fx 3 h582) (l_two Try.isAgg24 Try.sizeOf24 (hb568.new_ hn)), rfl⟩) ?_
        refine .o1 (cg rfl rfl rfl (fun _ _ k => k.eq1 37 115 rfl) rfl (fun _ w hn k => ⟨#[.agg #[.bool b2, sv A63 b cc64], .agg #[.bool b2, sv B b d]], args2 (k.eq1 38 116 rfl) (k.eq1 39 117 rfl), fun _ => by kernel_rfl, rbig_c _ _ _ _ _ _ _ _ _ (hr560.new_ hn) (hrb.new_ (hN576.transNew hn))⟩) fun _ => congrArg Value.bool (by simp)) ?_
        refine .o1 (tg rfl rfl rfl (fun _ _ k => k.eq1 37 115 rfl) fun _ w hn k => ⟨_, v_not rfl (k.eq1 40 118 rfl), rfl⟩) ?_
        refine .o1 (tk rfl rfl fun _ w hn k => ⟨_, v_pickF rfl (k.eq1 37 115 rfl) (k.eq1 41 119 rfl), rfl⟩) ?_
        exact .nil
      intro a601 w602 hn603 ha604
      have hs605 := ha604.size.trans hs579
      have hd606 := ha604.defers.trans hd580
      have h607 := ha604.fx 2 h581
      have h608 := ha604.fx 3 h582
      have h609 := ha604.fx 5 h583
      have h610 := ha604.fx 6 h584
      have h611 := ha604.ge 42 120 rfl
      have hb612 := hb567.new_ hn603
      have hb613 := hb568.new_ hn603
      have hb614 := hb569.new_ hn603
      have hb615 := hb570.new_ hn603
      have hr616 := hr559.new_ hn603
      have hr617 := hr560.new_ hn603
      have hN618 := hN576.transNew hn603
      clear hs579 hd580 h581 h582 h583 h584 h585 h586 h587 h588 h589 h590 h591 h592 h593 h594 h597 h598 hb567 hb568 hb569 hb570 hb571 hq138 hb572 hq201 hb573 hq273 hb574 hq354 hb575 hq444 hb554 hq543 hr559 hr560 hr561 hr562 hr563 hr564 hr565 hr566 hN576 ha604 hn603
      refine st_nil ?_
      refine hK600 _ _ ?_
      clear hK600 K600
      refine wp_cond_false h611 ?_
      refine wp_skip ?_
      refine hK599 _ _ ?_
      clear hK599 K599
      refine wp_seq_k fun K619 hK619 => ?_
      refine wp_gS (fun W => True) (fun W W' hn h => trivial) trivial [true, true, true, true, true, true, true, false, false] [5] [(7, false), (8, true)] 198
        [ve (.agg #[.bool b1, sv A59 a cc60]),
         ve (.agg #[.bool b2, sv A63 b cc64]),
         (fun (v : Value) (W : World) => ∃ (A163 : Option Addr) (c164 : Nat), v = .tuple #[.agg #[.bool (decide (divZ (goodI b1 a) (goodI b2 b) < 0)), sv A163 (canon (divZ (goodI b1 a) (goodI b2 b)).natAbs) c164], iv (zeroE (goodI b2 b))] ∧ SRow W .u32 A163 (canon (divZ (goodI b1 a) (goodI b2 b)).natAbs) c164),
         (fun (v : Value) (W : World) => ∃ (A169 : Option Addr) (c170 : Nat), v = .tuple #[.agg #[.bool (decide (divZ (goodI b1 a) (goodI b2 b) < 0)), sv A169 (canon (divZ (goodI b1 a) (goodI b2 b)).natAbs) c170], iv (zeroE (goodI b2 b))] ∧ SRow W .u32 A169 (canon (divZ (goodI b1 a) (goodI b2 b)).natAbs) c170),
         (fun (v : Value) (W : World) => ∃ (A175 : Option Addr) (c176 : Nat), v = .agg #[.bool (decide (divZ (goodI b1 a) (goodI b2 b) < 0)), sv A175 (canon (divZ (goodI b1 a) (goodI b2 b)).natAbs) c176] ∧ SRow W .u32 A175 (canon (divZ (goodI b1 a) (goodI b2 b)).natAbs) c176),
         ve (iv (zeroE (goodI b2 b))),
         IsNew w602 24 [.bool false, sv none ([]) 0],
         vt,
         vt]
        [6] (newsCons (fun v w h => IsNew.old h) newsNil) hs605 (.eq (.eq (.cons (fun v W W' hn ⟨A163, c164, he, h0⟩ => ⟨A163, c164, he, h0.new_ hn⟩) (.cons (fun v W W' hn ⟨A169, c170, he, h0⟩ => ⟨A169, c170, he, h0.new_ hn⟩) (.cons (fun v W W' hn ⟨A175, c176, he, h0⟩ => ⟨A175, c176, he, h0.new_ hn⟩) (.eq (.nw (.tt (.tt (.nil)))))))))) ?_ ?_ ?_
      · skip
        refine .o1 (tk rfl rfl fun _ w hn k => ⟨_, v_load rfl (k.fx 5 h609) (l_two Try.isAgg24 Try.sizeOf24 (hb614.new_ hn)), rfl⟩) ?_
        refine .o1 (tk rfl rfl fun _ w hn k => ⟨_, v_load rfl (k.fx 6 h610) (l_two Try.isAgg24 Try.sizeOf24 (hb615.new_ hn)), rfl⟩) ?_
        refine .o1 (tkC rfl (noG rfl) rfl fun _ w hn k => (by
              refine ⟨#[.agg #[.bool b1, sv A59 a cc60], .agg #[.bool b2, sv A63 b cc64]], _, args2 (k.eq1 0 122 rfl) (k.eq1 1 123 rfl), fun w => by kernel_rfl, bDiv_c _ _ _ _ _ _ _ _ _ (hr616.new_ hn) ha (hr617.new_ hn) hb, ?_⟩
              rintro e w' ⟨A161, c162, rfl, hmo, hm⟩
              exact ⟨_, rfl, hm, ⟨A161, c162, rfl, hmo⟩⟩)) ?_
        refine .o1 (tk rfl rfl fun _ w hn k => (by
              obtain ⟨A165, c166, e167, hx168⟩ : (fun (v : Value) (W : World) => ∃ (A163 : Option Addr) (c164 : Nat), v = .tuple #[.agg #[.bool (decide (divZ (goodI b1 a) (goodI b2 b) < 0)), sv A163 (canon (divZ (goodI b1 a) (goodI b2 b)).natAbs) c164], iv (zeroE (goodI b2 b))] ∧ SRow W .u32 A163 (canon (divZ (goodI b1 a) (goodI b2 b)).natAbs) c164) _ _ := k.dep 2 124 (by kernel_rfl) (by kernel_rfl)
              exact ⟨_, v_move rfl e167, ⟨A165, c166, rfl, hx168⟩⟩)) ?_
        refine .o1 (tk rfl rfl fun _ w hn k => (by
              obtain ⟨A171, c172, e173, hx174⟩ : (fun (v : Value) (W : World) => ∃ (A169 : Option Addr) (c170 : Nat), v = .tuple #[.agg #[.bool (decide (divZ (goodI b1 a) (goodI b2 b) < 0)), sv A169 (canon (divZ (goodI b1 a) (goodI b2 b)).natAbs) c170], iv (zeroE (goodI b2 b))] ∧ SRow W .u32 A169 (canon (divZ (goodI b1 a) (goodI b2 b)).natAbs) c170) _ _ := k.dep 3 121 (by kernel_rfl) (by kernel_rfl)
              exact ⟨_, v_extract rfl e173 rfl, ⟨A171, c172, rfl, hx174⟩⟩)) ?_
        refine .o3 ?_
        refine .o2 (step_allocN (cs := [.bool false, sv none ([]) 0]) (t := 24) rfl (noG rfl) (fun _ w hn k => rfl) (fun q _ hq hb => ⟨q, rfl, hq, hb⟩)) ?_
        refine .off ?_
        refine .off ?_
        exact .nil
      · skip
        intro i h
        simp only [List.contains_eq_mem, List.mem_cons, List.not_mem_nil, or_false, decide_eq_true_eq] at h
        subst h
        · exact eager_takeG rfl (noG rfl) fun _ w hn k => (by
              obtain ⟨A177, c178, e179, hx180⟩ : (fun (v : Value) (W : World) => ∃ (A169 : Option Addr) (c170 : Nat), v = .tuple #[.agg #[.bool (decide (divZ (goodI b1 a) (goodI b2 b) < 0)), sv A169 (canon (divZ (goodI b1 a) (goodI b2 b)).natAbs) c170], iv (zeroE (goodI b2 b))] ∧ SRow W .u32 A169 (canon (divZ (goodI b1 a) (goodI b2 b)).natAbs) c170) _ _ := k.dep 3 121 (by kernel_rfl) (by kernel_rfl)
              exact ⟨_, fun w hS => v_extract rfl e179 rfl, rfl⟩)
      intro a620 w621 _ hn622 ha623
      have hs624 := ha623.size.trans hs605
      have hd625 := ha623.defers.trans hd606
      have h626 := ha623.fx 2 h607
      have h627 := ha623.fx 3 h608
      have h628 := ha623.fx 5 h609
      have h629 := ha623.fx 6 h610
      obtain ⟨A631, cc632, h630, hr633⟩ : (fun (v : Value) (W : World) => ∃ (A175 : Option Addr) (c176 : Nat), v = .agg #[.bool (decide (divZ (goodI b1 a) (goodI b2 b) < 0)), sv A175 (canon (divZ (goodI b1 a) (goodI b2 b)).natAbs) c176] ∧ SRow W .u32 A175 (canon (divZ (goodI b1 a) (goodI b2 b)).natAbs) c176) _ _ := ha623.got 4 125 rfl (by kernel_rfl)
      have h630 : a620.eval (.tmp 125) = .agg #[.bool (decide (divZ (goodI b1 a) (goodI b2 b) < 0)), sv A631 (canon (divZ (goodI b1 a) (goodI b2 b)).natAbs) cc632] := h630
      have h634 := ha623.ge 5 126 rfl
      obtain ⟨q636, h635, hq637, hb638⟩ : IsNew _ _ _ _ _ := ha623.got 6 19 rfl (by kernel_rfl)
      have hb639 := hb612.new_ hn622
      have hb640 := hb613.new_ hn622
      have hb641 := hb614.new_ hn622
      have hb642 := hb615.new_ hn622
      have hne643 : q9 ≠ q636 := by have h1 := hb612.lt; have h2 := hq637; omega
      have hne644 : q13 ≠ q636 := by have h1 := hb613.lt; have h2 := hq637; omega
      have hne645 : q67 ≠ q636 := by have h1 := hb614.lt; have h2 := hq637; omega
      have hne646 : q71 ≠ q636 := by have h1 := hb615.lt; have h2 := hq637; omega
      have hq647 := Nat.le_trans hN618.size hq637
      have hr648 := hr616.new_ hn622
      have hr649 := hr617.new_ hn622
      have hN650 := hN618.transNew hn622
      clear hs605 hd606 h607 h608 h609 h610 h611 hb612 hb613 hb614 hb615 hq637 hr616 hr617 hN618 ha623 hn622
      obtain ⟨w651, -, hst652, hb653, hu654, hf655⟩ := s_two (v0 := .bool (decide (divZ (goodI b1 a) (goodI b2 b) < 0))) (v1 := sv A631 (canon (divZ (goodI b1 a) (goodI b2 b)).natAbs) cc632) Try.sizeOf24 rfl rfl rfl hb638
      refine st_act rfl rfl fun K656 hL657 => a_store' rfl h635 h630 hst652 (hL657 _ _ trivial ?_)
      have hr658 := hr648.far hb638 hu654 (by first | rfl | decide | simp [notK])
      have hr659 := hr649.far hb638 hu654 (by first | rfl | decide | simp [notK])
      have hr660 := hr633.far hb638 hu654 (by first | rfl | decide | simp [notK])
      have hb661 := hf655 _ _ _ (hne643) hb639
      have hb662 := hf655 _ _ _ (hne644) hb640
      have hb663 := hf655 _ _ _ (hne645) hb641
      have hb664 := hf655 _ _ _ (hne646) hb642
      have hN665 := hN650.trans hu654 (fun k hk hkb => by subst hkb; omega)
      clear hb638 hst652 K656 hL657 hN650 hr648 hr649 hr633 hb639 hb640 hb641 hb642 hu654 hf655
      refine st_take rfl rfl (y_assign (v := iv (zeroE (goodI b2 b))) rfl h634) rfl ?_
      obtain ⟨a666, ha667⟩ : ∃ a', a' = a620.put (some 20) (iv (zeroE (goodI b2 b))) := ⟨_, rfl⟩
      have hs668 : a666.tmps.size = 198 := by rw [ha667, put_size]; exact hs624
      have hd669 : a666.defers = [] := by rw [ha667, put_defers]; exact hd625
      have h670 : a666.eval (.tmp 2) = pv q9 := by rw [ha667, put_ne _ _ _ _ (by decide)]; exact h626
      have h671 : a666.eval (.tmp 3) = pv q13 := by rw [ha667, put_ne _ _ _ _ (by decide)]; exact h627
      have h672 : a666.eval (.tmp 5) = pv q67 := by rw [ha667, put_ne _ _ _ _ (by decide)]; exact h628
      have h673 : a666.eval (.tmp 6) = pv q71 := by rw [ha667, put_ne _ _ _ _ (by decide)]; exact h629
      have h674 : a666.eval (.tmp 125) = .agg #[.bool (decide (divZ (goodI b1 a) (goodI b2 b) < 0)), sv A631 (canon (divZ (goodI b1 a) (goodI b2 b)).natAbs) cc632] := by rw [ha667, put_ne _ _ _ _ (by decide)]; exact h630
      have h675 : a666.eval (.tmp 126) = iv (zeroE (goodI b2 b)) := by rw [ha667, put_ne _ _ _ _ (by decide)]; exact h634
      have h676 : a666.eval (.tmp 19) = pv q636 := by rw [ha667, put_ne _ _ _ _ (by decide)]; exact h635
      have h677 : a666.eval (.tmp 20) = iv (zeroE (goodI b2 b)) := by rw [ha667]; exact put_same _ _ _ (by rw [hs624]; decide)
      show stepsTo _ _ _ _ _ (a620.put (some 20) (iv (zeroE (goodI b2 b)))) _
      rw [← ha667]
      clear ha667 hs624 hd625 h626 h627 h628 h629 h630 h634 h635
      clear hne643
      clear hne644
      clear hne645
      clear hne646
      refine st_nil ?_
      clear h674 h675
      refine hK619 _ _ ?_
      clear hK619 K619
      refine wp_seq_k fun K678 hK678 => ?_
      refine wp_gS (fun W => True) (fun W W' hn h => trivial) trivial [true, true, true, true, true, true, true, false, false] [5] [(7, false), (8, true)] 198
        [ve (.agg #[.bool b1, sv A a c]),
         ve (.agg #[.bool b2, sv B b d]),
         (fun (v : Value) (W : World) => ∃ (A187 : Option Addr) (c188 : Nat), v = .tuple #[.agg #[.bool (decide (divZ (goodI b1 a) (goodI b2 b) < 0)), sv A187 (canon (divZ (goodI b1 a) (goodI b2 b)).natAbs) c188], iv (zeroE (goodI b2 b))] ∧ SRow W .u32 A187 (canon (divZ (goodI b1 a) (goodI b2 b)).natAbs) c188),
         (fun (v : Value) (W : World) => ∃ (A193 : Option Addr) (c194 : Nat), v = .tuple #[.agg #[.bool (decide (divZ (goodI b1 a) (goodI b2 b) < 0)), sv A193 (canon (divZ (goodI b1 a) (goodI b2 b)).natAbs) c194], iv (zeroE (goodI b2 b))] ∧ SRow W .u32 A193 (canon (divZ (goodI b1 a) (goodI b2 b)).natAbs) c194),
         (fun (v : Value) (W : World) => ∃ (A199 : Option Addr) (c200 : Nat), v = .agg #[.bool (decide (divZ (goodI b1 a) (goodI b2 b) < 0)), sv A199 (canon (divZ (goodI b1 a) (goodI b2 b)).natAbs) c200] ∧ SRow W .u32 A199 (canon (divZ (goodI b1 a) (goodI b2 b)).natAbs) c200),
         ve (iv (zeroE (goodI b2 b))),
         IsNew w651 24 [.bool false, sv none ([]) 0],
         vt,
         vt]
        [6] (newsCons (fun v w h => IsNew.old h) newsNil) hs668 (.eq (.eq (.cons (fun v W W' hn ⟨A187, c188, he, h0⟩ => ⟨A187, c188, he, h0.new_ hn⟩) (.cons (fun v W W' hn ⟨A193, c194, he, h0⟩ => ⟨A193, c194, he, h0.new_ hn⟩) (.cons (fun v W W' hn ⟨A199, c200, he, h0⟩ => ⟨A199, c200, he, h0.new_ hn⟩) (.eq (.nw (.tt (.tt (.nil)))))))))) ?_ ?_ ?_
      · skip
        refine .o1 (tk rfl rfl fun _ w hn k => ⟨_, v_load rfl (k.fx 2 h670) (l_two Try.isAgg24 Try.sizeOf24 (hb661.new_ hn)), rfl⟩) ?_
        refine .o1 (tk rfl rfl fun _ w hn k => ⟨_, v_load rfl (k.fx 3 h671) (l_two Try.isAgg24 Try.sizeOf24 (hb662.new_ hn)), rfl⟩) ?_
        refine .o1 (tkC rfl (noG rfl) rfl fun _ w hn k => (by
              refine ⟨#[.agg #[.bool b1, sv A a c], .agg #[.bool b2, sv B b d]], _, args2 (k.eq1 0 128 rfl) (k.eq1 1 129 rfl), fun w => by kernel_rfl, rdiv_c _ _ _ _ _ _ _ _ _ (hra.new_ (hN665.transNew hn)) ha (hrb.new_ (hN665.transNew hn)) hb, ?_⟩
              rintro e w' ⟨A185, c186, rfl, hmo, hm⟩
              exact ⟨_, rfl, hm, ⟨A185, c186, rfl, hmo⟩⟩)) ?_
        refine .o1 (tk rfl rfl fun _ w hn k => (by
              obtain ⟨A189, c190, e191, hx192⟩ : (fun (v : Value) (W : World) => ∃ (A187 : Option Addr) (c188 : Nat), v = .tuple #[.agg #[.bool (decide (divZ (goodI b1 a) (goodI b2 b) < 0)), sv A187 (canon (divZ (goodI b1 a) (goodI b2 b)).natAbs) c188], iv (zeroE (goodI b2 b))] ∧ SRow W .u32 A187 (canon (divZ (goodI b1 a) (goodI b2 b)).natAbs) c188) _ _ := k.dep 2 130 (by kernel_rfl) (by kernel_rfl)
              exact ⟨_, v_move rfl e191, ⟨A189, c190, rfl, hx192⟩⟩)) ?_
        refine .o1 (tk rfl rfl fun _ w hn k => (by
              obtain ⟨A195, c196, e197, hx198⟩ : (fun (v : Value) (W : World) => ∃ (A193 : Option Addr) (c194 : Nat), v = .tuple #[.agg #[.bool (decide (divZ (goodI b1 a) (goodI b2 b) < 0)), sv A193 (canon (divZ (goodI b1 a) (goodI b2 b)).natAbs) c194], iv (zeroE (goodI b2 b))] ∧ SRow W .u32 A193 (canon (divZ (goodI b1 a) (goodI b2 b)).natAbs) c194) _ _ := k.dep 3 127 (by kernel_rfl) (by kernel_rfl)
              exact ⟨_, v_extract rfl e197 rfl, ⟨A195, c196, rfl, hx198⟩⟩)) ?_
        refine .o3 ?_
        refine .o2 (step_allocN (cs := [.bool false, sv none ([]) 0]) (t := 24) rfl (noG rfl) (fun _ w hn k => rfl) (fun q _ hq hb => ⟨q, rfl, hq, hb⟩)) ?_
        refine .off ?_
        refine .off ?_
        exact .nil
      · skip
        intro i h
        simp only [List.contains_eq_mem, List.mem_cons, List.not_mem_nil, or_false, decide_eq_true_eq] at h
        subst h
        · exact eager_takeG rfl (noG rfl) fun _ w hn k => (by
              obtain ⟨A201, c202, e203, hx204⟩ : (fun (v : Value) (W : World) => ∃ (A193 : Option Addr) (c194 : Nat), v = .tuple #[.agg #[.bool (decide (divZ (goodI b1 a) (goodI b2 b) < 0)), sv A193 (canon (divZ (goodI b1 a) (goodI b2 b)).natAbs) c194], iv (zeroE (goodI b2 b))] ∧ SRow W .u32 A193 (canon (divZ (goodI b1 a) (goodI b2 b)).natAbs) c194) _ _ := k.dep 3 127 (by kernel_rfl) (by kernel_rfl)
              exact ⟨_, fun w hS => v_extract rfl e203 rfl, rfl⟩)
      intro a679 w680 _ hn681 ha682
      have hs683 := ha682.size.trans hs668
      have hd684 := ha682.defers.trans hd669
      have h685 := ha682.fx 2 h670
      have h686 := ha682.fx 3 h671
      have h687 := ha682.fx 5 h672
      have h688 := ha682.fx 6 h673
      have h689 := ha682.fx 19 h676
      have h690 := ha682.fx 20 h677
      obtain ⟨A692, cc693, h691, hr694⟩ : (fun (v : Value) (W : World) => ∃ (A199 : Option Addr) (c200 : Nat), v = .agg #[.bool (decide (divZ (goodI b1 a) (goodI b2 b) < 0)), sv A199 (canon (divZ (goodI b1 a) (goodI b2 b)).natAbs) c200] ∧ SRow W .u32 A199 (canon (divZ (goodI b1 a) (goodI b2 b)).natAbs) c200) _ _ := ha682.got 4 131 rfl (by kernel_rfl)
      have h691 : a679.eval (.tmp 131) = .agg #[.bool (decide (divZ (goodI b1 a) (goodI b2 b) < 0)), sv A692 (canon (divZ (goodI b1 a) (goodI b2 b)).natAbs) cc693] := h691
      have h695 := ha682.ge 5 132 rfl
      obtain ⟨q697, h696, hq698, hb699⟩ : IsNew _ _ _ _ _ := ha682.got 6 21 rfl (by kernel_rfl)
      have hb700 := hb661.new_ hn681
      have hb701 := hb662.new_ hn681
      have hb702 := hb663.new_ hn681
      have hb703 := hb664.new_ hn681
      have hb704 := hb653.new_ hn681
      have hne705 : q9 ≠ q697 := by have h1 := hb661.lt; have h2 := hq698; omega
      have hne706 : q13 ≠ q697 := by have h1 := hb662.lt; have h2 := hq698; omega
      have hne707 : q67 ≠ q697 := by have h1 := hb663.lt; have h2 := hq698; omega
      have hne708 : q71 ≠ q697 := by have h1 := hb664.lt; have h2 := hq698; omega
      have hne709 : q636 ≠ q697 := by have h1 := hb653.lt; have h2 := hq698; omega
      have hq710 := Nat.le_trans hN665.size hq698
      have hr711 := hr658.new_ hn681
      have hr712 := hr659.new_ hn681
      have hr713 := hr660.new_ hn681
      have hN714 := hN665.transNew hn681
      clear hs668 hd669 h670 h671 h672 h673 h676 h677 hb661 hb662 hb663 hb664 hb653 hq698 hr658 hr659 hr660 hN665 ha682 hn681
      obtain ⟨w715, -, hst716, hb717, hu718, hf719⟩ := s_two (v0 := .bool (decide (divZ (goodI b1 a) (goodI b2 b) < 0))) (v1 := sv A692 (canon (divZ (goodI b1 a) (goodI b2 b)).natAbs) cc693) Try.sizeOf24 rfl rfl rfl hb699
      refine st_act rfl rfl fun K720 hL721 => a_store' rfl h696 h691 hst716 (hL721 _ _ trivial ?_)
      have hr722 := hr711.far hb699 hu718 (by first | rfl | decide | simp [notK])
      have hr723 := hr712.far hb699 hu718 (by first | rfl | decide | simp [notK])
      have hr724 := hr713.far hb699 hu718 (by first | rfl | decide | simp [notK])
      have hr725 := hr694.far hb699 hu718 (by first | rfl | decide | simp [notK])
      have hb726 := hf719 _ _ _ (hne705) hb700
      have hb727 := hf719 _ _ _ (hne706) hb701
      have hb728 := hf719 _ _ _ (hne707) hb702
      have hb729 := hf719 _ _ _ (hne708) hb703
      have hb730 := hf719 _ _ _ (hne709) hb704
      have hN731 := hN714.trans hu718 (fun k hk hkb => by subst hkb; omega)
      clear hb699 hst716 K720 hL721 hN714 hr711 hr712 hr713 hr694 hb700 hb701 hb702 hb703 hb704 hu718 hf719
      refine st_take rfl rfl (y_assign (v := iv (zeroE (goodI b2 b))) rfl h695) rfl ?_
      obtain ⟨a732, ha733⟩ : ∃ a', a' = a679.put (some 22) (iv (zeroE (goodI b2 b))) := ⟨_, rfl⟩
      have hs734 : a732.tmps.size = 198 := by rw [ha733, put_size]; exact hs683
      have hd735 : a732.defers = [] := by rw [ha733, put_defers]; exact hd684
      have h736 : a732.eval (.tmp 2) = pv q9 := by rw [ha733, put_ne _ _ _ _ (by decide)]; exact h685
      have h737 : a732.eval (.tmp 3) = pv q13 := by rw [ha733, put_ne _ _ _ _ (by decide)]; exact h686
      have h738 : a732.eval (.tmp 5) = pv q67 := by rw [ha733, put_ne _ _ _ _ (by decide)]; exact h687
      have h739 : a732.eval (.tmp 6) = pv q71 := by rw [ha733, put_ne _ _ _ _ (by decide)]; exact h688
      have h740 : a732.eval (.tmp 19) = pv q636 := by rw [ha733, put_ne _ _ _ _ (by decide)]; exact h689
      have h741 : a732.eval (.tmp 20) = iv (zeroE (goodI b2 b)) := by rw [ha733, put_ne _ _ _ _ (by decide)]; exact h690
      have h742 : a732.eval (.tmp 131) = .agg #[.bool (decide (divZ (goodI b1 a) (goodI b2 b) < 0)), sv A692 (canon (divZ (goodI b1 a) (goodI b2 b)).natAbs) cc693] := by rw [ha733, put_ne _ _ _ _ (by decide)]; exact h691
      have h743 : a732.eval (.tmp 132) = iv (zeroE (goodI b2 b)) := by rw [ha733, put_ne _ _ _ _ (by decide)]; exact h695
      have h744 : a732.eval (.tmp 21) = pv q697 := by rw [ha733, put_ne _ _ _ _ (by decide)]; exact h696
      have h745 : a732.eval (.tmp 22) = iv (zeroE (goodI b2 b)) := by rw [ha733]; exact put_same _ _ _ (by rw [hs683]; decide)
      show stepsTo _ _ _ _ _ (a679.put (some 22) (iv (zeroE (goodI b2 b)))) _
      rw [← ha733]
      clear ha733 hs683 hd684 h685 h686 h687 h688 h689 h690 h691 h695 h696
      clear hne705
      clear hne706
      clear hne707
      clear hne708
      clear hne709
      refine st_nil ?_
      clear h742 h743
      refine hK678 _ _ ?_
      clear hK678 K678
      refine wp_seq_k fun K746 hK746 => ?_
      refine wp_gS (fun W => True) (fun W W' hn h => trivial) trivial [true, true, true, true, true, true, true, false, false] [5] [(7, false), (8, true)] 198
        [ve (.agg #[.bool b1, sv A59 a cc60]),
         ve (.agg #[.bool b2, sv A63 b cc64]),
         (fun (v : Value) (W : World) => ∃ (A211 : Option Addr) (c212 : Nat), v = .tuple #[.agg #[.bool (decide (remZ (goodI b1 a) (goodI b2 b) < 0)), sv A211 (canon (remZ (goodI b1 a) (goodI b2 b)).natAbs) c212], iv (zeroE (goodI b2 b))] ∧ SRow W .u32 A211 (canon (remZ (goodI b1 a) (goodI b2 b)).natAbs) c212),
         (fun (v : Value) (W : World) => ∃ (A217 : Option Addr) (c218 : Nat), v = .tuple #[.agg #[.bool (decide (remZ (goodI b1 a) (goodI b2 b) < 0)), sv A217 (canon (remZ (goodI b1 a) (goodI b2 b)).natAbs) c218], iv (zeroE (goodI b2 b))] ∧ SRow W .u32 A217 (canon (remZ (goodI b1 a) (goodI b2 b)).natAbs) c218),
         (fun (v : Value) (W : World) => ∃ (A223 : Option Addr) (c224 : Nat), v = .agg #[.bool (decide (remZ (goodI b1 a) (goodI b2 b) < 0)), sv A223 (canon (remZ (goodI b1 a) (goodI b2 b)).natAbs) c224] ∧ SRow W .u32 A223 (canon (remZ (goodI b1 a) (goodI b2 b)).natAbs) c224),
         ve (iv (zeroE (goodI b2 b))),
         IsNew w715 24 [.bool false, sv none ([]) 0],
         vt,
         vt]
        [6] (newsCons (fun v w h => IsNew.old h) newsNil) hs734 (.eq (.eq (.cons (fun v W W' hn ⟨A211, c212, he, h0⟩ => ⟨A211, c212, he, h0.new_ hn⟩) (.cons (fun v W W' hn ⟨A217, c218, he, h0⟩ => ⟨A217, c218, he, h0.new_ hn⟩) (.cons (fun v W W' hn ⟨A223, c224, he, h0⟩ => ⟨A223, c224, he, h0.new_ hn⟩) (.eq (.nw (.tt (.tt (.nil)))))))))) ?_ ?_ ?_
      · skip
        refine .o1 (tk rfl rfl fun _ w hn k => ⟨_, v_load rfl (k.fx 5 h738) (l_two Try.isAgg24 Try.sizeOf24 (hb728.new_ hn)), rfl⟩) ?_
        refine .o1 (tk rfl rfl fun _ w hn k => ⟨_, v_load rfl (k.fx 6 h739) (l_two Try.isAgg24 Try.sizeOf24 (hb729.new_ hn)), rfl⟩) ?_
        refine .o1 (tkC rfl (noG rfl) rfl fun _ w hn k => (by
              refine ⟨#[.agg #[.bool b1, sv A59 a cc60], .agg #[.bool b2, sv A63 b cc64]], _, args2 (k.eq1 0 134 rfl) (k.eq1 1 135 rfl), fun w => by kernel_rfl, bRem_c _ _ _ _ _ _ _ _ _ (hr722.new_ hn) ha (hr723.new_ hn) hb, ?_⟩
              rintro e w' ⟨A209, c210, rfl, hmo, hm⟩
              exact ⟨_, rfl, hm, ⟨A209, c210, rfl, hmo⟩⟩)) ?_
        refine .o1 (tk rfl rfl fun _ w hn k => (by
              obtain ⟨A213, c214, e215, hx216⟩ : (fun (v : Value) (W : World) => ∃ (A211 : Option Addr) (c212 : Nat), v = .tuple #[.agg #[.bool (decide (remZ (goodI b1 a) (goodI b2 b) < 0)), sv A211 (canon (remZ (goodI b1 a) (goodI b2 b)).natAbs) c212], iv (zeroE (goodI b2 b))] ∧ SRow W .u32 A211 (canon (remZ (goodI b1 a) (goodI b2 b)).natAbs) c212) _ _ := k.dep 2 136 (by kernel_rfl) (by kernel_rfl)
              exact ⟨_, v_move rfl e215, ⟨A213, c214, rfl, hx216⟩⟩)) ?_
        refine .o1 (tk rfl rfl fun _ w hn k => (by
              obtain ⟨A219, c220, e221, hx222⟩ : (fun (v : Value) (W : World) => ∃ (A217 : Option Addr) (c218 : Nat), v = .tuple #[.agg #[.bool (decide (remZ (goodI b1 a) (goodI b2 b) < 0)), sv A217 (canon (remZ (goodI b1 a) (goodI b2 b)).natAbs) c218], iv (zeroE (goodI b2 b))] ∧ SRow W .u32 A217 (canon (remZ (goodI b1 a) (goodI b2 b)).natAbs) c218) _ _ := k.dep 3 133 (by kernel_rfl) (by kernel_rfl)
              exact ⟨_, v_extract rfl e221 rfl, ⟨A219, c220, rfl, hx222⟩⟩)) ?_
        refine .o3 ?_
        refine .o2 (step_allocN (cs := [.bool false, sv none ([]) 0]) (t := 24) rfl (noG rfl) (fun _ w hn k => rfl) (fun q _ hq hb => ⟨q, rfl, hq, hb⟩)) ?_
        refine .off ?_
        refine .off ?_
        exact .nil
      · skip
        intro i h
        simp only [List.contains_eq_mem, List.mem_cons, List.not_mem_nil, or_false, decide_eq_true_eq] at h
        subst h
        · exact eager_takeG rfl (noG rfl) fun _ w hn k => (by
              obtain ⟨A225, c226, e227, hx228⟩ : (fun (v : Value) (W : World) => ∃ (A217 : Option Addr) (c218 : Nat), v = .tuple #[.agg #[.bool (decide (remZ (goodI b1 a) (goodI b2 b) < 0)), sv A217 (canon (remZ (goodI b1 a) (goodI b2 b)).natAbs) c218], iv (zeroE (goodI b2 b))] ∧ SRow W .u32 A217 (canon (remZ (goodI b1 a) (goodI b2 b)).natAbs) c218) _ _ := k.dep 3 133 (by kernel_rfl) (by kernel_rfl)
              exact ⟨_, fun w hS => v_extract rfl e227 rfl, rfl⟩)
      intro a747 w748 _ hn749 ha750
      have hs751 := ha750.size.trans hs734
      have hd752 := ha750.defers.trans hd735
      have h753 := ha750.fx 2 h736
      have h754 := ha750.fx 3 h737
      have h755 := ha750.fx 5 h738
      have h756 := ha750.fx 6 h739
      have h757 := ha750.fx 19 h740
      have h758 := ha750.fx 20 h741
      have h759 := ha750.fx 21 h744
      have h760 := ha750.fx 22 h745
      obtain ⟨A762, cc763, h761, hr764⟩ : (fun (v : Value) (W : World) => ∃ (A223 : Option Addr) (c224 : Nat), v = .agg #[.bool (decide (remZ (goodI b1 a) (goodI b2 b) < 0)), sv A223 (canon (remZ (goodI b1 a) (goodI b2 b)).natAbs) c224] ∧ SRow W .u32 A223 (canon (remZ (goodI b1 a) (goodI b2 b)).natAbs) c224) _ _ := ha750.got 4 137 rfl (by kernel_rfl)
      have h761 : a747.eval (.tmp 137) = .agg #[.bool (decide (remZ (goodI b1 a) (goodI b2 b) < 0)), sv A762 (canon (remZ (goodI b1 a) (goodI b2 b)).natAbs) cc763] := h761
      have h765 := ha750.ge 5 138 rfl
      obtain ⟨q767, h766, hq768, hb769⟩ : IsNew _ _ _ _ _ := ha750.got 6 23 rfl (by kernel_rfl)
      have hb770 := hb726.new_ hn749
      have hb771 := hb727.new_ hn749
      have hb772 := hb728.new_ hn749
      have hb773 := hb729.new_ hn749
      have hb774 := hb730.new_ hn749
      have hb775 := hb717.new_ hn749
      have hne776 : q9 ≠ q767 := by have h1 := hb726.lt; have h2 := hq768; omega
      have hne777 : q13 ≠ q767 := by have h1 := hb727.lt; have h2 := hq768; omega
      have hne778 : q67 ≠ q767 := by have h1 := hb728.lt; have h2 := hq768; omega
      have hne779 : q71 ≠ q767 := by have h1 := hb729.lt; have h2 := hq768; omega
      have hne780 : q636 ≠ q767 := by have h1 := hb730.lt; have h2 := hq768; omega
      have hne781 : q697 ≠ q767 := by have h1 := hb717.lt; have h2 := hq768; omega
      have hq782 := Nat.le_trans hN731.size hq768
      have hr783 := hr722.new_ hn749
      have hr784 := hr723.new_ hn749
      have hr785 := hr724.new_ hn749
      have hr786 := hr725.new_ hn749
      have hN787 := hN731.transNew hn749
      clear hs734 hd735 h736 h737 h738 h739 h740 h741 h744 h745 hb726 hb727 hb728 hb729 hb730 hb717 hq768 hr722 hr723 hr724 hr725 hN731 ha750 hn749
      obtain ⟨w788, -, hst789, hb790, hu791, hf792⟩ := s_two (v0 := .bool (decide (remZ (goodI b1 a) (goodI b2 b) < 0))) (v1 := sv A762 (canon (remZ (goodI b1 a) (goodI b2 b)).natAbs) cc763) Try.sizeOf24 rfl rfl rfl hb769
      refine st_act rfl rfl fun K793 hL794 => a_store' rfl h766 h761 hst789 (hL794 _ _ trivial ?_)
      have hr795 := hr783.far hb769 hu791 (by first | rfl | decide | simp [notK])
      have hr796 := hr784.far hb769 hu791 (by first | rfl | decide | simp [notK])
      have hr797 := hr785.far hb769 hu791 (by first | rfl | decide | simp [notK])
      have hr798 := hr786.far hb769 hu791 (by first | rfl | decide | simp [notK])
      have hr799 := hr764.far hb769 hu791 (by first | rfl | decide | simp [notK])
      have hb800 := hf792 _ _ _ (hne776) hb770
      have hb801 := hf792 _ _ _ (hne777) hb771
      have hb802 := hf792 _ _ _ (hne778) hb772
      have hb803 := hf792 _ _ _ (hne779) hb773
      have hb804 := hf792 _ _ _ (hne780) hb774
      have hb805 := hf792 _ _ _ (hne781) hb775
      have hN806 := hN787.trans hu791 (fun k hk hkb => by subst hkb; omega)
      clear hb769 hst789 K793 hL794 hN787 hr783 hr784 hr785 hr786 hr764 hb770 hb771 hb772 hb773 hb774 hb775 hu791 hf792
      refine st_take rfl rfl (y_assign (v := iv (zeroE (goodI b2 b))) rfl h765) rfl ?_
      obtain ⟨a807, ha808⟩ : ∃ a', a' = a747.put (some 24) (iv (zeroE (goodI b2 b))) := ⟨_, rfl⟩
      have hs809 : a807.tmps.size = 198 := by rw [ha808, put_size]; exact hs751
      have hd810 : a807.defers = [] := by rw [ha808, put_defers]; exact hd752
      have h811 : a807.eval (.tmp 2) = pv q9 := by rw [ha808, put_ne _ _ _ _ (by decide)]; exact h753
      have h812 : a807.eval (.tmp 3) = pv q13 := by rw [ha808, put_ne _ _ _ _ (by decide)]; exact h754
      have h813 : a807.eval (.tmp 5) = pv q67 := by rw [ha808, put_ne _ _ _ _ (by decide)]; exact h755
      have h814 : a807.eval (.tmp 6) = pv q71 := by rw [ha808, put_ne _ _ _ _ (by decide)]; exact h756
      have h815 : a807.eval (.tmp 19) = pv q636 := by rw [ha808, put_ne _ _ _ _ (by decide)]; exact h757
      have h816 : a807.eval (.tmp 20) = iv (zeroE (goodI b2 b)) := by rw [ha808, put_ne _ _ _ _ (by decide)]; exact h758
      have h817 : a807.eval (.tmp 21) = pv q697 := by rw [ha808, put_ne _ _ _ _ (by decide)]; exact h759
      have h818 : a807.eval (.tmp 22) = iv (zeroE (goodI b2 b)) := by rw [ha808, put_ne _ _ _ _ (by decide)]; exact h760
      have h819 : a807.eval (.tmp 137) = .agg #[.bool (decide (remZ (goodI b1 a) (goodI b2 b) < 0)), sv A762 (canon (remZ (goodI b1 a) (goodI b2 b)).natAbs) cc763] := by rw [ha808, put_ne _ _ _ _ (by decide)]; exact h761
      have h820 : a807.eval (.tmp 138) = iv (zeroE (goodI b2 b)) := by rw [ha808, put_ne _ _ _ _ (by decide)]; exact h765
      have h821 : a807.eval (.tmp 23) = pv q767 := by rw [ha808, put_ne _ _ _ _ (by decide)]; exact h766
      have h822 : a807.eval (.tmp 24) = iv (zeroE (goodI b2 b)) := by rw [ha808]; exact put_same _ _ _ (by rw [hs751]; decide)
      show stepsTo _ _ _ _ _ (a747.put (some 24) (iv (zeroE (goodI b2 b)))) _
      rw [← ha808]
      clear ha808 hs751 hd752 h753 h754 h755 h756 h757 h758 h759 h760 h761 h765 h766
      clear hne776
      clear hne777
      clear hne778
      clear hne779
      clear hne780
      clear hne781
      refine st_nil ?_
      clear h819 h820
      refine hK746 _ _ ?_
      clear hK746 K746
      refine wp_seq_k fun K823 hK823 => ?_
      refine wp_gS (fun W => True) (fun W W' hn h => trivial) trivial [true, true, true, true, true, true, true, false, false] [5] [(7, false), (8, true)] 198
        [ve (.agg #[.bool b1, sv A a c]),
         ve (.agg #[.bool b2, sv B b d]),
         (fun (v : Value) (W : World) => ∃ (A235 : Option Addr) (c236 : Nat), v = .tuple #[.agg #[.bool (decide (remZ (goodI b1 a) (goodI b2 b) < 0)), sv A235 (canon (remZ (goodI b1 a) (goodI b2 b)).natAbs) c236], iv (zeroE (goodI b2 b))] ∧ SRow W .u32 A235 (canon (remZ (goodI b1 a) (goodI b2 b)).natAbs) c236),
         (fun (v : Value) (W : World) => ∃ (A241 : Option Addr) (c242 : Nat), v = .tuple #[.agg #[.bool (decide (remZ (goodI b1 a) (goodI b2 b) < 0)), sv A241 (canon (remZ (goodI b1 a) (goodI b2 b)).natAbs) c242], iv (zeroE (goodI b2 b))] ∧ SRow W .u32 A241 (canon (remZ (goodI b1 a) (goodI b2 b)).natAbs) c242),
         (fun (v : Value) (W : World) => ∃ (A247 : Option Addr) (c248 : Nat), v = .agg #[.bool (decide (remZ (goodI b1 a) (goodI b2 b) < 0)), sv A247 (canon (remZ (goodI b1 a) (goodI b2 b)).natAbs) c248] ∧ SRow W .u32 A247 (canon (remZ (goodI b1 a) (goodI b2 b)).natAbs) c248),
         ve (iv (zeroE (goodI b2 b))),
         IsNew w788 24 [.bool false, sv none ([]) 0],
         vt,
         vt]
        [6] (newsCons (fun v w h => IsNew.old h) newsNil) hs809 (.eq (.eq (.cons (fun v W W' hn ⟨A235, c236, he, h0⟩ => ⟨A235, c236, he, h0.new_ hn⟩) (.cons (fun v W W' hn ⟨A241, c242, he, h0⟩ => ⟨A241, c242, he, h0.new_ hn⟩) (.cons (fun v W W' hn ⟨A247, c248, he, h0⟩ => ⟨A247, c248, he, h0.new_ hn⟩) (.eq (.nw (.tt (.tt (.nil)))))))))) ?_ ?_ ?_
      · skip
        refine .o1 (tk rfl rfl fun _ w hn k => ⟨_, v_load rfl (k.fx 2 h811) (l_two Try.isAgg24 Try.sizeOf24 (hb800.new_ hn)), rfl⟩) ?_
        refine .o1 (tk rfl rfl fun _ w hn k => ⟨_, v_load rfl (k.fx 3 h812) (l_two Try.isAgg24 Try.sizeOf24 (hb801.new_ hn)), rfl⟩) ?_
        refine .o1 (tkC rfl (noG rfl) rfl fun _ w hn k => (by
              refine ⟨#[.agg #[.bool b1, sv A a c], .agg #[.bool b2, sv B b d]], _, args2 (k.eq1 0 140 rfl) (k.eq1 1 141 rfl), fun w => by kernel_rfl, rrem_c _ _ _ _ _ _ _ _ _ (hra.new_ (hN806.transNew hn)) ha (hrb.new_ (hN806.transNew hn)) hb, ?_⟩
              rintro e w' ⟨A233, c234, rfl, hmo, hm⟩
              exact ⟨_, rfl, hm, ⟨A233, c234, rfl, hmo⟩⟩)) ?_
        refine .o1 (tk rfl rfl fun _ w hn k => (by
              obtain ⟨A237, c238, e239, hx240⟩ : (fun (v : Value) (W : World) => ∃ (A235 : Option Addr) (c236 : Nat), v = .tuple #[.agg #[.bool (decide (remZ (goodI b1 a) (goodI b2 b) < 0)), sv A235 (canon (remZ (goodI b1 a) (goodI b2 b)).natAbs) c236], iv (zeroE (goodI b2 b))] ∧ SRow W .u32 A235 (canon (remZ (goodI b1 a) (goodI b2 b)).natAbs) c236) _ _ := k.dep 2 142 (by kernel_rfl) (by kernel_rfl)
              exact ⟨_, v_move rfl e239, ⟨A237, c238, rfl, hx240⟩⟩)) ?_
        refine .o1 (tk rfl rfl fun _ w hn k => (by
              obtain ⟨A243, c244, e245, hx246⟩ : (fun (v : Value) (W : World) => ∃ (A241 : Option Addr) (c242 : Nat), v = .tuple #[.agg #[.bool (decide (remZ (goodI b1 a) (goodI b2 b) < 0)), sv A241 (canon (remZ (goodI b1 a) (goodI b2 b)).natAbs) c242], iv (zeroE (goodI b2 b))] ∧ SRow W .u32 A241 (canon (remZ (goodI b1 a) (goodI b2 b)).natAbs) c242) _ _ := k.dep 3 139 (by kernel_rfl) (by kernel_rfl)
              exact ⟨_, v_extract rfl e245 rfl, ⟨A243, c244, rfl, hx246⟩⟩)) ?_
        refine .o3 ?_
        refine .o2 (step_allocN (cs := [.bool false, sv none ([]) 0]) (t := 24) rfl (noG rfl) (fun _ w hn k => rfl) (fun q _ hq hb => ⟨q, rfl, hq, hb⟩)) ?_
        refine .off ?_
        refine .off ?_
        exact .nil
      · skip
        intro i h
        simp only [List.contains_eq_mem, List.mem_cons, List.not_mem_nil, or_false, decide_eq_true_eq] at h
        subst h
        · exact eager_takeG rfl (noG rfl) fun _ w hn k => (by
              obtain ⟨A249, c250, e251, hx252⟩ : (fun (v : Value) (W : World) => ∃ (A241 : Option Addr) (c242 : Nat), v = .tuple #[.agg #[.bool (decide (remZ (goodI b1 a) (goodI b2 b) < 0)), sv A241 (canon (remZ (goodI b1 a) (goodI b2 b)).natAbs) c242], iv (zeroE (goodI b2 b))] ∧ SRow W .u32 A241 (canon (remZ (goodI b1 a) (goodI b2 b)).natAbs) c242) _ _ := k.dep 3 139 (by kernel_rfl) (by kernel_rfl)
              exact ⟨_, fun w hS => v_extract rfl e251 rfl, rfl⟩)
      intro a824 w825 _ hn826 ha827
      have hs828 := ha827.size.trans hs809
      have hd829 := ha827.defers.trans hd810
      have h830 := ha827.fx 2 h811
      have h831 := ha827.fx 3 h812
      have h832 := ha827.fx 5 h813
      have h833 := ha827.fx 6 h814
      have h834 := ha827.fx 19 h815
      have h835 := ha827.fx 20 h816
      have h836 := ha827.fx 21 h817
      have h837 := ha827.fx 22 h818
      have h838 := ha827.fx 23 h821
      have h839 := ha827.fx 24 h822
      obtain ⟨A841, cc842, h840, hr843⟩ : (fun (v : Value) (W : World) => ∃ (A247 : Option Addr) (c248 : Nat), v = .agg #[.bool (decide (remZ (goodI b1 a) (goodI b2 b) < 0)), sv A247 (canon (remZ (goodI b1 a) (goodI b2 b)).natAbs) c248] ∧ SRow W .u32 A247 (canon (remZ (goodI b1 a) (goodI b2 b)).natAbs) c248) _ _ := ha827.got 4 143 rfl (by kernel_rfl)
      have h840 : a824.eval (.tmp 143) = .agg #[.bool (decide (remZ (goodI b1 a) (goodI b2 b) < 0)), sv A841 (canon (remZ (goodI b1 a) (goodI b2 b)).natAbs) cc842] := h840
      have h844 := ha827.ge 5 144 rfl
      obtain ⟨q846, h845, hq847, hb848⟩ : IsNew _ _ _ _ _ := ha827.got 6 25 rfl (by kernel_rfl)
      have hb849 := hb800.new_ hn826
      have hb850 := hb801.new_ hn826
      have hb851 := hb802.new_ hn826
      have hb852 := hb803.new_ hn826
      have hb853 := hb804.new_ hn826
      have hb854 := hb805.new_ hn826
      have hb855 := hb790.new_ hn826
      have hne856 : q9 ≠ q846 := by have h1 := hb800.lt; have h2 := hq847; omega
      have hne857 : q13 ≠ q846 := by have h1 := hb801.lt; have h2 := hq847; omega
      have hne858 : q67 ≠ q846 := by have h1 := hb802.lt; have h2 := hq847; omega
      have hne859 : q71 ≠ q846 := by have h1 := hb803.lt; have h2 := hq847; omega
      have hne860 : q636 ≠ q846 := by have h1 := hb804.lt; have h2 := hq847; omega
      have hne861 : q697 ≠ q846 := by have h1 := hb805.lt; have h2 := hq847; omega
      have hne862 : q767 ≠ q846 := by have h1 := hb790.lt; have h2 := hq847; omega
      have hq863 := Nat.le_trans hN806.size hq847
      have hr864 := hr795.new_ hn826
      have hr865 := hr796.new_ hn826
      have hr866 := hr797.new_ hn826
      have hr867 := hr798.new_ hn826
      have hr868 := hr799.new_ hn826
      have hN869 := hN806.transNew hn826
      clear hs809 hd810 h811 h812 h813 h814 h815 h816 h817 h818 h821 h822 hb800 hb801 hb802 hb803 hb804 hb805 hb790 hq847 hr795 hr796 hr797 hr798 hr799 hN806 ha827 hn826
      obtain ⟨w870, -, hst871, hb872, hu873, hf874⟩ := s_two (v0 := .bool (decide (remZ (goodI b1 a) (goodI b2 b) < 0))) (v1 := sv A841 (canon (remZ (goodI b1 a) (goodI b2 b)).natAbs) cc842) Try.sizeOf24 rfl rfl rfl hb848
      refine st_act rfl rfl fun K875 hL876 => a_store' rfl h845 h840 hst871 (hL876 _ _ trivial ?_)
      have hr877 := hr864.far hb848 hu873 (by first | rfl | decide | simp [notK])
      have hr878 := hr865.far hb848 hu873 (by first | rfl | decide | simp [notK])
      have hr879 := hr866.far hb848 hu873 (by first | rfl | decide | simp [notK])
      have hr880 := hr867.far hb848 hu873 (by first | rfl | decide | simp [notK])
      have hr881 := hr868.far hb848 hu873 (by first | rfl | decide | simp [notK])
      have hr882 := hr843.far hb848 hu873 (by first | rfl | decide | simp [notK])
      have hb883 := hf874 _ _ _ (hne856) hb849
      have hb884 := hf874 _ _ _ (hne857) hb850
      have hb885 := hf874 _ _ _ (hne858) hb851
      have hb886 := hf874 _ _ _ (hne859) hb852
      have hb887 := hf874 _ _ _ (hne860) hb853
      have hb888 := hf874 _ _ _ (hne861) hb854
      have hb889 := hf874 _ _ _ (hne862) hb855
      have hN890 := hN869.trans hu873 (fun k hk hkb => by subst hkb; omega)
      clear hb848 hst871 K875 hL876 hN869 hr864 hr865 hr866 hr867 hr868 hr843 hb849 hb850 hb851 hb852 hb853 hb854 hb855 hu873 hf874
      refine st_take rfl rfl (y_assign (v := iv (zeroE (goodI b2 b))) rfl h844) rfl ?_
      obtain ⟨a891, ha892⟩ : ∃ a', a' = a824.put (some 26) (iv (zeroE (goodI b2 b))) := ⟨_, rfl⟩
      have hs893 : a891.tmps.size = 198 := by rw [ha892, put_size]; exact hs828
      have hd894 : a891.defers = [] := by rw [ha892, put_defers]; exact hd829
      have h895 : a891.eval (.tmp 2) = pv q9 := by rw [ha892, put_ne _ _ _ _ (by decide)]; exact h830
      have h896 : a891.eval (.tmp 3) = pv q13 := by rw [ha892, put_ne _ _ _ _ (by decide)]; exact h831
      have h897 : a891.eval (.tmp 5) = pv q67 := by rw [ha892, put_ne _ _ _ _ (by decide)]; exact h832
      have h898 : a891.eval (.tmp 6) = pv q71 := by rw [ha892, put_ne _ _ _ _ (by decide)]; exact h833
      have h899 : a891.eval (.tmp 19) = pv q636 := by rw [ha892, put_ne _ _ _ _ (by decide)]; exact h834
      have h900 : a891.eval (.tmp 20) = iv (zeroE (goodI b2 b)) := by rw [ha892, put_ne _ _ _ _ (by decide)]; exact h835
      have h901 : a891.eval (.tmp 21) = pv q697 := by rw [ha892, put_ne _ _ _ _ (by decide)]; exact h836
      have h902 : a891.eval (.tmp 22) = iv (zeroE (goodI b2 b)) := by rw [ha892, put_ne _ _ _ _ (by decide)]; exact h837
      have h903 : a891.eval (.tmp 23) = pv q767 := by rw [ha892, put_ne _ _ _ _ (by decide)]; exact h838
      have h904 : a891.eval (.tmp 24) = iv (zeroE (goodI b2 b)) := by rw [ha892, put_ne _ _ _ _ (by decide)]; exact h839
      have h905 : a891.eval (.tmp 143) = .agg #[.bool (decide (remZ (goodI b1 a) (goodI b2 b) < 0)), sv A841 (canon (remZ (goodI b1 a) (goodI b2 b)).natAbs) cc842] := by rw [ha892, put_ne _ _ _ _ (by decide)]; exact h840
      have h906 : a891.eval (.tmp 144) = iv (zeroE (goodI b2 b)) := by rw [ha892, put_ne _ _ _ _ (by decide)]; exact h844
      have h907 : a891.eval (.tmp 25) = pv q846 := by rw [ha892, put_ne _ _ _ _ (by decide)]; exact h845
      have h908 : a891.eval (.tmp 26) = iv (zeroE (goodI b2 b)) := by rw [ha892]; exact put_same _ _ _ (by rw [hs828]; decide)
      show stepsTo _ _ _ _ _ (a824.put (some 26) (iv (zeroE (goodI b2 b)))) _
      rw [← ha892]
      clear ha892 hs828 hd829 h830 h831 h832 h833 h834 h835 h836 h837 h838 h839 h840 h844 h845
      clear hne856
      clear hne857
      clear hne858
      clear hne859
      clear hne860
      clear hne861
      clear hne862
      refine st_nil ?_
      clear h905 h906
      refine hK823 _ _ ?_
      clear hK823 K823
      refine wp_seq_k fun K909 hK909 => ?_
      refine wp_g0 [true, true, true, true, true, true, true, true, true, true, true, true, true, true, true, true, true, true, true, true, true, true, true, true, true, true, true, true, true, true, true, true, true, true, true, true, true, true, true, true, true, true, true, true, true, true, true, true, true, true, true, true, true, true] [] 198
        [ve (.bool true),
         ve (.bool true),
         ve (.agg #[.bool (decide (divZ (goodI b1 a) (goodI b2 b) < 0)), sv A631 (canon (divZ (goodI b1 a) (goodI b2 b)).natAbs) cc632]),
         ve (.agg #[.bool (decide (divZ (goodI b1 a) (goodI b2 b) < 0)), sv A692 (canon (divZ (goodI b1 a) (goodI b2 b)).natAbs) cc693]),
         ve (.bool true),
         ve (.bool true),
         ve (.bool true),
         ve (iv (zeroE (goodI b2 b))),
         ve (iv (zeroE (goodI b2 b))),
         ve (.bool true),
         ve (.bool true),
         ve (.bool true),
         ve (.agg #[.bool (decide (remZ (goodI b1 a) (goodI b2 b) < 0)), sv A762 (canon (remZ (goodI b1 a) (goodI b2 b)).natAbs) cc763]),
         ve (.agg #[.bool (decide (remZ (goodI b1 a) (goodI b2 b) < 0)), sv A841 (canon (remZ (goodI b1 a) (goodI b2 b)).natAbs) cc842]),
         ve (.bool true),
         ve (.bool true),
         ve (.bool true),
         ve (iv (zeroE (goodI b2 b))),
         ve (iv (zeroE (goodI b2 b))),
         ve (.bool true),
         ve (.bool true),
         ve (.bool true),
         ve (.agg #[.bool b1, sv A59 a cc60]),
         ve (.agg #[.bool b2, sv A63 b cc64]),
         ve (iv (cmpZ (goodI b1 a) (goodI b2 b))),
         ve (.agg #[.bool b1, sv A a c]),
         ve (.agg #[.bool b2, sv B b d]),
         ve (iv (cmpZ (goodI b1 a) (goodI b2 b))),
         ve (.bool true),
         ve (.bool true),
         ve (.bool true),
         ve (.agg #[.bool b1, sv A59 a cc60]),
         ve (.agg #[.bool b2, sv A63 b cc64]),
         ve (.bool (decide (goodI b1 a = goodI b2 b))),
         ve (.agg #[.bool b1, sv A a c]),
         ve (.agg #[.bool b2, sv B b d]),
         ve (.bool (decide (goodI b1 a = goodI b2 b))),
         ve (.bool true),
         ve (.bool true),
         ve (.bool true),
         ve (.agg #[.bool b1, sv A59 a cc60]),
         (fun (v : Value) (W : World) => ∃ (A259 : Option Addr) (c260 : Nat), v = .agg #[.bool (decide (-(goodI b1 a) < 0)), sv A259 (canon (-(goodI b1 a)).natAbs) c260] ∧ SRow W .u32 A259 (canon (-(goodI b1 a)).natAbs) c260),
         ve (.agg #[.bool b1, sv A a c]),
         (fun (v : Value) (W : World) => ∃ (A263 : Option Addr) (c264 : Nat), v = .agg #[.bool (decide (-(goodI b1 a) < 0)), sv A263 (canon (-(goodI b1 a)).natAbs) c264] ∧ SRow W .u32 A263 (canon (-(goodI b1 a)).natAbs) c264),
         ve (.bool true),
         ve (.bool true),
         ve (.bool true),
         ve (.agg #[.bool b1, sv A a c]),
         ve (.bool (mayB b1 a)),
         ve (.agg #[.bool b1, sv A a c]),
         ve (.bool (mayB b1 a)),
         ve (.bool true),
         ve (.bool true),
         ve (.bool true)] hs893 (.eq (.eq (.eq (.eq (.eq (.eq (.eq (.eq (.eq (.eq (.eq (.eq (.eq (.eq (.eq (.eq (.eq (.eq (.eq (.eq (.eq (.eq (.eq (.eq (.eq (.eq (.eq (.eq (.eq (.eq (.eq (.eq (.eq (.eq (.eq (.eq (.eq (.eq (.eq (.eq (.eq (.cons (fun v W W' hn ⟨A259, c260, he, h0⟩ => ⟨A259, c260, he, h0.new_ hn⟩) (.eq (.cons (fun v W W' hn ⟨A263, c264, he, h0⟩ => ⟨A263, c264, he, h0.new_ hn⟩) (.eq (.eq (.eq (.eq (.eq (.eq (.eq (.eq (.eq (.eq (.nil))))))))))))))))))))))))))))))))))))))))))))))))))))))) ?_ ?_
      · skip
        refine .o1 (ck rfl rfl rfl (fun _ w hn k => ⟨#[], rfl, fun _ => by kernel_rfl, bfirst_c _⟩) fun _ => rfl) ?_
        refine .o1 (tk rfl rfl fun _ w hn k => ⟨_, v_move rfl (k.eq1 0 145 rfl), rfl⟩) ?_
        refine .o1 (tg rfl rfl rfl (fun _ _ k => k.eq1 1 146 rfl) fun _ w hn k => ⟨_, v_load rfl (k.fx 19 h899) (l_two Try.isAgg24 Try.sizeOf24 (hb887.new_ hn)), rfl⟩) ?_
        refine .o1 (tg rfl rfl rfl (fun _ _ k => k.eq1 1 146 rfl) fun _ w hn k => ⟨_, v_load rfl (k.fx 21 h901) (l_two Try.isAgg24 Try.sizeOf24 (hb888.new_ hn)), rfl⟩) ?_
        refine .o1 (cg rfl rfl rfl (fun _ _ k => k.eq1 1 146 rfl) rfl (fun _ w hn k => ⟨#[.agg #[.bool (decide (divZ (goodI b1 a) (goodI b2 b) < 0)), sv A631 (canon (divZ (goodI b1 a) (goodI b2 b)).natAbs) cc632], .agg #[.bool (decide (divZ (goodI b1 a) (goodI b2 b) < 0)), sv A692 (canon (divZ (goodI b1 a) (goodI b2 b)).natAbs) cc693]], args2 (k.eq1 2 147 rfl) (k.eq1 3 148 rfl), fun _ => by kernel_rfl, rbig_c _ _ _ _ _ _ _ _ _ (hr879.new_ hn) (hr880.new_ hn)⟩) fun _ => congrArg Value.bool (by simp)) ?_
        refine .o1 (tk rfl rfl fun _ w hn k => ⟨_, v_pickT rfl (k.eq1 1 146 rfl) (k.eq1 4 149 rfl), rfl⟩) ?_
        refine .o1 (tk rfl rfl fun _ w hn k => ⟨_, v_move rfl (k.eq1 5 150 rfl), rfl⟩) ?_
        refine .o1 (tg rfl rfl rfl (fun _ _ k => k.eq1 6 151 rfl) fun _ w hn k => ⟨_, v_move rfl (k.fx 20 h900), rfl⟩) ?_
        refine .o1 (tg rfl rfl rfl (fun _ _ k => k.eq1 6 151 rfl) fun _ w hn k => ⟨_, v_move rfl (k.fx 22 h902), rfl⟩) ?_
        refine .o1 (tg rfl rfl rfl (fun _ _ k => k.eq1 6 151 rfl) fun _ w hn k => ⟨_, v_bin rfl (k.eq1 7 152 rfl) (k.eq1 8 153 rfl) (fun _ => rfl) (n_eql_self _ _), rfl⟩) ?_
        refine .o1 (tk rfl rfl fun _ w hn k => ⟨_, v_pickT rfl (k.eq1 6 151 rfl) (k.eq1 9 154 rfl), rfl⟩) ?_
        refine .o1 (tk rfl rfl fun _ w hn k => ⟨_, v_move rfl (k.eq1 10 155 rfl), rfl⟩) ?_
        refine .o1 (tg rfl rfl rfl (fun _ _ k => k.eq1 11 156 rfl) fun _ w hn k => ⟨_, v_load rfl (k.fx 23 h903) (l_two Try.isAgg24 Try.sizeOf24 (hb889.new_ hn)), rfl⟩) ?_
        refine .o1 (tg rfl rfl rfl (fun _ _ k => k.eq1 11 156 rfl) fun _ w hn k => ⟨_, v_load rfl (k.fx 25 h907) (l_two Try.isAgg24 Try.sizeOf24 (hb872.new_ hn)), rfl⟩) ?_
        refine .o1 (cg rfl rfl rfl (fun _ _ k => k.eq1 11 156 rfl) rfl (fun _ w hn k => ⟨#[.agg #[.bool (decide (remZ (goodI b1 a) (goodI b2 b) < 0)), sv A762 (canon (remZ (goodI b1 a) (goodI b2 b)).natAbs) cc763], .agg #[.bool (decide (remZ (goodI b1 a) (goodI b2 b) < 0)), sv A841 (canon (remZ (goodI b1 a) (goodI b2 b)).natAbs) cc842]], args2 (k.eq1 12 157 rfl) (k.eq1 13 158 rfl), fun _ => by kernel_rfl, rbig_c _ _ _ _ _ _ _ _ _ (hr881.new_ hn) (hr882.new_ hn)⟩) fun _ => congrArg Value.bool (by simp)) ?_
        refine .o1 (tk rfl rfl fun _ w hn k => ⟨_, v_pickT rfl (k.eq1 11 156 rfl) (k.eq1 14 159 rfl), rfl⟩) ?_
        refine .o1 (tk rfl rfl fun _ w hn k => ⟨_, v_move rfl (k.eq1 15 160 rfl), rfl⟩) ?_
        refine .o1 (tg rfl rfl rfl (fun _ _ k => k.eq1 16 161 rfl) fun _ w hn k => ⟨_, v_move rfl (k.fx 24 h904), rfl⟩) ?_
        refine .o1 (tg rfl rfl rfl (fun _ _ k => k.eq1 16 161 rfl) fun _ w hn k => ⟨_, v_move rfl (k.fx 26 h908), rfl⟩) ?_
        refine .o1 (tg rfl rfl rfl (fun _ _ k => k.eq1 16 161 rfl) fun _ w hn k => ⟨_, v_bin rfl (k.eq1 17 162 rfl) (k.eq1 18 163 rfl) (fun _ => rfl) (n_eql_self _ _), rfl⟩) ?_
        refine .o1 (tk rfl rfl fun _ w hn k => ⟨_, v_pickT rfl (k.eq1 16 161 rfl) (k.eq1 19 164 rfl), rfl⟩) ?_
        refine .o1 (tk rfl rfl fun _ w hn k => ⟨_, v_move rfl (k.eq1 20 165 rfl), rfl⟩) ?_
        refine .o1 (tg rfl rfl rfl (fun _ _ k => k.eq1 21 166 rfl) fun _ w hn k => ⟨_, v_load rfl (k.fx 5 h897) (l_two Try.isAgg24 Try.sizeOf24 (hb885.new_ hn)), rfl⟩) ?_
        refine .o1 (tg rfl rfl rfl (fun _ _ k => k.eq1 21 166 rfl) fun _ w hn k => ⟨_, v_load rfl (k.fx 6 h898) (l_two Try.isAgg24 Try.sizeOf24 (hb886.new_ hn)), rfl⟩) ?_
        refine .o1 (cg rfl rfl rfl (fun _ _ k => k.eq1 21 166 rfl) rfl (fun _ w hn k => ⟨#[.agg #[.bool b1, sv A59 a cc60], .agg #[.bool b2, sv A63 b cc64]], args2 (k.eq1 22 167 rfl) (k.eq1 23 168 rfl), fun _ => by kernel_rfl, bCmp_c _ _ _ _ _ _ _ _ _ (hr877.new_ hn) ha (hr878.new_ hn) hb⟩) fun _ => rfl) ?_
        refine .o1 (tg rfl rfl rfl (fun _ _ k => k.eq1 21 166 rfl) fun _ w hn k => ⟨_, v_load rfl (k.fx 2 h895) (l_two Try.isAgg24 Try.sizeOf24 (hb883.new_ hn)), rfl⟩) ?_
        refine .o1 (tg rfl rfl rfl (fun _ _ k => k.eq1 21 166 rfl) fun _ w hn k => ⟨_, v_load rfl (k.fx 3 h896) (l_two Try.isAgg24 Try.sizeOf24 (hb884.new_ hn)), rfl⟩) ?_
        refine .o1 (cg rfl rfl rfl (fun _ _ k => k.eq1 21 166 rfl) rfl (fun _ w hn k => ⟨#[.agg #[.bool b1, sv A a c], .agg #[.bool b2, sv B b d]], args2 (k.eq1 25 170 rfl) (k.eq1 26 171 rfl), fun _ => by kernel_rfl, rcmpz_c _ _ _ _ _ _ _ _ _ (hra.new_ (hN890.transNew hn)) ha (hrb.new_ (hN890.transNew hn)) hb⟩) fun _ => rfl) ?_
        refine .o1 (tg rfl rfl rfl (fun _ _ k => k.eq1 21 166 rfl) fun _ w hn k => ⟨_, v_bin rfl (k.eq1 24 169 rfl) (k.eq1 27 172 rfl) (fun _ => rfl) (n_eql_self _ _), rfl⟩) ?_
        refine .o1 (tk rfl rfl fun _ w hn k => ⟨_, v_pickT rfl (k.eq1 21 166 rfl) (k.eq1 28 173 rfl), rfl⟩) ?_
        refine .o1 (tk rfl rfl fun _ w hn k => ⟨_, v_move rfl (k.eq1 29 174 rfl), rfl⟩) ?_
        refine .o1 (tg rfl rfl rfl (fun _ _ k => k.eq1 30 175 rfl) fun _ w hn k => ⟨_, v_load rfl (k.fx 5 h897) (l_two Try.isAgg24 Try.sizeOf24 (hb885.new_ hn)), rfl⟩) ?_
        refine .o1 (tg rfl rfl rfl (fun _ _ k => k.eq1 30 175 rfl) fun _ w hn k => ⟨_, v_load rfl (k.fx 6 h898) (l_two Try.isAgg24 Try.sizeOf24 (hb886.new_ hn)), rfl⟩) ?_
        refine .o1 (cg rfl rfl rfl (fun _ _ k => k.eq1 30 175 rfl) rfl (fun _ w hn k => ⟨#[.agg #[.bool b1, sv A59 a cc60], .agg #[.bool b2, sv A63 b cc64]], args2 (k.eq1 31 176 rfl) (k.eq1 32 177 rfl), fun _ => by kernel_rfl, bSame_c _ _ _ _ _ _ _ _ _ (hr877.new_ hn) ha (hr878.new_ hn) hb⟩) fun _ => rfl) ?_
        refine .o1 (tg rfl rfl rfl (fun _ _ k => k.eq1 30 175 rfl) fun _ w hn k => ⟨_, v_load rfl (k.fx 2 h895) (l_two Try.isAgg24 Try.sizeOf24 (hb883.new_ hn)), rfl⟩) ?_
        refine .o1 (tg rfl rfl rfl (fun _ _ k => k.eq1 30 175 rfl) fun _ w hn k => ⟨_, v_load rfl (k.fx 3 h896) (l_two Try.isAgg24 Try.sizeOf24 (hb884.new_ hn)), rfl⟩) ?_
        refine .o1 (cg rfl rfl rfl (fun _ _ k => k.eq1 30 175 rfl) rfl (fun _ w hn k => ⟨#[.agg #[.bool b1, sv A a c], .agg #[.bool b2, sv B b d]], args2 (k.eq1 34 179 rfl) (k.eq1 35 180 rfl), fun _ => by kernel_rfl, rsame_c _ _ _ _ _ _ _ _ _ (hra.new_ (hN890.transNew hn)) ha (hrb.new_ (hN890.transNew hn)) hb⟩) fun _ => rfl) ?_
        refine .o1 (tg rfl rfl rfl (fun _ _ k => k.eq1 30 175 rfl) fun _ w hn k => ⟨_, v_bin rfl (k.eq1 33 178 rfl) (k.eq1 36 181 rfl) (fun _ => rfl) (self_eqlB _), rfl⟩) ?_
        refine .o1 (tk rfl rfl fun _ w hn k => ⟨_, v_pickT rfl (k.eq1 30 175 rfl) (k.eq1 37 182 rfl), rfl⟩) ?_
        refine .o1 (tk rfl rfl fun _ w hn k => ⟨_, v_move rfl (k.eq1 38 183 rfl), rfl⟩) ?_
        refine .o1 (tg rfl rfl rfl (fun _ _ k => k.eq1 39 184 rfl) fun _ w hn k => ⟨_, v_load rfl (k.fx 5 h897) (l_two Try.isAgg24 Try.sizeOf24 (hb885.new_ hn)), rfl⟩) ?_
        refine .o1 (tkC rfl (onG rfl rfl fun _ _ k => k.eq1 39 184 rfl) rfl fun _ w hn k => (by
              refine ⟨#[.agg #[.bool b1, sv A59 a cc60]], _, args1 (k.eq1 40 185 rfl), fun w => by kernel_rfl, bNeg_c _ _ _ _ _ (hr877.new_ hn) ha, ?_⟩
              rintro e w' ⟨A257, c258, rfl, hmo, hm⟩
              exact ⟨_, rfl, hm, ⟨A257, c258, rfl, hmo⟩⟩)) ?_
        refine .o1 (tg rfl rfl rfl (fun _ _ k => k.eq1 39 184 rfl) fun _ w hn k => ⟨_, v_load rfl (k.fx 2 h895) (l_two Try.isAgg24 Try.sizeOf24 (hb883.new_ hn)), rfl⟩) ?_
        refine .o1 (tkC rfl (onG rfl rfl fun _ _ k => k.eq1 39 184 rfl) rfl fun _ w hn k => (by
              refine ⟨#[.agg #[.bool b1, sv A a c]], _, args1 (k.eq1 42 187 rfl), fun w => by kernel_rfl, rneg_c _ _ _ _ _ (hra.new_ (hN890.transNew hn)) ha, ?_⟩
              rintro e w' ⟨A261, c262, rfl, hmo, hm⟩
              exact ⟨_, rfl, hm, ⟨A261, c262, rfl, hmo⟩⟩)) ?_
        refine .o1 (tkC rfl (onG rfl rfl fun _ _ k => k.eq1 39 184 rfl) rfl fun _ w hn k => (by
              obtain ⟨A265, c266, e267, hx268⟩ : (fun (v : Value) (W : World) => ∃ (A259 : Option Addr) (c260 : Nat), v = .agg #[.bool (decide (-(goodI b1 a) < 0)), sv A259 (canon (-(goodI b1 a)).natAbs) c260] ∧ SRow W .u32 A259 (canon (-(goodI b1 a)).natAbs) c260) _ _ := k.dep 41 186 (by kernel_rfl) (by kernel_rfl)
              obtain ⟨A269, c270, e271, hx272⟩ : (fun (v : Value) (W : World) => ∃ (A263 : Option Addr) (c264 : Nat), v = .agg #[.bool (decide (-(goodI b1 a) < 0)), sv A263 (canon (-(goodI b1 a)).natAbs) c264] ∧ SRow W .u32 A263 (canon (-(goodI b1 a)).natAbs) c264) _ _ := k.dep 43 188 (by kernel_rfl) (by kernel_rfl)
              refine ⟨#[.agg #[.bool (decide (-(goodI b1 a) < 0)), sv A265 (canon (-(goodI b1 a)).natAbs) c266], .agg #[.bool (decide (-(goodI b1 a) < 0)), sv A269 (canon (-(goodI b1 a)).natAbs) c270]], _, args2 e267 e271, fun w => by kernel_rfl, rbig_c _ _ _ _ _ _ _ _ _ hx268 hx272, ?_⟩
              rintro e w' ⟨rfl, hm⟩
              exact ⟨_, rfl, hm, congrArg Value.bool (by simp)⟩)) ?_
        refine .o1 (tk rfl rfl fun _ w hn k => ⟨_, v_pickT rfl (k.eq1 39 184 rfl) (k.eq1 44 189 rfl), rfl⟩) ?_
        refine .o1 (tk rfl rfl fun _ w hn k => ⟨_, v_move rfl (k.eq1 45 190 rfl), rfl⟩) ?_
        refine .o1 (tg rfl rfl rfl (fun _ _ k => k.eq1 46 191 rfl) fun _ w hn k => ⟨_, v_load rfl (k.fx 2 h895) (l_two Try.isAgg24 Try.sizeOf24 (hb883.new_ hn)), rfl⟩) ?_
        refine .o1 (cg rfl rfl rfl (fun _ _ k => k.eq1 46 191 rfl) rfl (fun _ w hn k => ⟨#[.agg #[.bool b1, sv A a c]], args1 (k.eq1 47 192 rfl), fun _ => by kernel_rfl, bMay_c _ _ _ _ _ (hra.new_ (hN890.transNew hn))⟩) fun _ => rfl) ?_
        refine .o1 (tg rfl rfl rfl (fun _ _ k => k.eq1 46 191 rfl) fun _ w hn k => ⟨_, v_load rfl (k.fx 2 h895) (l_two Try.isAgg24 Try.sizeOf24 (hb883.new_ hn)), rfl⟩) ?_
        refine .o1 (cg rfl rfl rfl (fun _ _ k => k.eq1 46 191 rfl) rfl (fun _ w hn k => ⟨#[.agg #[.bool b1, sv A a c]], args1 (k.eq1 49 194 rfl), fun _ => by kernel_rfl, rmay_c _ _ _ _ _ (hra.new_ (hN890.transNew hn))⟩) fun _ => rfl) ?_
        refine .o1 (tg rfl rfl rfl (fun _ _ k => k.eq1 46 191 rfl) fun _ w hn k => ⟨_, v_bin rfl (k.eq1 48 193 rfl) (k.eq1 50 195 rfl) (fun _ => rfl) (self_eqlB _), rfl⟩) ?_
        refine .o1 (tk rfl rfl fun _ w hn k => ⟨_, v_pickT rfl (k.eq1 46 191 rfl) (k.eq1 51 196 rfl), rfl⟩) ?_
        refine .o1 (tk rfl rfl fun _ w hn k => ⟨_, v_assign rfl (k.eq1 52 197 rfl), rfl⟩) ?_
        exact .nil
      intro a910 w911 hn912 ha913
      have hs914 := ha913.size.trans hs893
      have hd915 := ha913.defers.trans hd894
      have h916 := ha913.ge 53 4 rfl
      have hN917 := hN890.transNew hn912
      clear hs893 hd894 h895 h896 h897 h898 h899 h900 h901 h902 h903 h904 h907 h908 hb883 hq16 hb884 hq17 hb885 hq81 hb886 hq82 hb887 hq647 hb888 hq710 hb889 hq782 hb872 hq863 hr877 hr878 hr879 hr880 hr881 hr882 hN890 ha913 hn912
      refine st_nil ?_
      refine hK909 _ _ ?_
      clear hK909 K909
      refine wp_ret (ret_k hd915 (v := .bool true) (res_t rfl h916 _) ?_)
      exact ⟨rfl, hN917⟩
    have ht36d := of_decide_eq_false ht36
    refine wp_g0 [true, true, true, true, true, true, true, true] [] 198
      [ve (.agg #[.bool b1, sv A a c]),
       ve (.bool true),
       ve (.bool false),
       ve (.bool false),
       ve (.agg #[.bool b2, sv B b d]),
       ve (.bool false),
       ve (.bool true),
       ve (.bool true)] hs25 (.eq (.eq (.eq (.eq (.eq (.eq (.eq (.eq (.nil))))))))) ?_ ?_
    · skip
      refine .o1 (tk rfl rfl fun _ w hn k => ⟨_, v_load rfl (k.fx 2 h27) (l_two Try.isAgg24 Try.sizeOf24 (hb30.new_ hn)), rfl⟩) ?_
      refine .o1 (ck rfl rfl rfl (fun _ w hn k => ⟨#[.agg #[.bool b1, sv A a c]], args1 (k.eq1 0 29 rfl), fun _ => by kernel_rfl, bfew_c _ _ _ _ _ (hra.new_ (hN32.transNew hn))⟩) fun _ => congrArg Value.bool ht35) ?_
      refine .o1 (tk rfl rfl fun _ w hn k => ⟨_, v_not rfl (k.eq1 1 30 rfl), rfl⟩) ?_
      refine .o1 (tk rfl rfl fun _ w hn k => ⟨_, v_move rfl (k.eq1 2 31 rfl), rfl⟩) ?_
      refine .o1 (tg rfl rfl rfl (fun _ _ k => k.eq1 3 32 rfl) fun _ w hn k => ⟨_, v_load rfl (k.fx 3 h28) (l_two Try.isAgg24 Try.sizeOf24 (hb31.new_ hn)), rfl⟩) ?_
      refine .o1 (cg rfl rfl rfl (fun _ _ k => k.eq1 3 32 rfl) rfl (fun _ w hn k => ⟨#[.agg #[.bool b2, sv B b d]], args1 (k.eq1 4 33 rfl), fun _ => by kernel_rfl, bfew_c _ _ _ _ _ (hrb.new_ (hN32.transNew hn))⟩) fun _ => congrArg Value.bool ht36) ?_
      refine .o1 (tg rfl rfl rfl (fun _ _ k => k.eq1 3 32 rfl) fun _ w hn k => ⟨_, v_not rfl (k.eq1 5 34 rfl), rfl⟩) ?_
      refine .o1 (tk rfl rfl fun _ w hn k => ⟨_, v_pickF rfl (k.eq1 3 32 rfl) (k.eq1 6 35 rfl), rfl⟩) ?_
      exact .nil
    intro a918 w919 hn920 ha921
    have hs922 := ha921.size.trans hs25
    have hd923 := ha921.defers.trans hd26
    have h924 := ha921.fx 2 h27
    have h925 := ha921.fx 3 h28
    have h926 := ha921.ge 7 36 rfl
    have hb927 := hb30.new_ hn920
    have hb928 := hb31.new_ hn920
    have hN929 := hN32.transNew hn920
    clear hs25 hd26 h27 h28 h29 hb30 hb31 hN32 ha921 hn920
    refine st_nil ?_
    refine hK34 _ _ ?_
    clear hK34 K34
    refine wp_cond_true h926 ?_
    refine wp_seq_k fun K930 hK930 => ?_
    refine wp_g0 [true, true] [] 198
      [ve (.bool true),
       ve (.bool true)] hs922 (.eq (.eq (.nil))) ?_ ?_
    · skip
      refine .o1 (ck rfl rfl rfl (fun _ w hn k => ⟨#[], rfl, fun _ => by kernel_rfl, bfirst_c _⟩) fun _ => rfl) ?_
      refine .o1 (tk rfl rfl fun _ w hn k => ⟨_, v_assign rfl (k.eq1 0 37 rfl), rfl⟩) ?_
      exact .nil
    intro a931 w932 hn933 ha934
    have hs935 := ha934.size.trans hs922
    have hd936 := ha934.defers.trans hd923
    have h937 := ha934.ge 1 4 rfl
    have hN938 := hN929.transNew hn933
    clear hs922 hd923 h924 h925 h926 hb927 hq16 hb928 hq17 hN929 ha934 hn933
    refine st_nil ?_
    refine hK930 _ _ ?_
    clear hK930 K930
    refine wp_ret (ret_k hd936 (v := .bool true) (res_t rfl h937 _) ?_)
    exact ⟨rfl, hN938⟩
  have ht35d := of_decide_eq_false ht35
  refine wp_g0 [true, true, true, true, true, true, true, true] [] 198
    [ve (.agg #[.bool b1, sv A a c]),
     ve (.bool false),
     ve (.bool true),
     ve (.bool true),
     ve undef,
     ve undef,
     ve undef,
     ve (.bool true)] hs25 (.eq (.eq (.eq (.eq (.eq (.eq (.eq (.eq (.nil))))))))) ?_ ?_
  · skip
    refine .o1 (tk rfl rfl fun _ w hn k => ⟨_, v_load rfl (k.fx 2 h27) (l_two Try.isAgg24 Try.sizeOf24 (hb30.new_ hn)), rfl⟩) ?_
    refine .o1 (ck rfl rfl rfl (fun _ w hn k => ⟨#[.agg #[.bool b1, sv A a c]], args1 (k.eq1 0 29 rfl), fun _ => by kernel_rfl, bfew_c _ _ _ _ _ (hra.new_ (hN32.transNew hn))⟩) fun _ => congrArg Value.bool ht35) ?_
    refine .o1 (tk rfl rfl fun _ w hn k => ⟨_, v_not rfl (k.eq1 1 30 rfl), rfl⟩) ?_
    refine .o1 (tk rfl rfl fun _ w hn k => ⟨_, v_move rfl (k.eq1 2 31 rfl), rfl⟩) ?_
    refine .o1 (sk rfl rfl rfl (fun _ _ _ k => k.eq1 3 32 rfl) (fun _ => rfl)) ?_
    refine .o1 (sk rfl rfl rfl (fun _ _ _ k => k.eq1 3 32 rfl) (fun _ => rfl)) ?_
    refine .o1 (sk rfl rfl rfl (fun _ _ _ k => k.eq1 3 32 rfl) (fun _ => rfl)) ?_
    refine .o1 (tk rfl rfl fun _ w hn k => ⟨_, v_pickT rfl (k.eq1 3 32 rfl) rfl, rfl⟩) ?_
    exact .nil
  intro a939 w940 hn941 ha942
  have hs943 := ha942.size.trans hs25
  have hd944 := ha942.defers.trans hd26
  have h945 := ha942.fx 2 h27
  have h946 := ha942.fx 3 h28
  have h947 := ha942.ge 7 36 rfl
  have hb948 := hb30.new_ hn941
  have hb949 := hb31.new_ hn941
  have hN950 := hN32.transNew hn941
  clear hs25 hd26 h27 h28 h29 hb30 hb31 hN32 ha942 hn941
  refine st_nil ?_
  refine hK34 _ _ ?_
  clear hK34 K34
  refine wp_cond_true h947 ?_
  refine wp_seq_k fun K951 hK951 => ?_
  refine wp_g0 [true, true] [] 198
    [ve (.bool true),
     ve (.bool true)] hs943 (.eq (.eq (.nil))) ?_ ?_
  · skip
    refine .o1 (ck rfl rfl rfl (fun _ w hn k => ⟨#[], rfl, fun _ => by kernel_rfl, bfirst_c _⟩) fun _ => rfl) ?_
    refine .o1 (tk rfl rfl fun _ w hn k => ⟨_, v_assign rfl (k.eq1 0 37 rfl), rfl⟩) ?_
    exact .nil
  intro a952 w953 hn954 ha955
  have hs956 := ha955.size.trans hs943
  have hd957 := ha955.defers.trans hd944
  have h958 := ha955.ge 1 4 rfl
  have hN959 := hN950.transNew hn954
  clear hs943 hd944 h945 h946 h947 hb948 hq16 hb949 hq17 hN950 ha955 hn954
  refine st_nil ?_
  refine hK951 _ _ ?_
  clear hK951 K951
  refine wp_ret (ret_k hd957 (v := .bool true) (res_t rfl h958 _) ?_)
  exact ⟨rfl, hN959⟩
theorem reckons_walk (x y : Value) (z1 z2 : Int) (w : World) (hx : BigAt w x z1) (hy : BigAt w y z2) : Calls Try.prog 11 #[x, y] w (IsBool true w) := by
  obtain ⟨b1, v1, a, rfl, hra, ha, -⟩ := hx
  obtain ⟨A, c, rfl⟩ := hra.form
  obtain ⟨b2, v2, b, rfl, hrb, hb, -⟩ := hy
  obtain ⟨B, d, rfl⟩ := hrb.form
  exact reckons_w b1 A a c b2 B b d w hra ha hrb hb
end Go.Proofs.Ytfhflpchfgkgcaa
