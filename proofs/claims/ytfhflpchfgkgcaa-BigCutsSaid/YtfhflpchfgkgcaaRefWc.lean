/- BigCuts: walk. -/
import Derived.Test.YtfhflpchfgkgcaaRefW
import Derived.Test.YtfhflpchfgkgcaaRefE
namespace Go.Proofs.Ytfhflpchfgkgcaa
open Go.RowKit
set_option linter.unusedSimpArgs false
set_option linter.unusedVariables false
theorem bAsUint_c (b : Bool) (A : Option Addr) (m : List Nat) (c : Nat) (n : Int) (w : World) (hr : SRow w .u32 A m c) (hl : Limbs m) : Calls Try.prog 21 #[iv n, .agg #[.bool b, sv A m c]] w (RetZE (asU n (goodI b m)) (rangeE n) w) := by
  refine (asUint_any n _ _ w (big_in hr hl)).mono fun e w' h => ?_
  obtain ⟨f, A', n', c', rfl, hc, hn⟩ := h
  obtain ⟨rfl, rfl, hr'⟩ := hc.parts
  exact ⟨A', c', rfl, hr', hn⟩
theorem bAsInt_c (b : Bool) (A : Option Addr) (m : List Nat) (c : Nat) (n : Int) (w : World) (hr : SRow w .u32 A m c) (hl : Limbs m) : Calls Try.prog 23 #[iv n, .agg #[.bool b, sv A m c]] w (RetZE (asI n (goodI b m)) (rangeE n) w) := by
  refine (asInt_any n _ _ w (big_in hr hl)).mono fun e w' h => ?_
  obtain ⟨f, A', n', c', rfl, hc, hn⟩ := h
  obtain ⟨rfl, rfl, hr'⟩ := hc.parts
  exact ⟨A', c', rfl, hr', hn⟩
theorem bWord_c (b : Bool) (A : Option Addr) (m : List Nat) (c : Nat) (w : World) (hr : SRow w .u32 A m c) (hl : Limbs m) : Calls Try.prog 25 #[.agg #[.bool b, sv A m c]] w (IsRet (.int .u64 ((wordN (goodI b m) : Nat) : Int)) w) := by
  exact word_any _ _ w (big_in hr hl)
theorem bFromWord_c (u : Nat) (s : Bool) (w : World) (hu : u < 18446744073709551616) : Calls Try.prog 27 #[.int .u64 (u : Int), .bool s] w (RetZ (wordI u s) w) := by
  refine (fromWord_any u s w hu).mono fun e w' h => ?_
  obtain ⟨f, A', n', c', rfl, hc, hn⟩ := h
  obtain ⟨rfl, rfl, hr'⟩ := hc.parts
  exact ⟨A', c', rfl, hr', hn⟩
set_option maxHeartbeats 16000000 in
set_option maxRecDepth 100000 in
theorem cuts_w (n : Int) (b : Bool) (A : Option Addr) (m : List Nat) (c : Nat) (u : Nat) (k2 : Int) (s : Bool) (w : World) (hr : SRow w .u32 A m c) (hl : Limbs m) (hu : u < 18446744073709551616) (hlo : -9223372036854775808 ≤ k2) (hhi : k2 ≤ 9223372036854775807) : Calls Try.prog 4 #[iv n, .agg #[.bool b, sv A m c], .int .u64 (u : Int), iv k2, .bool s] w (IsRet (.bool true) w) := by
  refine enter_abs Try.func4 rfl fun a0 hs0 hd0 hp => ?_
  have hs0 : a0.tmps.size = 93 := hs0
  have hN0 : New w w := Upd.refl _ _
  have hp0 : a0.eval (.tmp 0) = iv n := hp 0 _ rfl
  have hp1 : a0.eval (.tmp 1) = .agg #[.bool b, sv A m c] := hp 1 _ rfl
  have hp2 : a0.eval (.tmp 2) = .int .u64 (u : Int) := hp 2 _ rfl
  have hp3 : a0.eval (.tmp 3) = iv k2 := hp 3 _ rfl
  have hp4 : a0.eval (.tmp 4) = .bool s := hp 4 _ rfl
  clear hp
  refine wp_seq_k fun K1 hK1 => ?_
  refine wp_g [true, true] [] [] 93
    [IsNew w 24 [.bool b, sv A m c],
     ve (.bool false)]
    [0] (newsCons (fun v w h => IsNew.old h) newsNil) hs0 (.nw (.eq (.nil))) ?_ (fun i h => by cases h) ?_
  · skip
    refine .o2 (step_allocN (cs := [.bool b, sv A m c]) (t := 24) rfl (noG rfl) (fun _ w hn k => v_box rfl (k.fx 1 hp1) (fun w => rfl)) (fun q _ hq hb => ⟨q, rfl, hq, hb⟩)) ?_
    refine .o1 (tk rfl rfl fun _ w hn k => ⟨_, v_assign rfl rfl, rfl⟩) ?_
    exact .nil
  intro a2 w3 hn4 ha5
  have hs6 := ha5.size.trans hs0
  have hd7 := ha5.defers.trans hd0
  have h8 := ha5.fx 0 hp0
  have h9 := ha5.fx 2 hp2
  have h10 := ha5.fx 3 hp3
  have h11 := ha5.fx 4 hp4
  obtain ⟨q13, h12, hq14, hb15⟩ : IsNew _ _ _ _ _ := ha5.got 0 6 rfl (by kernel_rfl)
  have hq16 := Nat.le_trans hN0.size hq14
  have hN17 := hN0.transNew hn4
  clear hs0 hd0 hp0 hp1 hp2 hp3 hp4 hq14 hN0 ha5 hn4
  refine st_nil ?_
  refine hK1 _ _ ?_
  clear hK1 K1
  refine wp_seq_k fun K18 hK18 => ?_
  refine wp_seq_k fun K19 hK19 => ?_
  refine wp_g0 [true, true] [] 93
    [ve (.bool true),
     ve (.bool false)] hs6 (.eq (.eq (.nil))) ?_ ?_
  · skip
    refine .o1 (ck rfl rfl rfl (fun _ w hn k => ⟨#[], rfl, fun _ => by kernel_rfl, bfirst_c _⟩) fun _ => rfl) ?_
    refine .o1 (tk rfl rfl fun _ w hn k => ⟨_, v_not rfl (k.eq1 0 19 rfl), rfl⟩) ?_
    exact .nil
  intro a20 w21 hn22 ha23
  have hs24 := ha23.size.trans hs6
  have hd25 := ha23.defers.trans hd7
  have h26 := ha23.fx 0 h8
  have h27 := ha23.fx 2 h9
  have h28 := ha23.fx 3 h10
  have h29 := ha23.fx 4 h11
  have h30 := ha23.fx 6 h12
  have h31 := ha23.ge 1 20 rfl
  have hb32 := hb15.new_ hn22
  have hN33 := hN17.transNew hn22
  clear hs6 hd7 h8 h9 h10 h11 h12 hb15 hN17 ha23 hn22
  refine st_nil ?_
  refine hK19 _ _ ?_
  clear hK19 K19
  refine wp_cond_false h31 ?_
  refine wp_skip ?_
  refine hK18 _ _ ?_
  clear hK18 K18
  refine wp_seq_k fun K34 hK34 => ?_
  refine wp_seq_k fun K35 hK35 => ?_
  rcases Bool.eq_false_or_eq_true (decide (m.length ≤ 40)) with ht36 | ht36
  · skip
    have ht36d := of_decide_eq_true ht36
    refine wp_g0 [true, true, true] [] 93
      [ve (.agg #[.bool b, sv A m c]),
       ve (.bool true),
       ve (.bool false)] hs24 (.eq (.eq (.eq (.nil)))) ?_ ?_
    · skip
      refine .o1 (tk rfl rfl fun _ w hn k => ⟨_, v_load rfl (k.fx 6 h30) (l_two Try.isAgg24 Try.sizeOf24 (hb32.new_ hn)), rfl⟩) ?_
      refine .o1 (ck rfl rfl rfl (fun _ w hn k => ⟨#[.agg #[.bool b, sv A m c]], args1 (k.eq1 0 21 rfl), fun _ => by kernel_rfl, bfew_c _ _ _ _ _ (hr.new_ (hN33.transNew hn))⟩) fun _ => congrArg Value.bool ht36) ?_
      refine .o1 (tk rfl rfl fun _ w hn k => ⟨_, v_not rfl (k.eq1 1 22 rfl), rfl⟩) ?_
      exact .nil
    intro a37 w38 hn39 ha40
    have hs41 := ha40.size.trans hs24
    have hd42 := ha40.defers.trans hd25
    have h43 := ha40.fx 0 h26
    have h44 := ha40.fx 2 h27
    have h45 := ha40.fx 3 h28
    have h46 := ha40.fx 4 h29
    have h47 := ha40.fx 6 h30
    have h48 := ha40.ge 2 23 rfl
    have hb49 := hb32.new_ hn39
    have hN50 := hN33.transNew hn39
    clear hs24 hd25 h26 h27 h28 h29 h30 h31 hb32 hN33 ha40 hn39
    refine st_nil ?_
    refine hK35 _ _ ?_
    clear hK35 K35
    refine wp_cond_false h48 ?_
    refine wp_skip ?_
    refine hK34 _ _ ?_
    clear hK34 K34
    refine wp_seq_k fun K51 hK51 => ?_
    refine wp_gS (fun W => True) (fun W W' hn h => trivial) trivial [true, true, true, true, true, true, true, false, false] [5] [(7, false), (8, true)] 93
      [ve (iv n),
       ve (.agg #[.bool b, sv A m c]),
       (fun (v : Value) (W : World) => ∃ (A3 : Option Addr) (c4 : Nat), v = .tuple #[.agg #[.bool (decide (asU n (goodI b m) < 0)), sv A3 (canon (asU n (goodI b m)).natAbs) c4], iv (rangeE n)] ∧ SRow W .u32 A3 (canon (asU n (goodI b m)).natAbs) c4),
       (fun (v : Value) (W : World) => ∃ (A9 : Option Addr) (c10 : Nat), v = .tuple #[.agg #[.bool (decide (asU n (goodI b m) < 0)), sv A9 (canon (asU n (goodI b m)).natAbs) c10], iv (rangeE n)] ∧ SRow W .u32 A9 (canon (asU n (goodI b m)).natAbs) c10),
       (fun (v : Value) (W : World) => ∃ (A15 : Option Addr) (c16 : Nat), v = .agg #[.bool (decide (asU n (goodI b m) < 0)), sv A15 (canon (asU n (goodI b m)).natAbs) c16] ∧ SRow W .u32 A15 (canon (asU n (goodI b m)).natAbs) c16),
       ve (iv (rangeE n)),
       IsNew w38 24 [.bool false, sv none ([]) 0],
       vt,
       vt]
      [6] (newsCons (fun v w h => IsNew.old h) newsNil) hs41 (.eq (.eq (.cons (fun v W W' hn ⟨A3, c4, he, h0⟩ => ⟨A3, c4, he, h0.new_ hn⟩) (.cons (fun v W W' hn ⟨A9, c10, he, h0⟩ => ⟨A9, c10, he, h0.new_ hn⟩) (.cons (fun v W W' hn ⟨A15, c16, he, h0⟩ => ⟨A15, c16, he, h0.new_ hn⟩) (.eq (.nw (.tt (.tt (.nil)))))))))) ?_ ?_ ?_
    · skip
      refine .o1 (tk rfl rfl fun _ w hn k => ⟨_, v_move rfl (k.fx 0 h43), rfl⟩) ?_
      refine .o1 (tk rfl rfl fun _ w hn k => ⟨_, v_load rfl (k.fx 6 h47) (l_two Try.isAgg24 Try.sizeOf24 (hb49.new_ hn)), rfl⟩) ?_
      refine .o1 (tkC rfl (noG rfl) rfl fun _ w hn k => (by
            refine ⟨#[iv n, .agg #[.bool b, sv A m c]], _, args2 (k.eq1 0 26 rfl) (k.eq1 1 27 rfl), fun w => by kernel_rfl, bAsUint_c _ _ _ _ n _ (hr.new_ (hN50.transNew hn)) hl, ?_⟩
            rintro e w' ⟨A1, c2, rfl, hmo, hm⟩
            exact ⟨_, rfl, hm, ⟨A1, c2, rfl, hmo⟩⟩)) ?_
      refine .o1 (tk rfl rfl fun _ w hn k => (by
            obtain ⟨A5, c6, e7, hx8⟩ : (fun (v : Value) (W : World) => ∃ (A3 : Option Addr) (c4 : Nat), v = .tuple #[.agg #[.bool (decide (asU n (goodI b m) < 0)), sv A3 (canon (asU n (goodI b m)).natAbs) c4], iv (rangeE n)] ∧ SRow W .u32 A3 (canon (asU n (goodI b m)).natAbs) c4) _ _ := k.dep 2 28 (by kernel_rfl) (by kernel_rfl)
            exact ⟨_, v_move rfl e7, ⟨A5, c6, rfl, hx8⟩⟩)) ?_
      refine .o1 (tk rfl rfl fun _ w hn k => (by
            obtain ⟨A11, c12, e13, hx14⟩ : (fun (v : Value) (W : World) => ∃ (A9 : Option Addr) (c10 : Nat), v = .tuple #[.agg #[.bool (decide (asU n (goodI b m) < 0)), sv A9 (canon (asU n (goodI b m)).natAbs) c10], iv (rangeE n)] ∧ SRow W .u32 A9 (canon (asU n (goodI b m)).natAbs) c10) _ _ := k.dep 3 25 (by kernel_rfl) (by kernel_rfl)
            exact ⟨_, v_extract rfl e13 rfl, ⟨A11, c12, rfl, hx14⟩⟩)) ?_
      refine .o3 ?_
      refine .o2 (step_allocN (cs := [.bool false, sv none ([]) 0]) (t := 24) rfl (noG rfl) (fun _ w hn k => rfl) (fun q _ hq hb => ⟨q, rfl, hq, hb⟩)) ?_
      refine .off ?_
      refine .off ?_
      exact .nil
    · skip
      intro i h
      simp only [List.contains_eq_mem, List.mem_cons, List.not_mem_nil, or_false, decide_eq_true_eq] at h
      subst h
      · exact eager_takeG rfl (noG rfl) fun _ w hn k => (by
            obtain ⟨A17, c18, e19, hx20⟩ : (fun (v : Value) (W : World) => ∃ (A9 : Option Addr) (c10 : Nat), v = .tuple #[.agg #[.bool (decide (asU n (goodI b m) < 0)), sv A9 (canon (asU n (goodI b m)).natAbs) c10], iv (rangeE n)] ∧ SRow W .u32 A9 (canon (asU n (goodI b m)).natAbs) c10) _ _ := k.dep 3 25 (by kernel_rfl) (by kernel_rfl)
            exact ⟨_, fun w hS => v_extract rfl e19 rfl, rfl⟩)
    intro a52 w53 _ hn54 ha55
    have hs56 := ha55.size.trans hs41
    have hd57 := ha55.defers.trans hd42
    have h58 := ha55.fx 0 h43
    have h59 := ha55.fx 2 h44
    have h60 := ha55.fx 3 h45
    have h61 := ha55.fx 4 h46
    have h62 := ha55.fx 6 h47
    obtain ⟨A64, cc65, h63, hr66⟩ : (fun (v : Value) (W : World) => ∃ (A15 : Option Addr) (c16 : Nat), v = .agg #[.bool (decide (asU n (goodI b m) < 0)), sv A15 (canon (asU n (goodI b m)).natAbs) c16] ∧ SRow W .u32 A15 (canon (asU n (goodI b m)).natAbs) c16) _ _ := ha55.got 4 29 rfl (by kernel_rfl)
    have h63 : a52.eval (.tmp 29) = .agg #[.bool (decide (asU n (goodI b m) < 0)), sv A64 (canon (asU n (goodI b m)).natAbs) cc65] := h63
    have h67 := ha55.ge 5 30 rfl
    obtain ⟨q69, h68, hq70, hb71⟩ : IsNew _ _ _ _ _ := ha55.got 6 11 rfl (by kernel_rfl)
    have hb72 := hb49.new_ hn54
    have hne73 : q13 ≠ q69 := by have h1 := hb49.lt; have h2 := hq70; omega
    have hq74 := Nat.le_trans hN50.size hq70
    have hN75 := hN50.transNew hn54
    clear hs41 hd42 h43 h44 h45 h46 h47 h48 hb49 hq70 hN50 ha55 hn54
    obtain ⟨w76, -, hst77, hb78, hu79, hf80⟩ := s_two (v0 := .bool (decide (asU n (goodI b m) < 0))) (v1 := sv A64 (canon (asU n (goodI b m)).natAbs) cc65) Try.sizeOf24 rfl rfl rfl hb71
    refine st_act rfl rfl fun K81 hL82 => a_store' rfl h68 h63 hst77 (hL82 _ _ trivial ?_)
    have hr83 := hr66.far hb71 hu79 (by first | rfl | decide | simp [notK])
    have hb84 := hf80 _ _ _ (hne73) hb72
    have hN85 := hN75.trans hu79 (fun k hk hkb => by subst hkb; omega)
    clear hb71 hst77 K81 hL82 hN75 hr66 hb72 hu79 hf80
    refine st_take rfl rfl (y_assign (v := iv (rangeE n)) rfl h67) rfl ?_
    obtain ⟨a86, ha87⟩ : ∃ a', a' = a52.put (some 12) (iv (rangeE n)) := ⟨_, rfl⟩
    have hs88 : a86.tmps.size = 93 := by rw [ha87, put_size]; exact hs56
    have hd89 : a86.defers = [] := by rw [ha87, put_defers]; exact hd57
    have h90 : a86.eval (.tmp 0) = iv n := by rw [ha87, put_ne _ _ _ _ (by decide)]; exact h58
    have h91 : a86.eval (.tmp 2) = .int .u64 (u : Int) := by rw [ha87, put_ne _ _ _ _ (by decide)]; exact h59
    have h92 : a86.eval (.tmp 3) = iv k2 := by rw [ha87, put_ne _ _ _ _ (by decide)]; exact h60
    have h93 : a86.eval (.tmp 4) = .bool s := by rw [ha87, put_ne _ _ _ _ (by decide)]; exact h61
    have h94 : a86.eval (.tmp 6) = pv q13 := by rw [ha87, put_ne _ _ _ _ (by decide)]; exact h62
    have h95 : a86.eval (.tmp 29) = .agg #[.bool (decide (asU n (goodI b m) < 0)), sv A64 (canon (asU n (goodI b m)).natAbs) cc65] := by rw [ha87, put_ne _ _ _ _ (by decide)]; exact h63
    have h96 : a86.eval (.tmp 30) = iv (rangeE n) := by rw [ha87, put_ne _ _ _ _ (by decide)]; exact h67
    have h97 : a86.eval (.tmp 11) = pv q69 := by rw [ha87, put_ne _ _ _ _ (by decide)]; exact h68
    have h98 : a86.eval (.tmp 12) = iv (rangeE n) := by rw [ha87]; exact put_same _ _ _ (by rw [hs56]; decide)
    show stepsTo _ _ _ _ _ (a52.put (some 12) (iv (rangeE n))) _
    rw [← ha87]
    clear ha87 hs56 hd57 h58 h59 h60 h61 h62 h63 h67 h68
    clear hne73
    refine st_nil ?_
    clear h95 h96
    refine hK51 _ _ ?_
    clear hK51 K51
    refine wp_seq_k fun K99 hK99 => ?_
    refine wp_gS (fun W => True) (fun W W' hn h => trivial) trivial [true, true, true, true, true, true, true, false, false] [5] [(7, false), (8, true)] 93
      [ve (iv n),
       ve (.agg #[.bool b, sv A m c]),
       (fun (v : Value) (W : World) => ∃ (A27 : Option Addr) (c28 : Nat), v = .tuple #[.agg #[.bool (decide (asU n (goodI b m) < 0)), sv A27 (canon (asU n (goodI b m)).natAbs) c28], iv (rangeE n)] ∧ SRow W .u32 A27 (canon (asU n (goodI b m)).natAbs) c28),
       (fun (v : Value) (W : World) => ∃ (A33 : Option Addr) (c34 : Nat), v = .tuple #[.agg #[.bool (decide (asU n (goodI b m) < 0)), sv A33 (canon (asU n (goodI b m)).natAbs) c34], iv (rangeE n)] ∧ SRow W .u32 A33 (canon (asU n (goodI b m)).natAbs) c34),
       (fun (v : Value) (W : World) => ∃ (A39 : Option Addr) (c40 : Nat), v = .agg #[.bool (decide (asU n (goodI b m) < 0)), sv A39 (canon (asU n (goodI b m)).natAbs) c40] ∧ SRow W .u32 A39 (canon (asU n (goodI b m)).natAbs) c40),
       ve (iv (rangeE n)),
       IsNew w76 24 [.bool false, sv none ([]) 0],
       vt,
       vt]
      [6] (newsCons (fun v w h => IsNew.old h) newsNil) hs88 (.eq (.eq (.cons (fun v W W' hn ⟨A27, c28, he, h0⟩ => ⟨A27, c28, he, h0.new_ hn⟩) (.cons (fun v W W' hn ⟨A33, c34, he, h0⟩ => ⟨A33, c34, he, h0.new_ hn⟩) (.cons (fun v W W' hn ⟨A39, c40, he, h0⟩ => ⟨A39, c40, he, h0.new_ hn⟩) (.eq (.nw (.tt (.tt (.nil)))))))))) ?_ ?_ ?_
    · skip
      refine .o1 (tk rfl rfl fun _ w hn k => ⟨_, v_move rfl (k.fx 0 h90), rfl⟩) ?_
      refine .o1 (tk rfl rfl fun _ w hn k => ⟨_, v_load rfl (k.fx 6 h94) (l_two Try.isAgg24 Try.sizeOf24 (hb84.new_ hn)), rfl⟩) ?_
      refine .o1 (tkC rfl (noG rfl) rfl fun _ w hn k => (by
            refine ⟨#[iv n, .agg #[.bool b, sv A m c]], _, args2 (k.eq1 0 32 rfl) (k.eq1 1 33 rfl), fun w => by kernel_rfl, rasu_c _ _ _ _ n _ (hr.new_ (hN85.transNew hn)) hl, ?_⟩
            rintro e w' ⟨A25, c26, rfl, hmo, hm⟩
            exact ⟨_, rfl, hm, ⟨A25, c26, rfl, hmo⟩⟩)) ?_
      refine .o1 (tk rfl rfl fun _ w hn k => (by
            obtain ⟨A29, c30, e31, hx32⟩ : (fun (v : Value) (W : World) => ∃ (A27 : Option Addr) (c28 : Nat), v = .tuple #[.agg #[.bool (decide (asU n (goodI b m) < 0)), sv A27 (canon (asU n (goodI b m)).natAbs) c28], iv (rangeE n)] ∧ SRow W .u32 A27 (canon (asU n (goodI b m)).natAbs) c28) _ _ := k.dep 2 34 (by kernel_rfl) (by kernel_rfl)
            exact ⟨_, v_move rfl e31, ⟨A29, c30, rfl, hx32⟩⟩)) ?_
      refine .o1 (tk rfl rfl fun _ w hn k => (by
            obtain ⟨A35, c36, e37, hx38⟩ : (fun (v : Value) (W : World) => ∃ (A33 : Option Addr) (c34 : Nat), v = .tuple #[.agg #[.bool (decide (asU n (goodI b m) < 0)), sv A33 (canon (asU n (goodI b m)).natAbs) c34], iv (rangeE n)] ∧ SRow W .u32 A33 (canon (asU n (goodI b m)).natAbs) c34) _ _ := k.dep 3 31 (by kernel_rfl) (by kernel_rfl)
            exact ⟨_, v_extract rfl e37 rfl, ⟨A35, c36, rfl, hx38⟩⟩)) ?_
      refine .o3 ?_
      refine .o2 (step_allocN (cs := [.bool false, sv none ([]) 0]) (t := 24) rfl (noG rfl) (fun _ w hn k => rfl) (fun q _ hq hb => ⟨q, rfl, hq, hb⟩)) ?_
      refine .off ?_
      refine .off ?_
      exact .nil
    · skip
      intro i h
      simp only [List.contains_eq_mem, List.mem_cons, List.not_mem_nil, or_false, decide_eq_true_eq] at h
      subst h
      · exact eager_takeG rfl (noG rfl) fun _ w hn k => (by
            obtain ⟨A41, c42, e43, hx44⟩ : (fun (v : Value) (W : World) => ∃ (A33 : Option Addr) (c34 : Nat), v = .tuple #[.agg #[.bool (decide (asU n (goodI b m) < 0)), sv A33 (canon (asU n (goodI b m)).natAbs) c34], iv (rangeE n)] ∧ SRow W .u32 A33 (canon (asU n (goodI b m)).natAbs) c34) _ _ := k.dep 3 31 (by kernel_rfl) (by kernel_rfl)
            exact ⟨_, fun w hS => v_extract rfl e43 rfl, rfl⟩)
    intro a100 w101 _ hn102 ha103
    have hs104 := ha103.size.trans hs88
    have hd105 := ha103.defers.trans hd89
    have h106 := ha103.fx 0 h90
    have h107 := ha103.fx 2 h91
    have h108 := ha103.fx 3 h92
    have h109 := ha103.fx 4 h93
    have h110 := ha103.fx 6 h94
    have h111 := ha103.fx 11 h97
    have h112 := ha103.fx 12 h98
    obtain ⟨A114, cc115, h113, hr116⟩ : (fun (v : Value) (W : World) => ∃ (A39 : Option Addr) (c40 : Nat), v = .agg #[.bool (decide (asU n (goodI b m) < 0)), sv A39 (canon (asU n (goodI b m)).natAbs) c40] ∧ SRow W .u32 A39 (canon (asU n (goodI b m)).natAbs) c40) _ _ := ha103.got 4 35 rfl (by kernel_rfl)
    have h113 : a100.eval (.tmp 35) = .agg #[.bool (decide (asU n (goodI b m) < 0)), sv A114 (canon (asU n (goodI b m)).natAbs) cc115] := h113
    have h117 := ha103.ge 5 36 rfl
    obtain ⟨q119, h118, hq120, hb121⟩ : IsNew _ _ _ _ _ := ha103.got 6 13 rfl (by kernel_rfl)
    have hb122 := hb84.new_ hn102
    have hb123 := hb78.new_ hn102
    have hne124 : q13 ≠ q119 := by have h1 := hb84.lt; have h2 := hq120; omega
    have hne125 : q69 ≠ q119 := by have h1 := hb78.lt; have h2 := hq120; omega
    have hq126 := Nat.le_trans hN85.size hq120
    have hr127 := hr83.new_ hn102
    have hN128 := hN85.transNew hn102
    clear hs88 hd89 h90 h91 h92 h93 h94 h97 h98 hb84 hb78 hq120 hr83 hN85 ha103 hn102
    obtain ⟨w129, -, hst130, hb131, hu132, hf133⟩ := s_two (v0 := .bool (decide (asU n (goodI b m) < 0))) (v1 := sv A114 (canon (asU n (goodI b m)).natAbs) cc115) Try.sizeOf24 rfl rfl rfl hb121
    refine st_act rfl rfl fun K134 hL135 => a_store' rfl h118 h113 hst130 (hL135 _ _ trivial ?_)
    have hr136 := hr127.far hb121 hu132 (by first | rfl | decide | simp [notK])
    have hr137 := hr116.far hb121 hu132 (by first | rfl | decide | simp [notK])
    have hb138 := hf133 _ _ _ (hne124) hb122
    have hb139 := hf133 _ _ _ (hne125) hb123
    have hN140 := hN128.trans hu132 (fun k hk hkb => by subst hkb; omega)
    clear hb121 hst130 K134 hL135 hN128 hr127 hr116 hb122 hb123 hu132 hf133
    refine st_take rfl rfl (y_assign (v := iv (rangeE n)) rfl h117) rfl ?_
    obtain ⟨a141, ha142⟩ : ∃ a', a' = a100.put (some 14) (iv (rangeE n)) := ⟨_, rfl⟩
    have hs143 : a141.tmps.size = 93 := by rw [ha142, put_size]; exact hs104
    have hd144 : a141.defers = [] := by rw [ha142, put_defers]; exact hd105
    have h145 : a141.eval (.tmp 0) = iv n := by rw [ha142, put_ne _ _ _ _ (by decide)]; exact h106
    have h146 : a141.eval (.tmp 2) = .int .u64 (u : Int) := by rw [ha142, put_ne _ _ _ _ (by decide)]; exact h107
    have h147 : a141.eval (.tmp 3) = iv k2 := by rw [ha142, put_ne _ _ _ _ (by decide)]; exact h108
    have h148 : a141.eval (.tmp 4) = .bool s := by rw [ha142, put_ne _ _ _ _ (by decide)]; exact h109
    have h149 : a141.eval (.tmp 6) = pv q13 := by rw [ha142, put_ne _ _ _ _ (by decide)]; exact h110
    have h150 : a141.eval (.tmp 11) = pv q69 := by rw [ha142, put_ne _ _ _ _ (by decide)]; exact h111
    have h151 : a141.eval (.tmp 12) = iv (rangeE n) := by rw [ha142, put_ne _ _ _ _ (by decide)]; exact h112
    have h152 : a141.eval (.tmp 35) = .agg #[.bool (decide (asU n (goodI b m) < 0)), sv A114 (canon (asU n (goodI b m)).natAbs) cc115] := by rw [ha142, put_ne _ _ _ _ (by decide)]; exact h113
    have h153 : a141.eval (.tmp 36) = iv (rangeE n) := by rw [ha142, put_ne _ _ _ _ (by decide)]; exact h117
    have h154 : a141.eval (.tmp 13) = pv q119 := by rw [ha142, put_ne _ _ _ _ (by decide)]; exact h118
    have h155 : a141.eval (.tmp 14) = iv (rangeE n) := by rw [ha142]; exact put_same _ _ _ (by rw [hs104]; decide)
    show stepsTo _ _ _ _ _ (a100.put (some 14) (iv (rangeE n))) _
    rw [← ha142]
    clear ha142 hs104 hd105 h106 h107 h108 h109 h110 h111 h112 h113 h117 h118
    clear hne124
    clear hne125
    refine st_nil ?_
    clear h152 h153
    refine hK99 _ _ ?_
    clear hK99 K99
    refine wp_seq_k fun K156 hK156 => ?_
    refine wp_gS (fun W => True) (fun W W' hn h => trivial) trivial [true, true, true, true, true, true, true, false, false] [5] [(7, false), (8, true)] 93
      [ve (iv n),
       ve (.agg #[.bool b, sv A m c]),
       (fun (v : Value) (W : World) => ∃ (A51 : Option Addr) (c52 : Nat), v = .tuple #[.agg #[.bool (decide (asI n (goodI b m) < 0)), sv A51 (canon (asI n (goodI b m)).natAbs) c52], iv (rangeE n)] ∧ SRow W .u32 A51 (canon (asI n (goodI b m)).natAbs) c52),
       (fun (v : Value) (W : World) => ∃ (A57 : Option Addr) (c58 : Nat), v = .tuple #[.agg #[.bool (decide (asI n (goodI b m) < 0)), sv A57 (canon (asI n (goodI b m)).natAbs) c58], iv (rangeE n)] ∧ SRow W .u32 A57 (canon (asI n (goodI b m)).natAbs) c58),
       (fun (v : Value) (W : World) => ∃ (A63 : Option Addr) (c64 : Nat), v = .agg #[.bool (decide (asI n (goodI b m) < 0)), sv A63 (canon (asI n (goodI b m)).natAbs) c64] ∧ SRow W .u32 A63 (canon (asI n (goodI b m)).natAbs) c64),
       ve (iv (rangeE n)),
       IsNew w129 24 [.bool false, sv none ([]) 0],
       vt,
       vt]
      [6] (newsCons (fun v w h => IsNew.old h) newsNil) hs143 (.eq (.eq (.cons (fun v W W' hn ⟨A51, c52, he, h0⟩ => ⟨A51, c52, he, h0.new_ hn⟩) (.cons (fun v W W' hn ⟨A57, c58, he, h0⟩ => ⟨A57, c58, he, h0.new_ hn⟩) (.cons (fun v W W' hn ⟨A63, c64, he, h0⟩ => ⟨A63, c64, he, h0.new_ hn⟩) (.eq (.nw (.tt (.tt (.nil)))))))))) ?_ ?_ ?_
    · skip
      refine .o1 (tk rfl rfl fun _ w hn k => ⟨_, v_move rfl (k.fx 0 h145), rfl⟩) ?_
      refine .o1 (tk rfl rfl fun _ w hn k => ⟨_, v_load rfl (k.fx 6 h149) (l_two Try.isAgg24 Try.sizeOf24 (hb138.new_ hn)), rfl⟩) ?_
      refine .o1 (tkC rfl (noG rfl) rfl fun _ w hn k => (by
            refine ⟨#[iv n, .agg #[.bool b, sv A m c]], _, args2 (k.eq1 0 38 rfl) (k.eq1 1 39 rfl), fun w => by kernel_rfl, bAsInt_c _ _ _ _ n _ (hr.new_ (hN140.transNew hn)) hl, ?_⟩
            rintro e w' ⟨A49, c50, rfl, hmo, hm⟩
            exact ⟨_, rfl, hm, ⟨A49, c50, rfl, hmo⟩⟩)) ?_
      refine .o1 (tk rfl rfl fun _ w hn k => (by
            obtain ⟨A53, c54, e55, hx56⟩ : (fun (v : Value) (W : World) => ∃ (A51 : Option Addr) (c52 : Nat), v = .tuple #[.agg #[.bool (decide (asI n (goodI b m) < 0)), sv A51 (canon (asI n (goodI b m)).natAbs) c52], iv (rangeE n)] ∧ SRow W .u32 A51 (canon (asI n (goodI b m)).natAbs) c52) _ _ := k.dep 2 40 (by kernel_rfl) (by kernel_rfl)
            exact ⟨_, v_move rfl e55, ⟨A53, c54, rfl, hx56⟩⟩)) ?_
      refine .o1 (tk rfl rfl fun _ w hn k => (by
            obtain ⟨A59, c60, e61, hx62⟩ : (fun (v : Value) (W : World) => ∃ (A57 : Option Addr) (c58 : Nat), v = .tuple #[.agg #[.bool (decide (asI n (goodI b m) < 0)), sv A57 (canon (asI n (goodI b m)).natAbs) c58], iv (rangeE n)] ∧ SRow W .u32 A57 (canon (asI n (goodI b m)).natAbs) c58) _ _ := k.dep 3 37 (by kernel_rfl) (by kernel_rfl)
            exact ⟨_, v_extract rfl e61 rfl, ⟨A59, c60, rfl, hx62⟩⟩)) ?_
      refine .o3 ?_
      refine .o2 (step_allocN (cs := [.bool false, sv none ([]) 0]) (t := 24) rfl (noG rfl) (fun _ w hn k => rfl) (fun q _ hq hb => ⟨q, rfl, hq, hb⟩)) ?_
      refine .off ?_
      refine .off ?_
      exact .nil
    · skip
      intro i h
      simp only [List.contains_eq_mem, List.mem_cons, List.not_mem_nil, or_false, decide_eq_true_eq] at h
      subst h
      · exact eager_takeG rfl (noG rfl) fun _ w hn k => (by
            obtain ⟨A65, c66, e67, hx68⟩ : (fun (v : Value) (W : World) => ∃ (A57 : Option Addr) (c58 : Nat), v = .tuple #[.agg #[.bool (decide (asI n (goodI b m) < 0)), sv A57 (canon (asI n (goodI b m)).natAbs) c58], iv (rangeE n)] ∧ SRow W .u32 A57 (canon (asI n (goodI b m)).natAbs) c58) _ _ := k.dep 3 37 (by kernel_rfl) (by kernel_rfl)
            exact ⟨_, fun w hS => v_extract rfl e67 rfl, rfl⟩)
    intro a157 w158 _ hn159 ha160
    have hs161 := ha160.size.trans hs143
    have hd162 := ha160.defers.trans hd144
    have h163 := ha160.fx 0 h145
    have h164 := ha160.fx 2 h146
    have h165 := ha160.fx 3 h147
    have h166 := ha160.fx 4 h148
    have h167 := ha160.fx 6 h149
    have h168 := ha160.fx 11 h150
    have h169 := ha160.fx 12 h151
    have h170 := ha160.fx 13 h154
    have h171 := ha160.fx 14 h155
    obtain ⟨A173, cc174, h172, hr175⟩ : (fun (v : Value) (W : World) => ∃ (A63 : Option Addr) (c64 : Nat), v = .agg #[.bool (decide (asI n (goodI b m) < 0)), sv A63 (canon (asI n (goodI b m)).natAbs) c64] ∧ SRow W .u32 A63 (canon (asI n (goodI b m)).natAbs) c64) _ _ := ha160.got 4 41 rfl (by kernel_rfl)
    have h172 : a157.eval (.tmp 41) = .agg #[.bool (decide (asI n (goodI b m) < 0)), sv A173 (canon (asI n (goodI b m)).natAbs) cc174] := h172
    have h176 := ha160.ge 5 42 rfl
    obtain ⟨q178, h177, hq179, hb180⟩ : IsNew _ _ _ _ _ := ha160.got 6 15 rfl (by kernel_rfl)
    have hb181 := hb138.new_ hn159
    have hb182 := hb139.new_ hn159
    have hb183 := hb131.new_ hn159
    have hne184 : q13 ≠ q178 := by have h1 := hb138.lt; have h2 := hq179; omega
    have hne185 : q69 ≠ q178 := by have h1 := hb139.lt; have h2 := hq179; omega
    have hne186 : q119 ≠ q178 := by have h1 := hb131.lt; have h2 := hq179; omega
    have hq187 := Nat.le_trans hN140.size hq179
    have hr188 := hr136.new_ hn159
    have hr189 := hr137.new_ hn159
    have hN190 := hN140.transNew hn159
    clear hs143 hd144 h145 h146 h147 h148 h149 h150 h151 h154 h155 hb138 hb139 hb131 hq179 hr136 hr137 hN140 ha160 hn159
    obtain ⟨w191, -, hst192, hb193, hu194, hf195⟩ := s_two (v0 := .bool (decide (asI n (goodI b m) < 0))) (v1 := sv A173 (canon (asI n (goodI b m)).natAbs) cc174) Try.sizeOf24 rfl rfl rfl hb180
    refine st_act rfl rfl fun K196 hL197 => a_store' rfl h177 h172 hst192 (hL197 _ _ trivial ?_)
    have hr198 := hr188.far hb180 hu194 (by first | rfl | decide | simp [notK])
    have hr199 := hr189.far hb180 hu194 (by first | rfl | decide | simp [notK])
    have hr200 := hr175.far hb180 hu194 (by first | rfl | decide | simp [notK])
    have hb201 := hf195 _ _ _ (hne184) hb181
    have hb202 := hf195 _ _ _ (hne185) hb182
    have hb203 := hf195 _ _ _ (hne186) hb183
    have hN204 := hN190.trans hu194 (fun k hk hkb => by subst hkb; omega)
    clear hb180 hst192 K196 hL197 hN190 hr188 hr189 hr175 hb181 hb182 hb183 hu194 hf195
    refine st_take rfl rfl (y_assign (v := iv (rangeE n)) rfl h176) rfl ?_
    obtain ⟨a205, ha206⟩ : ∃ a', a' = a157.put (some 16) (iv (rangeE n)) := ⟨_, rfl⟩
    have hs207 : a205.tmps.size = 93 := by rw [ha206, put_size]; exact hs161
    have hd208 : a205.defers = [] := by rw [ha206, put_defers]; exact hd162
    have h209 : a205.eval (.tmp 0) = iv n := by rw [ha206, put_ne _ _ _ _ (by decide)]; exact h163
    have h210 : a205.eval (.tmp 2) = .int .u64 (u : Int) := by rw [ha206, put_ne _ _ _ _ (by decide)]; exact h164
    have h211 : a205.eval (.tmp 3) = iv k2 := by rw [ha206, put_ne _ _ _ _ (by decide)]; exact h165
    have h212 : a205.eval (.tmp 4) = .bool s := by rw [ha206, put_ne _ _ _ _ (by decide)]; exact h166
    have h213 : a205.eval (.tmp 6) = pv q13 := by rw [ha206, put_ne _ _ _ _ (by decide)]; exact h167
    have h214 : a205.eval (.tmp 11) = pv q69 := by rw [ha206, put_ne _ _ _ _ (by decide)]; exact h168
    have h215 : a205.eval (.tmp 12) = iv (rangeE n) := by rw [ha206, put_ne _ _ _ _ (by decide)]; exact h169
    have h216 : a205.eval (.tmp 13) = pv q119 := by rw [ha206, put_ne _ _ _ _ (by decide)]; exact h170
    have h217 : a205.eval (.tmp 14) = iv (rangeE n) := by rw [ha206, put_ne _ _ _ _ (by decide)]; exact h171
    have h218 : a205.eval (.tmp 41) = .agg #[.bool (decide (asI n (goodI b m) < 0)), sv A173 (canon (asI n (goodI b m)).natAbs) cc174] := by rw [ha206, put_ne _ _ _ _ (by decide)]; exact h172
    have h219 : a205.eval (.tmp 42) = iv (rangeE n) := by rw [ha206, put_ne _ _ _ _ (by decide)]; exact h176
    have h220 : a205.eval (.tmp 15) = pv q178 := by rw [ha206, put_ne _ _ _ _ (by decide)]; exact h177
    have h221 : a205.eval (.tmp 16) = iv (rangeE n) := by rw [ha206]; exact put_same _ _ _ (by rw [hs161]; decide)
    show stepsTo _ _ _ _ _ (a157.put (some 16) (iv (rangeE n))) _
    rw [← ha206]
    clear ha206 hs161 hd162 h163 h164 h165 h166 h167 h168 h169 h170 h171 h172 h176 h177
    clear hne184
    clear hne185
    clear hne186
    refine st_nil ?_
    clear h218 h219
    refine hK156 _ _ ?_
    clear hK156 K156
    refine wp_seq_k fun K222 hK222 => ?_
    refine wp_gS (fun W => True) (fun W W' hn h => trivial) trivial [true, true, true, true, true, true, true, false, false] [5] [(7, false), (8, true)] 93
      [ve (iv n),
       ve (.agg #[.bool b, sv A m c]),
       (fun (v : Value) (W : World) => ∃ (A75 : Option Addr) (c76 : Nat), v = .tuple #[.agg #[.bool (decide (asI n (goodI b m) < 0)), sv A75 (canon (asI n (goodI b m)).natAbs) c76], iv (rangeE n)] ∧ SRow W .u32 A75 (canon (asI n (goodI b m)).natAbs) c76),
       (fun (v : Value) (W : World) => ∃ (A81 : Option Addr) (c82 : Nat), v = .tuple #[.agg #[.bool (decide (asI n (goodI b m) < 0)), sv A81 (canon (asI n (goodI b m)).natAbs) c82], iv (rangeE n)] ∧ SRow W .u32 A81 (canon (asI n (goodI b m)).natAbs) c82),
       (fun (v : Value) (W : World) => ∃ (A87 : Option Addr) (c88 : Nat), v = .agg #[.bool (decide (asI n (goodI b m) < 0)), sv A87 (canon (asI n (goodI b m)).natAbs) c88] ∧ SRow W .u32 A87 (canon (asI n (goodI b m)).natAbs) c88),
       ve (iv (rangeE n)),
       IsNew w191 24 [.bool false, sv none ([]) 0],
       vt,
       vt]
      [6] (newsCons (fun v w h => IsNew.old h) newsNil) hs207 (.eq (.eq (.cons (fun v W W' hn ⟨A75, c76, he, h0⟩ => ⟨A75, c76, he, h0.new_ hn⟩) (.cons (fun v W W' hn ⟨A81, c82, he, h0⟩ => ⟨A81, c82, he, h0.new_ hn⟩) (.cons (fun v W W' hn ⟨A87, c88, he, h0⟩ => ⟨A87, c88, he, h0.new_ hn⟩) (.eq (.nw (.tt (.tt (.nil)))))))))) ?_ ?_ ?_
    · skip
      refine .o1 (tk rfl rfl fun _ w hn k => ⟨_, v_move rfl (k.fx 0 h209), rfl⟩) ?_
      refine .o1 (tk rfl rfl fun _ w hn k => ⟨_, v_load rfl (k.fx 6 h213) (l_two Try.isAgg24 Try.sizeOf24 (hb201.new_ hn)), rfl⟩) ?_
      refine .o1 (tkC rfl (noG rfl) rfl fun _ w hn k => (by
            refine ⟨#[iv n, .agg #[.bool b, sv A m c]], _, args2 (k.eq1 0 44 rfl) (k.eq1 1 45 rfl), fun w => by kernel_rfl, rasi_c _ _ _ _ n _ (hr.new_ (hN204.transNew hn)) hl, ?_⟩
            rintro e w' ⟨A73, c74, rfl, hmo, hm⟩
            exact ⟨_, rfl, hm, ⟨A73, c74, rfl, hmo⟩⟩)) ?_
      refine .o1 (tk rfl rfl fun _ w hn k => (by
            obtain ⟨A77, c78, e79, hx80⟩ : (fun (v : Value) (W : World) => ∃ (A75 : Option Addr) (c76 : Nat), v = .tuple #[.agg #[.bool (decide (asI n (goodI b m) < 0)), sv A75 (canon (asI n (goodI b m)).natAbs) c76], iv (rangeE n)] ∧ SRow W .u32 A75 (canon (asI n (goodI b m)).natAbs) c76) _ _ := k.dep 2 46 (by kernel_rfl) (by kernel_rfl)
            exact ⟨_, v_move rfl e79, ⟨A77, c78, rfl, hx80⟩⟩)) ?_
      refine .o1 (tk rfl rfl fun _ w hn k => (by
            obtain ⟨A83, c84, e85, hx86⟩ : (fun (v : Value) (W : World) => ∃ (A81 : Option Addr) (c82 : Nat), v = .tuple #[.agg #[.bool (decide (asI n (goodI b m) < 0)), sv A81 (canon (asI n (goodI b m)).natAbs) c82], iv (rangeE n)] ∧ SRow W .u32 A81 (canon (asI n (goodI b m)).natAbs) c82) _ _ := k.dep 3 43 (by kernel_rfl) (by kernel_rfl)
            exact ⟨_, v_extract rfl e85 rfl, ⟨A83, c84, rfl, hx86⟩⟩)) ?_
      refine .o3 ?_
      refine .o2 (step_allocN (cs := [.bool false, sv none ([]) 0]) (t := 24) rfl (noG rfl) (fun _ w hn k => rfl) (fun q _ hq hb => ⟨q, rfl, hq, hb⟩)) ?_
      refine .off ?_
      refine .off ?_
      exact .nil
    · skip
      intro i h
      simp only [List.contains_eq_mem, List.mem_cons, List.not_mem_nil, or_false, decide_eq_true_eq] at h
      subst h
      · exact eager_takeG rfl (noG rfl) fun _ w hn k => (by
            obtain ⟨A89, c90, e91, hx92⟩ : (fun (v : Value) (W : World) => ∃ (A81 : Option Addr) (c82 : Nat), v = .tuple #[.agg #[.bool (decide (asI n (goodI b m) < 0)), sv A81 (canon (asI n (goodI b m)).natAbs) c82], iv (rangeE n)] ∧ SRow W .u32 A81 (canon (asI n (goodI b m)).natAbs) c82) _ _ := k.dep 3 43 (by kernel_rfl) (by kernel_rfl)
            exact ⟨_, fun w hS => v_extract rfl e91 rfl, rfl⟩)
    intro a223 w224 _ hn225 ha226
    have hs227 := ha226.size.trans hs207
    have hd228 := ha226.defers.trans hd208
    have h229 := ha226.fx 2 h210
    have h230 := ha226.fx 3 h211
    have h231 := ha226.fx 4 h212
    have h232 := ha226.fx 6 h213
    have h233 := ha226.fx 11 h214
    have h234 := ha226.fx 12 h215
    have h235 := ha226.fx 13 h216
    have h236 := ha226.fx 14 h217
    have h237 := ha226.fx 15 h220
    have h238 := ha226.fx 16 h221
    obtain ⟨A240, cc241, h239, hr242⟩ : (fun (v : Value) (W : World) => ∃ (A87 : Option Addr) (c88 : Nat), v = .agg #[.bool (decide (asI n (goodI b m) < 0)), sv A87 (canon (asI n (goodI b m)).natAbs) c88] ∧ SRow W .u32 A87 (canon (asI n (goodI b m)).natAbs) c88) _ _ := ha226.got 4 47 rfl (by kernel_rfl)
    have h239 : a223.eval (.tmp 47) = .agg #[.bool (decide (asI n (goodI b m) < 0)), sv A240 (canon (asI n (goodI b m)).natAbs) cc241] := h239
    have h243 := ha226.ge 5 48 rfl
    obtain ⟨q245, h244, hq246, hb247⟩ : IsNew _ _ _ _ _ := ha226.got 6 17 rfl (by kernel_rfl)
    have hb248 := hb201.new_ hn225
    have hb249 := hb202.new_ hn225
    have hb250 := hb203.new_ hn225
    have hb251 := hb193.new_ hn225
    have hne252 : q13 ≠ q245 := by have h1 := hb201.lt; have h2 := hq246; omega
    have hne253 : q69 ≠ q245 := by have h1 := hb202.lt; have h2 := hq246; omega
    have hne254 : q119 ≠ q245 := by have h1 := hb203.lt; have h2 := hq246; omega
    have hne255 : q178 ≠ q245 := by have h1 := hb193.lt; have h2 := hq246; omega
    have hq256 := Nat.le_trans hN204.size hq246
    have hr257 := hr198.new_ hn225
    have hr258 := hr199.new_ hn225
    have hr259 := hr200.new_ hn225
    have hN260 := hN204.transNew hn225
    clear hs207 hd208 h209 h210 h211 h212 h213 h214 h215 h216 h217 h220 h221 hb201 hb202 hb203 hb193 hq246 hr198 hr199 hr200 hN204 ha226 hn225
    obtain ⟨w261, -, hst262, hb263, hu264, hf265⟩ := s_two (v0 := .bool (decide (asI n (goodI b m) < 0))) (v1 := sv A240 (canon (asI n (goodI b m)).natAbs) cc241) Try.sizeOf24 rfl rfl rfl hb247
    refine st_act rfl rfl fun K266 hL267 => a_store' rfl h244 h239 hst262 (hL267 _ _ trivial ?_)
    have hr268 := hr257.far hb247 hu264 (by first | rfl | decide | simp [notK])
    have hr269 := hr258.far hb247 hu264 (by first | rfl | decide | simp [notK])
    have hr270 := hr259.far hb247 hu264 (by first | rfl | decide | simp [notK])
    have hr271 := hr242.far hb247 hu264 (by first | rfl | decide | simp [notK])
    have hb272 := hf265 _ _ _ (hne252) hb248
    have hb273 := hf265 _ _ _ (hne253) hb249
    have hb274 := hf265 _ _ _ (hne254) hb250
    have hb275 := hf265 _ _ _ (hne255) hb251
    have hN276 := hN260.trans hu264 (fun k hk hkb => by subst hkb; omega)
    clear hb247 hst262 K266 hL267 hN260 hr257 hr258 hr259 hr242 hb248 hb249 hb250 hb251 hu264 hf265
    refine st_take rfl rfl (y_assign (v := iv (rangeE n)) rfl h243) rfl ?_
    obtain ⟨a277, ha278⟩ : ∃ a', a' = a223.put (some 18) (iv (rangeE n)) := ⟨_, rfl⟩
    have hs279 : a277.tmps.size = 93 := by rw [ha278, put_size]; exact hs227
    have hd280 : a277.defers = [] := by rw [ha278, put_defers]; exact hd228
    have h281 : a277.eval (.tmp 2) = .int .u64 (u : Int) := by rw [ha278, put_ne _ _ _ _ (by decide)]; exact h229
    have h282 : a277.eval (.tmp 3) = iv k2 := by rw [ha278, put_ne _ _ _ _ (by decide)]; exact h230
    have h283 : a277.eval (.tmp 4) = .bool s := by rw [ha278, put_ne _ _ _ _ (by decide)]; exact h231
    have h284 : a277.eval (.tmp 6) = pv q13 := by rw [ha278, put_ne _ _ _ _ (by decide)]; exact h232
    have h285 : a277.eval (.tmp 11) = pv q69 := by rw [ha278, put_ne _ _ _ _ (by decide)]; exact h233
    have h286 : a277.eval (.tmp 12) = iv (rangeE n) := by rw [ha278, put_ne _ _ _ _ (by decide)]; exact h234
    have h287 : a277.eval (.tmp 13) = pv q119 := by rw [ha278, put_ne _ _ _ _ (by decide)]; exact h235
    have h288 : a277.eval (.tmp 14) = iv (rangeE n) := by rw [ha278, put_ne _ _ _ _ (by decide)]; exact h236
    have h289 : a277.eval (.tmp 15) = pv q178 := by rw [ha278, put_ne _ _ _ _ (by decide)]; exact h237
    have h290 : a277.eval (.tmp 16) = iv (rangeE n) := by rw [ha278, put_ne _ _ _ _ (by decide)]; exact h238
    have h291 : a277.eval (.tmp 47) = .agg #[.bool (decide (asI n (goodI b m) < 0)), sv A240 (canon (asI n (goodI b m)).natAbs) cc241] := by rw [ha278, put_ne _ _ _ _ (by decide)]; exact h239
    have h292 : a277.eval (.tmp 48) = iv (rangeE n) := by rw [ha278, put_ne _ _ _ _ (by decide)]; exact h243
    have h293 : a277.eval (.tmp 17) = pv q245 := by rw [ha278, put_ne _ _ _ _ (by decide)]; exact h244
    have h294 : a277.eval (.tmp 18) = iv (rangeE n) := by rw [ha278]; exact put_same _ _ _ (by rw [hs227]; decide)
    show stepsTo _ _ _ _ _ (a223.put (some 18) (iv (rangeE n))) _
    rw [← ha278]
    clear ha278 hs227 hd228 h229 h230 h231 h232 h233 h234 h235 h236 h237 h238 h239 h243 h244
    clear hne252
    clear hne253
    clear hne254
    clear hne255
    refine st_nil ?_
    clear h291 h292
    refine hK222 _ _ ?_
    clear hK222 K222
    refine wp_seq_k fun K295 hK295 => ?_
    refine wp_g0 [true, true, true, true, true, true, true, true, true, true, true, true, true, true, true, true, true, true, true, true, true, true, true, true, true, true, true, true, true, true, true, true, true, true, true, true, true, true, true, true, true, true, true, true, true] [] 93
      [ve (.bool true),
       ve (.bool true),
       ve (.agg #[.bool (decide (asU n (goodI b m) < 0)), sv A64 (canon (asU n (goodI b m)).natAbs) cc65]),
       ve (.agg #[.bool (decide (asU n (goodI b m) < 0)), sv A114 (canon (asU n (goodI b m)).natAbs) cc115]),
       ve (.bool true),
       ve (.bool true),
       ve (.bool true),
       ve (iv (rangeE n)),
       ve (iv (rangeE n)),
       ve (.bool true),
       ve (.bool true),
       ve (.bool true),
       ve (.agg #[.bool (decide (asI n (goodI b m) < 0)), sv A173 (canon (asI n (goodI b m)).natAbs) cc174]),
       ve (.agg #[.bool (decide (asI n (goodI b m) < 0)), sv A240 (canon (asI n (goodI b m)).natAbs) cc241]),
       ve (.bool true),
       ve (.bool true),
       ve (.bool true),
       ve (iv (rangeE n)),
       ve (iv (rangeE n)),
       ve (.bool true),
       ve (.bool true),
       ve (.bool true),
       ve (.agg #[.bool b, sv A m c]),
       ve (.int .u64 ((wordN (goodI b m) : Nat) : Int)),
       ve (.agg #[.bool b, sv A m c]),
       ve (.int .u64 ((wordN (goodI b m) : Nat) : Int)),
       ve (.bool true),
       ve (.bool true),
       ve (.bool true),
       ve (.int .u64 (u : Int)),
       ve (.bool s),
       (fun (v : Value) (W : World) => ∃ (A99 : Option Addr) (c100 : Nat), v = .agg #[.bool (decide (wordI u s < 0)), sv A99 (canon (wordI u s).natAbs) c100] ∧ SRow W .u32 A99 (canon (wordI u s).natAbs) c100),
       ve (.int .u64 (u : Int)),
       ve (.bool s),
       (fun (v : Value) (W : World) => ∃ (A103 : Option Addr) (c104 : Nat), v = .agg #[.bool (decide (wordI u s < 0)), sv A103 (canon (wordI u s).natAbs) c104] ∧ SRow W .u32 A103 (canon (wordI u s).natAbs) c104),
       ve (.bool true),
       ve (.bool true),
       ve (.bool true),
       ve (iv k2),
       (fun (v : Value) (W : World) => ∃ (A115 : Option Addr) (c116 : Nat), v = .agg #[.bool (decide (k2 < 0)), sv A115 (canon k2.natAbs) c116] ∧ SRow W .u32 A115 (canon k2.natAbs) c116),
       ve (iv k2),
       (fun (v : Value) (W : World) => ∃ (A119 : Option Addr) (c120 : Nat), v = .agg #[.bool (decide (k2 < 0)), sv A119 (canon k2.natAbs) c120] ∧ SRow W .u32 A119 (canon k2.natAbs) c120),
       ve (.bool true),
       ve (.bool true),
       ve (.bool true)] hs279 (.eq (.eq (.eq (.eq (.eq (.eq (.eq (.eq (.eq (.eq (.eq (.eq (.eq (.eq (.eq (.eq (.eq (.eq (.eq (.eq (.eq (.eq (.eq (.eq (.eq (.eq (.eq (.eq (.eq (.eq (.eq (.cons (fun v W W' hn ⟨A99, c100, he, h0⟩ => ⟨A99, c100, he, h0.new_ hn⟩) (.eq (.eq (.cons (fun v W W' hn ⟨A103, c104, he, h0⟩ => ⟨A103, c104, he, h0.new_ hn⟩) (.eq (.eq (.eq (.eq (.cons (fun v W W' hn ⟨A115, c116, he, h0⟩ => ⟨A115, c116, he, h0.new_ hn⟩) (.eq (.cons (fun v W W' hn ⟨A119, c120, he, h0⟩ => ⟨A119, c120, he, h0.new_ hn⟩) (.eq (.eq (.eq (.nil)))))))))))))))))))))))))))))))))))))))))))))) ?_ ?_
    · skip
      refine .o1 (ck rfl rfl rfl (fun _ w hn k => ⟨#[], rfl, fun _ => by kernel_rfl, bfirst_c _⟩) fun _ => rfl) ?_
      refine .o1 (tk rfl rfl fun _ w hn k => ⟨_, v_move rfl (k.eq1 0 49 rfl), rfl⟩) ?_
      refine .o1 (tg rfl rfl rfl (fun _ _ k => k.eq1 1 50 rfl) fun _ w hn k => ⟨_, v_load rfl (k.fx 11 h285) (l_two Try.isAgg24 Try.sizeOf24 (hb273.new_ hn)), rfl⟩) ?_
      refine .o1 (tg rfl rfl rfl (fun _ _ k => k.eq1 1 50 rfl) fun _ w hn k => ⟨_, v_load rfl (k.fx 13 h287) (l_two Try.isAgg24 Try.sizeOf24 (hb274.new_ hn)), rfl⟩) ?_
      refine .o1 (cg rfl rfl rfl (fun _ _ k => k.eq1 1 50 rfl) rfl (fun _ w hn k => ⟨#[.agg #[.bool (decide (asU n (goodI b m) < 0)), sv A64 (canon (asU n (goodI b m)).natAbs) cc65], .agg #[.bool (decide (asU n (goodI b m) < 0)), sv A114 (canon (asU n (goodI b m)).natAbs) cc115]], args2 (k.eq1 2 51 rfl) (k.eq1 3 52 rfl), fun _ => by kernel_rfl, rbig_c _ _ _ _ _ _ _ _ _ (hr268.new_ hn) (hr269.new_ hn)⟩) fun _ => congrArg Value.bool (by simp)) ?_
      refine .o1 (tk rfl rfl fun _ w hn k => ⟨_, v_pickT rfl (k.eq1 1 50 rfl) (k.eq1 4 53 rfl), rfl⟩) ?_
      refine .o1 (tk rfl rfl fun _ w hn k => ⟨_, v_move rfl (k.eq1 5 54 rfl), rfl⟩) ?_
      refine .o1 (tg rfl rfl rfl (fun _ _ k => k.eq1 6 55 rfl) fun _ w hn k => ⟨_, v_move rfl (k.fx 12 h286), rfl⟩) ?_
      refine .o1 (tg rfl rfl rfl (fun _ _ k => k.eq1 6 55 rfl) fun _ w hn k => ⟨_, v_move rfl (k.fx 14 h288), rfl⟩) ?_
      refine .o1 (tg rfl rfl rfl (fun _ _ k => k.eq1 6 55 rfl) fun _ w hn k => ⟨_, v_bin rfl (k.eq1 7 56 rfl) (k.eq1 8 57 rfl) (fun _ => rfl) (n_eql_self _ _), rfl⟩) ?_
      refine .o1 (tk rfl rfl fun _ w hn k => ⟨_, v_pickT rfl (k.eq1 6 55 rfl) (k.eq1 9 58 rfl), rfl⟩) ?_
      refine .o1 (tk rfl rfl fun _ w hn k => ⟨_, v_move rfl (k.eq1 10 59 rfl), rfl⟩) ?_
      refine .o1 (tg rfl rfl rfl (fun _ _ k => k.eq1 11 60 rfl) fun _ w hn k => ⟨_, v_load rfl (k.fx 15 h289) (l_two Try.isAgg24 Try.sizeOf24 (hb275.new_ hn)), rfl⟩) ?_
      refine .o1 (tg rfl rfl rfl (fun _ _ k => k.eq1 11 60 rfl) fun _ w hn k => ⟨_, v_load rfl (k.fx 17 h293) (l_two Try.isAgg24 Try.sizeOf24 (hb263.new_ hn)), rfl⟩) ?_
      refine .o1 (cg rfl rfl rfl (fun _ _ k => k.eq1 11 60 rfl) rfl (fun _ w hn k => ⟨#[.agg #[.bool (decide (asI n (goodI b m) < 0)), sv A173 (canon (asI n (goodI b m)).natAbs) cc174], .agg #[.bool (decide (asI n (goodI b m) < 0)), sv A240 (canon (asI n (goodI b m)).natAbs) cc241]], args2 (k.eq1 12 61 rfl) (k.eq1 13 62 rfl), fun _ => by kernel_rfl, rbig_c _ _ _ _ _ _ _ _ _ (hr270.new_ hn) (hr271.new_ hn)⟩) fun _ => congrArg Value.bool (by simp)) ?_
      refine .o1 (tk rfl rfl fun _ w hn k => ⟨_, v_pickT rfl (k.eq1 11 60 rfl) (k.eq1 14 63 rfl), rfl⟩) ?_
      refine .o1 (tk rfl rfl fun _ w hn k => ⟨_, v_move rfl (k.eq1 15 64 rfl), rfl⟩) ?_
      refine .o1 (tg rfl rfl rfl (fun _ _ k => k.eq1 16 65 rfl) fun _ w hn k => ⟨_, v_move rfl (k.fx 16 h290), rfl⟩) ?_
      refine .o1 (tg rfl rfl rfl (fun _ _ k => k.eq1 16 65 rfl) fun _ w hn k => ⟨_, v_move rfl (k.fx 18 h294), rfl⟩) ?_
      refine .o1 (tg rfl rfl rfl (fun _ _ k => k.eq1 16 65 rfl) fun _ w hn k => ⟨_, v_bin rfl (k.eq1 17 66 rfl) (k.eq1 18 67 rfl) (fun _ => rfl) (n_eql_self _ _), rfl⟩) ?_
      refine .o1 (tk rfl rfl fun _ w hn k => ⟨_, v_pickT rfl (k.eq1 16 65 rfl) (k.eq1 19 68 rfl), rfl⟩) ?_
      refine .o1 (tk rfl rfl fun _ w hn k => ⟨_, v_move rfl (k.eq1 20 69 rfl), rfl⟩) ?_
      refine .o1 (tg rfl rfl rfl (fun _ _ k => k.eq1 21 70 rfl) fun _ w hn k => ⟨_, v_load rfl (k.fx 6 h284) (l_two Try.isAgg24 Try.sizeOf24 (hb272.new_ hn)), rfl⟩) ?_
      refine .o1 (cg rfl rfl rfl (fun _ _ k => k.eq1 21 70 rfl) rfl (fun _ w hn k => ⟨#[.agg #[.bool b, sv A m c]], args1 (k.eq1 22 71 rfl), fun _ => by kernel_rfl, bWord_c _ _ _ _ _ (hr.new_ (hN276.transNew hn)) hl⟩) fun _ => rfl) ?_
      refine .o1 (tg rfl rfl rfl (fun _ _ k => k.eq1 21 70 rfl) fun _ w hn k => ⟨_, v_load rfl (k.fx 6 h284) (l_two Try.isAgg24 Try.sizeOf24 (hb272.new_ hn)), rfl⟩) ?_
      refine .o1 (cg rfl rfl rfl (fun _ _ k => k.eq1 21 70 rfl) rfl (fun _ w hn k => ⟨#[.agg #[.bool b, sv A m c]], args1 (k.eq1 24 73 rfl), fun _ => by kernel_rfl, rword1_c _ _ _ _ _ (hr.new_ (hN276.transNew hn)) hl⟩) fun _ => rfl) ?_
      refine .o1 (tg rfl rfl rfl (fun _ _ k => k.eq1 21 70 rfl) fun _ w hn k => ⟨_, v_bin rfl (k.eq1 23 72 rfl) (k.eq1 25 74 rfl) (fun _ => rfl) (n_eql_self _ _), rfl⟩) ?_
      refine .o1 (tk rfl rfl fun _ w hn k => ⟨_, v_pickT rfl (k.eq1 21 70 rfl) (k.eq1 26 75 rfl), rfl⟩) ?_
      refine .o1 (tk rfl rfl fun _ w hn k => ⟨_, v_move rfl (k.eq1 27 76 rfl), rfl⟩) ?_
      refine .o1 (tg rfl rfl rfl (fun _ _ k => k.eq1 28 77 rfl) fun _ w hn k => ⟨_, v_move rfl (k.fx 2 h281), rfl⟩) ?_
      refine .o1 (tg rfl rfl rfl (fun _ _ k => k.eq1 28 77 rfl) fun _ w hn k => ⟨_, v_move rfl (k.fx 4 h283), rfl⟩) ?_
      refine .o1 (tkC rfl (onG rfl rfl fun _ _ k => k.eq1 28 77 rfl) rfl fun _ w hn k => (by
            refine ⟨#[.int .u64 (u : Int), .bool s], _, args2 (k.eq1 29 78 rfl) (k.eq1 30 79 rfl), fun w => by kernel_rfl, bFromWord_c _ _ _ (by omega), ?_⟩
            rintro e w' ⟨A97, c98, rfl, hmo, hm⟩
            exact ⟨_, rfl, hm, ⟨A97, c98, rfl, hmo⟩⟩)) ?_
      refine .o1 (tg rfl rfl rfl (fun _ _ k => k.eq1 28 77 rfl) fun _ w hn k => ⟨_, v_move rfl (k.fx 2 h281), rfl⟩) ?_
      refine .o1 (tg rfl rfl rfl (fun _ _ k => k.eq1 28 77 rfl) fun _ w hn k => ⟨_, v_move rfl (k.fx 4 h283), rfl⟩) ?_
      refine .o1 (tkC rfl (onG rfl rfl fun _ _ k => k.eq1 28 77 rfl) rfl fun _ w hn k => (by
            refine ⟨#[.int .u64 (u : Int), .bool s], _, args2 (k.eq1 32 81 rfl) (k.eq1 33 82 rfl), fun w => by kernel_rfl, rfromw_c _ _ _ (by omega), ?_⟩
            rintro e w' ⟨A101, c102, rfl, hmo, hm⟩
            exact ⟨_, rfl, hm, ⟨A101, c102, rfl, hmo⟩⟩)) ?_
      refine .o1 (tkC rfl (onG rfl rfl fun _ _ k => k.eq1 28 77 rfl) rfl fun _ w hn k => (by
            obtain ⟨A105, c106, e107, hx108⟩ : (fun (v : Value) (W : World) => ∃ (A99 : Option Addr) (c100 : Nat), v = .agg #[.bool (decide (wordI u s < 0)), sv A99 (canon (wordI u s).natAbs) c100] ∧ SRow W .u32 A99 (canon (wordI u s).natAbs) c100) _ _ := k.dep 31 80 (by kernel_rfl) (by kernel_rfl)
            obtain ⟨A109, c110, e111, hx112⟩ : (fun (v : Value) (W : World) => ∃ (A103 : Option Addr) (c104 : Nat), v = .agg #[.bool (decide (wordI u s < 0)), sv A103 (canon (wordI u s).natAbs) c104] ∧ SRow W .u32 A103 (canon (wordI u s).natAbs) c104) _ _ := k.dep 34 83 (by kernel_rfl) (by kernel_rfl)
            refine ⟨#[.agg #[.bool (decide (wordI u s < 0)), sv A105 (canon (wordI u s).natAbs) c106], .agg #[.bool (decide (wordI u s < 0)), sv A109 (canon (wordI u s).natAbs) c110]], _, args2 e107 e111, fun w => by kernel_rfl, rbig_c _ _ _ _ _ _ _ _ _ hx108 hx112, ?_⟩
            rintro e w' ⟨rfl, hm⟩
            exact ⟨_, rfl, hm, congrArg Value.bool (by simp)⟩)) ?_
      refine .o1 (tk rfl rfl fun _ w hn k => ⟨_, v_pickT rfl (k.eq1 28 77 rfl) (k.eq1 35 84 rfl), rfl⟩) ?_
      refine .o1 (tk rfl rfl fun _ w hn k => ⟨_, v_move rfl (k.eq1 36 85 rfl), rfl⟩) ?_
      refine .o1 (tg rfl rfl rfl (fun _ _ k => k.eq1 37 86 rfl) fun _ w hn k => ⟨_, v_move rfl (k.fx 3 h282), rfl⟩) ?_
      refine .o1 (tkC rfl (onG rfl rfl fun _ _ k => k.eq1 37 86 rfl) rfl fun _ w hn k => (by
            refine ⟨#[iv k2], _, args1 (k.eq1 38 87 rfl), fun w => by kernel_rfl, bOf_c k2 _ (by omega) (by omega), ?_⟩
            rintro e w' ⟨A113, c114, rfl, hmo, hm⟩
            exact ⟨_, rfl, hm, ⟨A113, c114, rfl, hmo⟩⟩)) ?_
      refine .o1 (tg rfl rfl rfl (fun _ _ k => k.eq1 37 86 rfl) fun _ w hn k => ⟨_, v_move rfl (k.fx 3 h282), rfl⟩) ?_
      refine .o1 (tkC rfl (onG rfl rfl fun _ _ k => k.eq1 37 86 rfl) rfl fun _ w hn k => (by
            refine ⟨#[iv k2], _, args1 (k.eq1 40 89 rfl), fun w => by kernel_rfl, rof_c k2 _ (by omega) (by omega), ?_⟩
            rintro e w' ⟨A117, c118, rfl, hmo, hm⟩
            exact ⟨_, rfl, hm, ⟨A117, c118, rfl, hmo⟩⟩)) ?_
      refine .o1 (tkC rfl (onG rfl rfl fun _ _ k => k.eq1 37 86 rfl) rfl fun _ w hn k => (by
            obtain ⟨A121, c122, e123, hx124⟩ : (fun (v : Value) (W : World) => ∃ (A115 : Option Addr) (c116 : Nat), v = .agg #[.bool (decide (k2 < 0)), sv A115 (canon k2.natAbs) c116] ∧ SRow W .u32 A115 (canon k2.natAbs) c116) _ _ := k.dep 39 88 (by kernel_rfl) (by kernel_rfl)
            obtain ⟨A125, c126, e127, hx128⟩ : (fun (v : Value) (W : World) => ∃ (A119 : Option Addr) (c120 : Nat), v = .agg #[.bool (decide (k2 < 0)), sv A119 (canon k2.natAbs) c120] ∧ SRow W .u32 A119 (canon k2.natAbs) c120) _ _ := k.dep 41 90 (by kernel_rfl) (by kernel_rfl)
            refine ⟨#[.agg #[.bool (decide (k2 < 0)), sv A121 (canon k2.natAbs) c122], .agg #[.bool (decide (k2 < 0)), sv A125 (canon k2.natAbs) c126]], _, args2 e123 e127, fun w => by kernel_rfl, rbig_c _ _ _ _ _ _ _ _ _ hx124 hx128, ?_⟩
            rintro e w' ⟨rfl, hm⟩
            exact ⟨_, rfl, hm, congrArg Value.bool (by simp)⟩)) ?_
      refine .o1 (tk rfl rfl fun _ w hn k => ⟨_, v_pickT rfl (k.eq1 37 86 rfl) (k.eq1 42 91 rfl), rfl⟩) ?_
      refine .o1 (tk rfl rfl fun _ w hn k => ⟨_, v_assign rfl (k.eq1 43 92 rfl), rfl⟩) ?_
      exact .nil
    intro a296 w297 hn298 ha299
    have hs300 := ha299.size.trans hs279
    have hd301 := ha299.defers.trans hd280
    have h302 := ha299.ge 44 10 rfl
    have hN303 := hN276.transNew hn298
    clear hs279 hd280 h281 h282 h283 h284 h285 h286 h287 h288 h289 h290 h293 h294 hb272 hq16 hb273 hq74 hb274 hq126 hb275 hq187 hb263 hq256 hr268 hr269 hr270 hr271 hN276 ha299 hn298
    refine st_nil ?_
    refine hK295 _ _ ?_
    clear hK295 K295
    refine wp_ret (ret_k hd301 (v := .bool true) (res_t rfl h302 _) ?_)
    exact ⟨rfl, hN303⟩
  have ht36d := of_decide_eq_false ht36
  refine wp_g0 [true, true, true] [] 93
    [ve (.agg #[.bool b, sv A m c]),
     ve (.bool false),
     ve (.bool true)] hs24 (.eq (.eq (.eq (.nil)))) ?_ ?_
  · skip
    refine .o1 (tk rfl rfl fun _ w hn k => ⟨_, v_load rfl (k.fx 6 h30) (l_two Try.isAgg24 Try.sizeOf24 (hb32.new_ hn)), rfl⟩) ?_
    refine .o1 (ck rfl rfl rfl (fun _ w hn k => ⟨#[.agg #[.bool b, sv A m c]], args1 (k.eq1 0 21 rfl), fun _ => by kernel_rfl, bfew_c _ _ _ _ _ (hr.new_ (hN33.transNew hn))⟩) fun _ => congrArg Value.bool ht36) ?_
    refine .o1 (tk rfl rfl fun _ w hn k => ⟨_, v_not rfl (k.eq1 1 22 rfl), rfl⟩) ?_
    exact .nil
  intro a304 w305 hn306 ha307
  have hs308 := ha307.size.trans hs24
  have hd309 := ha307.defers.trans hd25
  have h310 := ha307.fx 0 h26
  have h311 := ha307.fx 2 h27
  have h312 := ha307.fx 3 h28
  have h313 := ha307.fx 4 h29
  have h314 := ha307.fx 6 h30
  have h315 := ha307.ge 2 23 rfl
  have hb316 := hb32.new_ hn306
  have hN317 := hN33.transNew hn306
  clear hs24 hd25 h26 h27 h28 h29 h30 h31 hb32 hN33 ha307 hn306
  refine st_nil ?_
  refine hK35 _ _ ?_
  clear hK35 K35
  refine wp_cond_true h315 ?_
  refine wp_seq_k fun K318 hK318 => ?_
  refine wp_g0 [true, true] [] 93
    [ve (.bool true),
     ve (.bool true)] hs308 (.eq (.eq (.nil))) ?_ ?_
  · skip
    refine .o1 (ck rfl rfl rfl (fun _ w hn k => ⟨#[], rfl, fun _ => by kernel_rfl, bfirst_c _⟩) fun _ => rfl) ?_
    refine .o1 (tk rfl rfl fun _ w hn k => ⟨_, v_assign rfl (k.eq1 0 24 rfl), rfl⟩) ?_
    exact .nil
  intro a319 w320 hn321 ha322
  have hs323 := ha322.size.trans hs308
  have hd324 := ha322.defers.trans hd309
  have h325 := ha322.ge 1 10 rfl
  have hN326 := hN317.transNew hn321
  clear hs308 hd309 h310 h311 h312 h313 h314 h315 hb316 hq16 hN317 ha322 hn321
  refine st_nil ?_
  refine hK318 _ _ ?_
  clear hK318 K318
  refine wp_ret (ret_k hd324 (v := .bool true) (res_t rfl h325 _) ?_)
  exact ⟨rfl, hN326⟩
theorem cuts_walk (n : Int) (x : Value) (u : Nat) (k2 : Int) (s : Bool) (z : Int) (w : World) (hx : BigAt w x z) (hu : u < 18446744073709551616) (hk : -9223372036854775808 ≤ k2 ∧ k2 ≤ 9223372036854775807) : Calls Try.prog 4 #[iv n, x, .int .u64 (u : Int), iv k2, .bool s] w (IsBool true w) := by
  obtain ⟨b, v, m, rfl, hr, hl, -⟩ := hx
  obtain ⟨A, c, rfl⟩ := hr.form
  exact cuts_w n b A m c u k2 s w hr hl hu hk.1 hk.2
end Go.Proofs.Ytfhflpchfgkgcaa
