/- BigTexts: walk. -/
import Derived.Test.YtfhflpchfgkgcaaRefP
namespace Go.Proofs.Ytfhflpchfgkgcaa
open Go.RowKit
set_option linter.unusedSimpArgs false
set_option linter.unusedVariables false
theorem bText_c (b : Bool) (A : Option Addr) (m : List Nat) (c : Nat) (w : World) (hr : SRow w .u32 A m c) (hl : Limbs m) : Calls Try.prog 18 #[.agg #[.bool b, sv A m c]] w (IsRet (.string (strOfNums (textI (goodI b m)))) w) := by
  exact text_any _ _ w (big_in hr hl)
theorem bParse_c (s : ByteArray) (w : World) (hs : s.size ≤ 100000) : Calls Try.prog 16 #[.string s] w (RetZE (parseZ s.data.toList).1 (parseZ s.data.toList).2 w) := by
  refine (parse_any s w hs).mono fun e w' h => ?_
  obtain ⟨f, A', n', c', rfl, hc, hn⟩ := h
  obtain ⟨rfl, rfl, hr'⟩ := hc.parts
  exact ⟨A', c', rfl, hr', hn⟩
set_option maxHeartbeats 16000000 in
set_option maxRecDepth 100000 in
theorem texts_w (b : Bool) (A : Option Addr) (m : List Nat) (c : Nat) (s : ByteArray) (w : World) (hr : SRow w .u32 A m c) (hl : Limbs m) : Calls Try.prog 3 #[.agg #[.bool b, sv A m c], .string s] w (IsRet (.bool true) w) := by
  refine enter_abs Try.func3 rfl fun a0 hs0 hd0 hp => ?_
  have hs0 : a0.tmps.size = 48 := hs0
  have hN0 : New w w := Upd.refl _ _
  have hp0 : a0.eval (.tmp 0) = .agg #[.bool b, sv A m c] := hp 0 _ rfl
  have hp1 : a0.eval (.tmp 1) = .string s := hp 1 _ rfl
  clear hp
  refine wp_seq_k fun K1 hK1 => ?_
  refine wp_g [true, true] [] [] 48
    [IsNew w 24 [.bool b, sv A m c],
     ve (.bool false)]
    [0] (newsCons (fun v w h => IsNew.old h) newsNil) hs0 (.nw (.eq (.nil))) ?_ (fun i h => by cases h) ?_
  · skip
    refine .o2 (step_allocN (cs := [.bool b, sv A m c]) (t := 24) rfl (noG rfl) (fun _ w hn k => v_box rfl (k.fx 0 hp0) (fun w => rfl)) (fun q _ hq hb => ⟨q, rfl, hq, hb⟩)) ?_
    refine .o1 (tk rfl rfl fun _ w hn k => ⟨_, v_assign rfl rfl, rfl⟩) ?_
    exact .nil
  intro a2 w3 hn4 ha5
  have hs6 := ha5.size.trans hs0
  have hd7 := ha5.defers.trans hd0
  have h8 := ha5.fx 1 hp1
  obtain ⟨q10, h9, hq11, hb12⟩ : IsNew _ _ _ _ _ := ha5.got 0 2 rfl (by kernel_rfl)
  have hq13 := Nat.le_trans hN0.size hq11
  have hN14 := hN0.transNew hn4
  clear hs0 hd0 hp0 hp1 hq11 hN0 ha5 hn4
  refine st_nil ?_
  refine hK1 _ _ ?_
  clear hK1 K1
  refine wp_seq_k fun K15 hK15 => ?_
  refine wp_seq_k fun K16 hK16 => ?_
  refine wp_g0 [true, true] [] 48
    [ve (.bool true),
     ve (.bool false)] hs6 (.eq (.eq (.nil))) ?_ ?_
  · skip
    refine .o1 (ck rfl rfl rfl (fun _ w hn k => ⟨#[], rfl, fun _ => by kernel_rfl, bfirst_c _⟩) fun _ => rfl) ?_
    refine .o1 (tk rfl rfl fun _ w hn k => ⟨_, v_not rfl (k.eq1 0 9 rfl), rfl⟩) ?_
    exact .nil
  intro a17 w18 hn19 ha20
  have hs21 := ha20.size.trans hs6
  have hd22 := ha20.defers.trans hd7
  have h23 := ha20.fx 1 h8
  have h24 := ha20.fx 2 h9
  have h25 := ha20.ge 1 10 rfl
  have hb26 := hb12.new_ hn19
  have hN27 := hN14.transNew hn19
  clear hs6 hd7 h8 h9 hb12 hN14 ha20 hn19
  refine st_nil ?_
  refine hK16 _ _ ?_
  clear hK16 K16
  refine wp_cond_false h25 ?_
  refine wp_skip ?_
  refine hK15 _ _ ?_
  clear hK15 K15
  refine wp_seq_k fun K28 hK28 => ?_
  refine wp_seq_k fun K29 hK29 => ?_
  rcases Bool.eq_false_or_eq_true (decide (m.length ≤ 40)) with ht30 | ht30
  · skip
    have ht30d := of_decide_eq_true ht30
    rcases Bool.eq_false_or_eq_true (decide ((s.size : Int) ≤ 300)) with ht31 | ht31
    · skip
      have ht31d := of_decide_eq_true ht31
      refine wp_g0 [true, true, true, true, true, true, true, true] [] 48
        [ve (.agg #[.bool b, sv A m c]),
         ve (.bool true),
         ve (.bool false),
         ve (.bool false),
         ve (.string s),
         ve (iv (s.size : Int)),
         ve (.bool false),
         ve (.bool false)] hs21 (.eq (.eq (.eq (.eq (.eq (.eq (.eq (.eq (.nil))))))))) ?_ ?_
      · skip
        refine .o1 (tk rfl rfl fun _ w hn k => ⟨_, v_load rfl (k.fx 2 h24) (l_two Try.isAgg24 Try.sizeOf24 (hb26.new_ hn)), rfl⟩) ?_
        refine .o1 (ck rfl rfl rfl (fun _ w hn k => ⟨#[.agg #[.bool b, sv A m c]], args1 (k.eq1 0 11 rfl), fun _ => by kernel_rfl, bfew_c _ _ _ _ _ (hr.new_ (hN27.transNew hn))⟩) fun _ => congrArg Value.bool ht30) ?_
        refine .o1 (tk rfl rfl fun _ w hn k => ⟨_, v_not rfl (k.eq1 1 12 rfl), rfl⟩) ?_
        refine .o1 (tk rfl rfl fun _ w hn k => ⟨_, v_move rfl (k.eq1 2 13 rfl), rfl⟩) ?_
        refine .o1 (tg rfl rfl rfl (fun _ _ k => k.eq1 3 14 rfl) fun _ w hn k => ⟨_, v_move rfl (k.fx 1 h23), rfl⟩) ?_
        refine .o1 (tg rfl rfl rfl (fun _ _ k => k.eq1 3 14 rfl) fun _ w hn k => ⟨_, v_lenS rfl (k.eq1 4 15 rfl) (by kernel_rfl), rfl⟩) ?_
        refine .o1 (tg rfl rfl rfl (fun _ _ k => k.eq1 3 14 rfl) fun _ w hn k => ⟨_, v_bin rfl (k.eq1 5 16 rfl) rfl (fun _ => rfl) (r_gtrK ht31), rfl⟩) ?_
        refine .o1 (tk rfl rfl fun _ w hn k => ⟨_, v_pickF rfl (k.eq1 3 14 rfl) (k.eq1 6 17 rfl), rfl⟩) ?_
        exact .nil
      intro a32 w33 hn34 ha35
      have hs36 := ha35.size.trans hs21
      have hd37 := ha35.defers.trans hd22
      have h38 := ha35.fx 1 h23
      have h39 := ha35.fx 2 h24
      have h40 := ha35.ge 7 18 rfl
      have hb41 := hb26.new_ hn34
      have hN42 := hN27.transNew hn34
      clear hs21 hd22 h23 h24 h25 hb26 hN27 ha35 hn34
      refine st_nil ?_
      refine hK29 _ _ ?_
      clear hK29 K29
      refine wp_cond_false h40 ?_
      refine wp_skip ?_
      refine hK28 _ _ ?_
      clear hK28 K28
      refine wp_seq_k fun K43 hK43 => ?_
      refine wp_gS (fun W => True) (fun W W' hn h => trivial) trivial [true, true, true, true, true, true, false, false] [4] [(6, false), (7, true)] 48
        [ve (.string s),
         (fun (v : Value) (W : World) => ∃ (A3 : Option Addr) (c4 : Nat), v = .tuple #[.agg #[.bool (decide ((parseZ s.data.toList).1 < 0)), sv A3 (canon ((parseZ s.data.toList).1).natAbs) c4], iv ((parseZ s.data.toList).2)] ∧ SRow W .u32 A3 (canon ((parseZ s.data.toList).1).natAbs) c4),
         (fun (v : Value) (W : World) => ∃ (A9 : Option Addr) (c10 : Nat), v = .tuple #[.agg #[.bool (decide ((parseZ s.data.toList).1 < 0)), sv A9 (canon ((parseZ s.data.toList).1).natAbs) c10], iv ((parseZ s.data.toList).2)] ∧ SRow W .u32 A9 (canon ((parseZ s.data.toList).1).natAbs) c10),
         (fun (v : Value) (W : World) => ∃ (A15 : Option Addr) (c16 : Nat), v = .agg #[.bool (decide ((parseZ s.data.toList).1 < 0)), sv A15 (canon ((parseZ s.data.toList).1).natAbs) c16] ∧ SRow W .u32 A15 (canon ((parseZ s.data.toList).1).natAbs) c16),
         ve (iv ((parseZ s.data.toList).2)),
         IsNew w33 24 [.bool false, sv none ([]) 0],
         vt,
         vt]
        [5] (newsCons (fun v w h => IsNew.old h) newsNil) hs36 (.eq (.cons (fun v W W' hn ⟨A3, c4, he, h0⟩ => ⟨A3, c4, he, h0.new_ hn⟩) (.cons (fun v W W' hn ⟨A9, c10, he, h0⟩ => ⟨A9, c10, he, h0.new_ hn⟩) (.cons (fun v W W' hn ⟨A15, c16, he, h0⟩ => ⟨A15, c16, he, h0.new_ hn⟩) (.eq (.nw (.tt (.tt (.nil))))))))) ?_ ?_ ?_
      · skip
        refine .o1 (tk rfl rfl fun _ w hn k => ⟨_, v_move rfl (k.fx 1 h38), rfl⟩) ?_
        refine .o1 (tkC rfl (noG rfl) rfl fun _ w hn k => (by
              refine ⟨#[.string s], _, args1 (k.eq1 0 21 rfl), fun w => by kernel_rfl, bParse_c _ _ (by omega), ?_⟩
              rintro e w' ⟨A1, c2, rfl, hmo, hm⟩
              exact ⟨_, rfl, hm, ⟨A1, c2, rfl, hmo⟩⟩)) ?_
        refine .o1 (tk rfl rfl fun _ w hn k => (by
              obtain ⟨A5, c6, e7, hx8⟩ : (fun (v : Value) (W : World) => ∃ (A3 : Option Addr) (c4 : Nat), v = .tuple #[.agg #[.bool (decide ((parseZ s.data.toList).1 < 0)), sv A3 (canon ((parseZ s.data.toList).1).natAbs) c4], iv ((parseZ s.data.toList).2)] ∧ SRow W .u32 A3 (canon ((parseZ s.data.toList).1).natAbs) c4) _ _ := k.dep 1 22 (by kernel_rfl) (by kernel_rfl)
              exact ⟨_, v_move rfl e7, ⟨A5, c6, rfl, hx8⟩⟩)) ?_
        refine .o1 (tk rfl rfl fun _ w hn k => (by
              obtain ⟨A11, c12, e13, hx14⟩ : (fun (v : Value) (W : World) => ∃ (A9 : Option Addr) (c10 : Nat), v = .tuple #[.agg #[.bool (decide ((parseZ s.data.toList).1 < 0)), sv A9 (canon ((parseZ s.data.toList).1).natAbs) c10], iv ((parseZ s.data.toList).2)] ∧ SRow W .u32 A9 (canon ((parseZ s.data.toList).1).natAbs) c10) _ _ := k.dep 2 20 (by kernel_rfl) (by kernel_rfl)
              exact ⟨_, v_extract rfl e13 rfl, ⟨A11, c12, rfl, hx14⟩⟩)) ?_
        refine .o3 ?_
        refine .o2 (step_allocN (cs := [.bool false, sv none ([]) 0]) (t := 24) rfl (noG rfl) (fun _ w hn k => rfl) (fun q _ hq hb => ⟨q, rfl, hq, hb⟩)) ?_
        refine .off ?_
        refine .off ?_
        exact .nil
      · skip
        intro i h
        simp only [List.contains_eq_mem, List.mem_cons, List.not_mem_nil, or_false, decide_eq_true_eq] at h
        subst h
        · exact eager_takeG rfl (noG rfl) fun _ w hn k => (by
              obtain ⟨A17, c18, e19, hx20⟩ : (fun (v : Value) (W : World) => ∃ (A9 : Option Addr) (c10 : Nat), v = .tuple #[.agg #[.bool (decide ((parseZ s.data.toList).1 < 0)), sv A9 (canon ((parseZ s.data.toList).1).natAbs) c10], iv ((parseZ s.data.toList).2)] ∧ SRow W .u32 A9 (canon ((parseZ s.data.toList).1).natAbs) c10) _ _ := k.dep 2 20 (by kernel_rfl) (by kernel_rfl)
              exact ⟨_, fun w hS => v_extract rfl e19 rfl, rfl⟩)
      intro a44 w45 _ hn46 ha47
      have hs48 := ha47.size.trans hs36
      have hd49 := ha47.defers.trans hd37
      have h50 := ha47.fx 1 h38
      have h51 := ha47.fx 2 h39
      obtain ⟨A53, cc54, h52, hr55⟩ : (fun (v : Value) (W : World) => ∃ (A15 : Option Addr) (c16 : Nat), v = .agg #[.bool (decide ((parseZ s.data.toList).1 < 0)), sv A15 (canon ((parseZ s.data.toList).1).natAbs) c16] ∧ SRow W .u32 A15 (canon ((parseZ s.data.toList).1).natAbs) c16) _ _ := ha47.got 3 23 rfl (by kernel_rfl)
      have h52 : a44.eval (.tmp 23) = .agg #[.bool (decide ((parseZ s.data.toList).1 < 0)), sv A53 (canon ((parseZ s.data.toList).1).natAbs) cc54] := h52
      have h56 := ha47.ge 4 24 rfl
      obtain ⟨q58, h57, hq59, hb60⟩ : IsNew _ _ _ _ _ := ha47.got 5 5 rfl (by kernel_rfl)
      have hb61 := hb41.new_ hn46
      have hne62 : q10 ≠ q58 := by have h1 := hb41.lt; have h2 := hq59; omega
      have hq63 := Nat.le_trans hN42.size hq59
      have hN64 := hN42.transNew hn46
      clear hs36 hd37 h38 h39 h40 hb41 hq59 hN42 ha47 hn46
      obtain ⟨w65, -, hst66, hb67, hu68, hf69⟩ := s_two (v0 := .bool (decide ((parseZ s.data.toList).1 < 0))) (v1 := sv A53 (canon ((parseZ s.data.toList).1).natAbs) cc54) Try.sizeOf24 rfl rfl rfl hb60
      refine st_act rfl rfl fun K70 hL71 => a_store' rfl h57 h52 hst66 (hL71 _ _ trivial ?_)
      have hr72 := hr55.far hb60 hu68 (by first | rfl | decide | simp [notK])
      have hb73 := hf69 _ _ _ (hne62) hb61
      have hN74 := hN64.trans hu68 (fun k hk hkb => by subst hkb; omega)
      clear hb60 hst66 K70 hL71 hN64 hr55 hb61 hu68 hf69
      refine st_take rfl rfl (y_assign (v := iv ((parseZ s.data.toList).2)) rfl h56) rfl ?_
      obtain ⟨a75, ha76⟩ : ∃ a', a' = a44.put (some 6) (iv ((parseZ s.data.toList).2)) := ⟨_, rfl⟩
      have hs77 : a75.tmps.size = 48 := by rw [ha76, put_size]; exact hs48
      have hd78 : a75.defers = [] := by rw [ha76, put_defers]; exact hd49
      have h79 : a75.eval (.tmp 1) = .string s := by rw [ha76, put_ne _ _ _ _ (by decide)]; exact h50
      have h80 : a75.eval (.tmp 2) = pv q10 := by rw [ha76, put_ne _ _ _ _ (by decide)]; exact h51
      have h81 : a75.eval (.tmp 23) = .agg #[.bool (decide ((parseZ s.data.toList).1 < 0)), sv A53 (canon ((parseZ s.data.toList).1).natAbs) cc54] := by rw [ha76, put_ne _ _ _ _ (by decide)]; exact h52
      have h82 : a75.eval (.tmp 24) = iv ((parseZ s.data.toList).2) := by rw [ha76, put_ne _ _ _ _ (by decide)]; exact h56
      have h83 : a75.eval (.tmp 5) = pv q58 := by rw [ha76, put_ne _ _ _ _ (by decide)]; exact h57
      have h84 : a75.eval (.tmp 6) = iv ((parseZ s.data.toList).2) := by rw [ha76]; exact put_same _ _ _ (by rw [hs48]; decide)
      show stepsTo _ _ _ _ _ (a44.put (some 6) (iv ((parseZ s.data.toList).2))) _
      rw [← ha76]
      clear ha76 hs48 hd49 h50 h51 h52 h56 h57
      clear hne62
      refine st_nil ?_
      clear h81 h82
      refine hK43 _ _ ?_
      clear hK43 K43
      refine wp_seq_k fun K85 hK85 => ?_
      refine wp_gS (fun W => True) (fun W W' hn h => trivial) trivial [true, true, true, true, true, true, false, false] [4] [(6, false), (7, true)] 48
        [ve (.string s),
         (fun (v : Value) (W : World) => ∃ (A27 : Option Addr) (c28 : Nat), v = .tuple #[.agg #[.bool (decide ((parseZ s.data.toList).1 < 0)), sv A27 (canon ((parseZ s.data.toList).1).natAbs) c28], iv ((parseZ s.data.toList).2)] ∧ SRow W .u32 A27 (canon ((parseZ s.data.toList).1).natAbs) c28),
         (fun (v : Value) (W : World) => ∃ (A33 : Option Addr) (c34 : Nat), v = .tuple #[.agg #[.bool (decide ((parseZ s.data.toList).1 < 0)), sv A33 (canon ((parseZ s.data.toList).1).natAbs) c34], iv ((parseZ s.data.toList).2)] ∧ SRow W .u32 A33 (canon ((parseZ s.data.toList).1).natAbs) c34),
         (fun (v : Value) (W : World) => ∃ (A39 : Option Addr) (c40 : Nat), v = .agg #[.bool (decide ((parseZ s.data.toList).1 < 0)), sv A39 (canon ((parseZ s.data.toList).1).natAbs) c40] ∧ SRow W .u32 A39 (canon ((parseZ s.data.toList).1).natAbs) c40),
         ve (iv ((parseZ s.data.toList).2)),
         IsNew w65 24 [.bool false, sv none ([]) 0],
         vt,
         vt]
        [5] (newsCons (fun v w h => IsNew.old h) newsNil) hs77 (.eq (.cons (fun v W W' hn ⟨A27, c28, he, h0⟩ => ⟨A27, c28, he, h0.new_ hn⟩) (.cons (fun v W W' hn ⟨A33, c34, he, h0⟩ => ⟨A33, c34, he, h0.new_ hn⟩) (.cons (fun v W W' hn ⟨A39, c40, he, h0⟩ => ⟨A39, c40, he, h0.new_ hn⟩) (.eq (.nw (.tt (.tt (.nil))))))))) ?_ ?_ ?_
      · skip
        refine .o1 (tk rfl rfl fun _ w hn k => ⟨_, v_move rfl (k.fx 1 h79), rfl⟩) ?_
        refine .o1 (tkC rfl (noG rfl) rfl fun _ w hn k => (by
              refine ⟨#[.string s], _, args1 (k.eq1 0 26 rfl), fun w => by kernel_rfl, rparse_c _ _ (by omega), ?_⟩
              rintro e w' ⟨A25, c26, rfl, hmo, hm⟩
              exact ⟨_, rfl, hm, ⟨A25, c26, rfl, hmo⟩⟩)) ?_
        refine .o1 (tk rfl rfl fun _ w hn k => (by
              obtain ⟨A29, c30, e31, hx32⟩ : (fun (v : Value) (W : World) => ∃ (A27 : Option Addr) (c28 : Nat), v = .tuple #[.agg #[.bool (decide ((parseZ s.data.toList).1 < 0)), sv A27 (canon ((parseZ s.data.toList).1).natAbs) c28], iv ((parseZ s.data.toList).2)] ∧ SRow W .u32 A27 (canon ((parseZ s.data.toList).1).natAbs) c28) _ _ := k.dep 1 27 (by kernel_rfl) (by kernel_rfl)
              exact ⟨_, v_move rfl e31, ⟨A29, c30, rfl, hx32⟩⟩)) ?_
        refine .o1 (tk rfl rfl fun _ w hn k => (by
              obtain ⟨A35, c36, e37, hx38⟩ : (fun (v : Value) (W : World) => ∃ (A33 : Option Addr) (c34 : Nat), v = .tuple #[.agg #[.bool (decide ((parseZ s.data.toList).1 < 0)), sv A33 (canon ((parseZ s.data.toList).1).natAbs) c34], iv ((parseZ s.data.toList).2)] ∧ SRow W .u32 A33 (canon ((parseZ s.data.toList).1).natAbs) c34) _ _ := k.dep 2 25 (by kernel_rfl) (by kernel_rfl)
              exact ⟨_, v_extract rfl e37 rfl, ⟨A35, c36, rfl, hx38⟩⟩)) ?_
        refine .o3 ?_
        refine .o2 (step_allocN (cs := [.bool false, sv none ([]) 0]) (t := 24) rfl (noG rfl) (fun _ w hn k => rfl) (fun q _ hq hb => ⟨q, rfl, hq, hb⟩)) ?_
        refine .off ?_
        refine .off ?_
        exact .nil
      · skip
        intro i h
        simp only [List.contains_eq_mem, List.mem_cons, List.not_mem_nil, or_false, decide_eq_true_eq] at h
        subst h
        · exact eager_takeG rfl (noG rfl) fun _ w hn k => (by
              obtain ⟨A41, c42, e43, hx44⟩ : (fun (v : Value) (W : World) => ∃ (A33 : Option Addr) (c34 : Nat), v = .tuple #[.agg #[.bool (decide ((parseZ s.data.toList).1 < 0)), sv A33 (canon ((parseZ s.data.toList).1).natAbs) c34], iv ((parseZ s.data.toList).2)] ∧ SRow W .u32 A33 (canon ((parseZ s.data.toList).1).natAbs) c34) _ _ := k.dep 2 25 (by kernel_rfl) (by kernel_rfl)
              exact ⟨_, fun w hS => v_extract rfl e43 rfl, rfl⟩)
      intro a86 w87 _ hn88 ha89
      have hs90 := ha89.size.trans hs77
      have hd91 := ha89.defers.trans hd78
      have h92 := ha89.fx 2 h80
      have h93 := ha89.fx 5 h83
      have h94 := ha89.fx 6 h84
      obtain ⟨A96, cc97, h95, hr98⟩ : (fun (v : Value) (W : World) => ∃ (A39 : Option Addr) (c40 : Nat), v = .agg #[.bool (decide ((parseZ s.data.toList).1 < 0)), sv A39 (canon ((parseZ s.data.toList).1).natAbs) c40] ∧ SRow W .u32 A39 (canon ((parseZ s.data.toList).1).natAbs) c40) _ _ := ha89.got 3 28 rfl (by kernel_rfl)
      have h95 : a86.eval (.tmp 28) = .agg #[.bool (decide ((parseZ s.data.toList).1 < 0)), sv A96 (canon ((parseZ s.data.toList).1).natAbs) cc97] := h95
      have h99 := ha89.ge 4 29 rfl
      obtain ⟨q101, h100, hq102, hb103⟩ : IsNew _ _ _ _ _ := ha89.got 5 7 rfl (by kernel_rfl)
      have hb104 := hb73.new_ hn88
      have hb105 := hb67.new_ hn88
      have hne106 : q10 ≠ q101 := by have h1 := hb73.lt; have h2 := hq102; omega
      have hne107 : q58 ≠ q101 := by have h1 := hb67.lt; have h2 := hq102; omega
      have hq108 := Nat.le_trans hN74.size hq102
      have hr109 := hr72.new_ hn88
      have hN110 := hN74.transNew hn88
      clear hs77 hd78 h79 h80 h83 h84 hb73 hb67 hq102 hr72 hN74 ha89 hn88
      obtain ⟨w111, -, hst112, hb113, hu114, hf115⟩ := s_two (v0 := .bool (decide ((parseZ s.data.toList).1 < 0))) (v1 := sv A96 (canon ((parseZ s.data.toList).1).natAbs) cc97) Try.sizeOf24 rfl rfl rfl hb103
      refine st_act rfl rfl fun K116 hL117 => a_store' rfl h100 h95 hst112 (hL117 _ _ trivial ?_)
      have hr118 := hr109.far hb103 hu114 (by first | rfl | decide | simp [notK])
      have hr119 := hr98.far hb103 hu114 (by first | rfl | decide | simp [notK])
      have hb120 := hf115 _ _ _ (hne106) hb104
      have hb121 := hf115 _ _ _ (hne107) hb105
      have hN122 := hN110.trans hu114 (fun k hk hkb => by subst hkb; omega)
      clear hb103 hst112 K116 hL117 hN110 hr109 hr98 hb104 hb105 hu114 hf115
      refine st_take rfl rfl (y_assign (v := iv ((parseZ s.data.toList).2)) rfl h99) rfl ?_
      obtain ⟨a123, ha124⟩ : ∃ a', a' = a86.put (some 8) (iv ((parseZ s.data.toList).2)) := ⟨_, rfl⟩
      have hs125 : a123.tmps.size = 48 := by rw [ha124, put_size]; exact hs90
      have hd126 : a123.defers = [] := by rw [ha124, put_defers]; exact hd91
      have h127 : a123.eval (.tmp 2) = pv q10 := by rw [ha124, put_ne _ _ _ _ (by decide)]; exact h92
      have h128 : a123.eval (.tmp 5) = pv q58 := by rw [ha124, put_ne _ _ _ _ (by decide)]; exact h93
      have h129 : a123.eval (.tmp 6) = iv ((parseZ s.data.toList).2) := by rw [ha124, put_ne _ _ _ _ (by decide)]; exact h94
      have h130 : a123.eval (.tmp 28) = .agg #[.bool (decide ((parseZ s.data.toList).1 < 0)), sv A96 (canon ((parseZ s.data.toList).1).natAbs) cc97] := by rw [ha124, put_ne _ _ _ _ (by decide)]; exact h95
      have h131 : a123.eval (.tmp 29) = iv ((parseZ s.data.toList).2) := by rw [ha124, put_ne _ _ _ _ (by decide)]; exact h99
      have h132 : a123.eval (.tmp 7) = pv q101 := by rw [ha124, put_ne _ _ _ _ (by decide)]; exact h100
      have h133 : a123.eval (.tmp 8) = iv ((parseZ s.data.toList).2) := by rw [ha124]; exact put_same _ _ _ (by rw [hs90]; decide)
      show stepsTo _ _ _ _ _ (a86.put (some 8) (iv ((parseZ s.data.toList).2))) _
      rw [← ha124]
      clear ha124 hs90 hd91 h92 h93 h94 h95 h99 h100
      clear hne106
      clear hne107
      refine st_nil ?_
      clear h130 h131
      refine hK85 _ _ ?_
      clear hK85 K85
      refine wp_seq_k fun K134 hK134 => ?_
      refine wp_g0 [true, true, true, true, true, true, true, true, true, true, true, true, true, true, true, true, true, true, true] [] 48
        [ve (.bool true),
         ve (.bool true),
         ve (.agg #[.bool b, sv A m c]),
         ve (.string (strOfNums (textI (goodI b m)))),
         ve (.agg #[.bool b, sv A m c]),
         ve (.string (strOfNums (textI (goodI b m)))),
         ve (.bool true),
         ve (.bool true),
         ve (.bool true),
         ve (.agg #[.bool (decide ((parseZ s.data.toList).1 < 0)), sv A53 (canon ((parseZ s.data.toList).1).natAbs) cc54]),
         ve (.agg #[.bool (decide ((parseZ s.data.toList).1 < 0)), sv A96 (canon ((parseZ s.data.toList).1).natAbs) cc97]),
         ve (.bool true),
         ve (.bool true),
         ve (.bool true),
         ve (iv ((parseZ s.data.toList).2)),
         ve (iv ((parseZ s.data.toList).2)),
         ve (.bool true),
         ve (.bool true),
         ve (.bool true)] hs125 (.eq (.eq (.eq (.eq (.eq (.eq (.eq (.eq (.eq (.eq (.eq (.eq (.eq (.eq (.eq (.eq (.eq (.eq (.eq (.nil)))))))))))))))))))) ?_ ?_
      · skip
        refine .o1 (ck rfl rfl rfl (fun _ w hn k => ⟨#[], rfl, fun _ => by kernel_rfl, bfirst_c _⟩) fun _ => rfl) ?_
        refine .o1 (tk rfl rfl fun _ w hn k => ⟨_, v_move rfl (k.eq1 0 30 rfl), rfl⟩) ?_
        refine .o1 (tg rfl rfl rfl (fun _ _ k => k.eq1 1 31 rfl) fun _ w hn k => ⟨_, v_load rfl (k.fx 2 h127) (l_two Try.isAgg24 Try.sizeOf24 (hb120.new_ hn)), rfl⟩) ?_
        refine .o1 (cg rfl rfl rfl (fun _ _ k => k.eq1 1 31 rfl) rfl (fun _ w hn k => ⟨#[.agg #[.bool b, sv A m c]], args1 (k.eq1 2 32 rfl), fun _ => by kernel_rfl, bText_c _ _ _ _ _ (hr.new_ (hN122.transNew hn)) hl⟩) fun _ => rfl) ?_
        refine .o1 (tg rfl rfl rfl (fun _ _ k => k.eq1 1 31 rfl) fun _ w hn k => ⟨_, v_load rfl (k.fx 2 h127) (l_two Try.isAgg24 Try.sizeOf24 (hb120.new_ hn)), rfl⟩) ?_
        refine .o1 (cg rfl rfl rfl (fun _ _ k => k.eq1 1 31 rfl) rfl (fun _ w hn k => ⟨#[.agg #[.bool b, sv A m c]], args1 (k.eq1 4 34 rfl), fun _ => by kernel_rfl, rtext_c _ _ _ _ _ (hr.new_ (hN122.transNew hn)) hl⟩) fun _ => rfl) ?_
        refine .o1 (tg rfl rfl rfl (fun _ _ k => k.eq1 1 31 rfl) fun _ w hn k => ⟨_, v_bin rfl (k.eq1 3 33 rfl) (k.eq1 5 35 rfl) (fun _ => rfl) (r_eqlS (r := true) (str_self _)), rfl⟩) ?_
        refine .o1 (tk rfl rfl fun _ w hn k => ⟨_, v_pickT rfl (k.eq1 1 31 rfl) (k.eq1 6 36 rfl), rfl⟩) ?_
        refine .o1 (tk rfl rfl fun _ w hn k => ⟨_, v_move rfl (k.eq1 7 37 rfl), rfl⟩) ?_
        refine .o1 (tg rfl rfl rfl (fun _ _ k => k.eq1 8 38 rfl) fun _ w hn k => ⟨_, v_load rfl (k.fx 5 h128) (l_two Try.isAgg24 Try.sizeOf24 (hb121.new_ hn)), rfl⟩) ?_
        refine .o1 (tg rfl rfl rfl (fun _ _ k => k.eq1 8 38 rfl) fun _ w hn k => ⟨_, v_load rfl (k.fx 7 h132) (l_two Try.isAgg24 Try.sizeOf24 (hb113.new_ hn)), rfl⟩) ?_
        refine .o1 (cg rfl rfl rfl (fun _ _ k => k.eq1 8 38 rfl) rfl (fun _ w hn k => ⟨#[.agg #[.bool (decide ((parseZ s.data.toList).1 < 0)), sv A53 (canon ((parseZ s.data.toList).1).natAbs) cc54], .agg #[.bool (decide ((parseZ s.data.toList).1 < 0)), sv A96 (canon ((parseZ s.data.toList).1).natAbs) cc97]], args2 (k.eq1 9 39 rfl) (k.eq1 10 40 rfl), fun _ => by kernel_rfl, rbig_c _ _ _ _ _ _ _ _ _ (hr118.new_ hn) (hr119.new_ hn)⟩) fun _ => congrArg Value.bool (by simp)) ?_
        refine .o1 (tk rfl rfl fun _ w hn k => ⟨_, v_pickT rfl (k.eq1 8 38 rfl) (k.eq1 11 41 rfl), rfl⟩) ?_
        refine .o1 (tk rfl rfl fun _ w hn k => ⟨_, v_move rfl (k.eq1 12 42 rfl), rfl⟩) ?_
        refine .o1 (tg rfl rfl rfl (fun _ _ k => k.eq1 13 43 rfl) fun _ w hn k => ⟨_, v_move rfl (k.fx 6 h129), rfl⟩) ?_
        refine .o1 (tg rfl rfl rfl (fun _ _ k => k.eq1 13 43 rfl) fun _ w hn k => ⟨_, v_move rfl (k.fx 8 h133), rfl⟩) ?_
        refine .o1 (tg rfl rfl rfl (fun _ _ k => k.eq1 13 43 rfl) fun _ w hn k => ⟨_, v_bin rfl (k.eq1 14 44 rfl) (k.eq1 15 45 rfl) (fun _ => rfl) (n_eql_self _ _), rfl⟩) ?_
        refine .o1 (tk rfl rfl fun _ w hn k => ⟨_, v_pickT rfl (k.eq1 13 43 rfl) (k.eq1 16 46 rfl), rfl⟩) ?_
        refine .o1 (tk rfl rfl fun _ w hn k => ⟨_, v_assign rfl (k.eq1 17 47 rfl), rfl⟩) ?_
        exact .nil
      intro a135 w136 hn137 ha138
      have hs139 := ha138.size.trans hs125
      have hd140 := ha138.defers.trans hd126
      have h141 := ha138.ge 18 4 rfl
      have hN142 := hN122.transNew hn137
      clear hs125 hd126 h127 h128 h129 h132 h133 hb120 hq13 hb121 hq63 hb113 hq108 hr118 hr119 hN122 ha138 hn137
      refine st_nil ?_
      refine hK134 _ _ ?_
      clear hK134 K134
      refine wp_ret (ret_k hd140 (v := .bool true) (res_t rfl h141 _) ?_)
      exact ⟨rfl, hN142⟩
    have ht31d := of_decide_eq_false ht31
    refine wp_g0 [true, true, true, true, true, true, true, true] [] 48
      [ve (.agg #[.bool b, sv A m c]),
       ve (.bool true),
       ve (.bool false),
       ve (.bool false),
       ve (.string s),
       ve (iv (s.size : Int)),
       ve (.bool true),
       ve (.bool true)] hs21 (.eq (.eq (.eq (.eq (.eq (.eq (.eq (.eq (.nil))))))))) ?_ ?_
    · skip
      refine .o1 (tk rfl rfl fun _ w hn k => ⟨_, v_load rfl (k.fx 2 h24) (l_two Try.isAgg24 Try.sizeOf24 (hb26.new_ hn)), rfl⟩) ?_
      refine .o1 (ck rfl rfl rfl (fun _ w hn k => ⟨#[.agg #[.bool b, sv A m c]], args1 (k.eq1 0 11 rfl), fun _ => by kernel_rfl, bfew_c _ _ _ _ _ (hr.new_ (hN27.transNew hn))⟩) fun _ => congrArg Value.bool ht30) ?_
      refine .o1 (tk rfl rfl fun _ w hn k => ⟨_, v_not rfl (k.eq1 1 12 rfl), rfl⟩) ?_
      refine .o1 (tk rfl rfl fun _ w hn k => ⟨_, v_move rfl (k.eq1 2 13 rfl), rfl⟩) ?_
      refine .o1 (tg rfl rfl rfl (fun _ _ k => k.eq1 3 14 rfl) fun _ w hn k => ⟨_, v_move rfl (k.fx 1 h23), rfl⟩) ?_
      refine .o1 (tg rfl rfl rfl (fun _ _ k => k.eq1 3 14 rfl) fun _ w hn k => ⟨_, v_lenS rfl (k.eq1 4 15 rfl) (by kernel_rfl), rfl⟩) ?_
      refine .o1 (tg rfl rfl rfl (fun _ _ k => k.eq1 3 14 rfl) fun _ w hn k => ⟨_, v_bin rfl (k.eq1 5 16 rfl) rfl (fun _ => rfl) (r_gtrK ht31), rfl⟩) ?_
      refine .o1 (tk rfl rfl fun _ w hn k => ⟨_, v_pickF rfl (k.eq1 3 14 rfl) (k.eq1 6 17 rfl), rfl⟩) ?_
      exact .nil
    intro a143 w144 hn145 ha146
    have hs147 := ha146.size.trans hs21
    have hd148 := ha146.defers.trans hd22
    have h149 := ha146.fx 1 h23
    have h150 := ha146.fx 2 h24
    have h151 := ha146.ge 7 18 rfl
    have hb152 := hb26.new_ hn145
    have hN153 := hN27.transNew hn145
    clear hs21 hd22 h23 h24 h25 hb26 hN27 ha146 hn145
    refine st_nil ?_
    refine hK29 _ _ ?_
    clear hK29 K29
    refine wp_cond_true h151 ?_
    refine wp_seq_k fun K154 hK154 => ?_
    refine wp_g0 [true, true] [] 48
      [ve (.bool true),
       ve (.bool true)] hs147 (.eq (.eq (.nil))) ?_ ?_
    · skip
      refine .o1 (ck rfl rfl rfl (fun _ w hn k => ⟨#[], rfl, fun _ => by kernel_rfl, bfirst_c _⟩) fun _ => rfl) ?_
      refine .o1 (tk rfl rfl fun _ w hn k => ⟨_, v_assign rfl (k.eq1 0 19 rfl), rfl⟩) ?_
      exact .nil
    intro a155 w156 hn157 ha158
    have hs159 := ha158.size.trans hs147
    have hd160 := ha158.defers.trans hd148
    have h161 := ha158.ge 1 4 rfl
    have hN162 := hN153.transNew hn157
    clear hs147 hd148 h149 h150 h151 hb152 hq13 hN153 ha158 hn157
    refine st_nil ?_
    refine hK154 _ _ ?_
    clear hK154 K154
    refine wp_ret (ret_k hd160 (v := .bool true) (res_t rfl h161 _) ?_)
    exact ⟨rfl, hN162⟩
  have ht30d := of_decide_eq_false ht30
  refine wp_g0 [true, true, true, true, true, true, true, true] [] 48
    [ve (.agg #[.bool b, sv A m c]),
     ve (.bool false),
     ve (.bool true),
     ve (.bool true),
     ve undef,
     ve undef,
     ve undef,
     ve (.bool true)] hs21 (.eq (.eq (.eq (.eq (.eq (.eq (.eq (.eq (.nil))))))))) ?_ ?_
  · skip
    refine .o1 (tk rfl rfl fun _ w hn k => ⟨_, v_load rfl (k.fx 2 h24) (l_two Try.isAgg24 Try.sizeOf24 (hb26.new_ hn)), rfl⟩) ?_
    refine .o1 (ck rfl rfl rfl (fun _ w hn k => ⟨#[.agg #[.bool b, sv A m c]], args1 (k.eq1 0 11 rfl), fun _ => by kernel_rfl, bfew_c _ _ _ _ _ (hr.new_ (hN27.transNew hn))⟩) fun _ => congrArg Value.bool ht30) ?_
    refine .o1 (tk rfl rfl fun _ w hn k => ⟨_, v_not rfl (k.eq1 1 12 rfl), rfl⟩) ?_
    refine .o1 (tk rfl rfl fun _ w hn k => ⟨_, v_move rfl (k.eq1 2 13 rfl), rfl⟩) ?_
    refine .o1 (sk rfl rfl rfl (fun _ _ _ k => k.eq1 3 14 rfl) (fun _ => rfl)) ?_
    refine .o1 (sk rfl rfl rfl (fun _ _ _ k => k.eq1 3 14 rfl) (fun _ => rfl)) ?_
    refine .o1 (sk rfl rfl rfl (fun _ _ _ k => k.eq1 3 14 rfl) (fun _ => rfl)) ?_
    refine .o1 (tk rfl rfl fun _ w hn k => ⟨_, v_pickT rfl (k.eq1 3 14 rfl) rfl, rfl⟩) ?_
    exact .nil
  intro a163 w164 hn165 ha166
  have hs167 := ha166.size.trans hs21
  have hd168 := ha166.defers.trans hd22
  have h169 := ha166.fx 1 h23
  have h170 := ha166.fx 2 h24
  have h171 := ha166.ge 7 18 rfl
  have hb172 := hb26.new_ hn165
  have hN173 := hN27.transNew hn165
  clear hs21 hd22 h23 h24 h25 hb26 hN27 ha166 hn165
  refine st_nil ?_
  refine hK29 _ _ ?_
  clear hK29 K29
  refine wp_cond_true h171 ?_
  refine wp_seq_k fun K174 hK174 => ?_
  refine wp_g0 [true, true] [] 48
    [ve (.bool true),
     ve (.bool true)] hs167 (.eq (.eq (.nil))) ?_ ?_
  · skip
    refine .o1 (ck rfl rfl rfl (fun _ w hn k => ⟨#[], rfl, fun _ => by kernel_rfl, bfirst_c _⟩) fun _ => rfl) ?_
    refine .o1 (tk rfl rfl fun _ w hn k => ⟨_, v_assign rfl (k.eq1 0 19 rfl), rfl⟩) ?_
    exact .nil
  intro a175 w176 hn177 ha178
  have hs179 := ha178.size.trans hs167
  have hd180 := ha178.defers.trans hd168
  have h181 := ha178.ge 1 4 rfl
  have hN182 := hN173.transNew hn177
  clear hs167 hd168 h169 h170 h171 hb172 hq13 hN173 ha178 hn177
  refine st_nil ?_
  refine hK174 _ _ ?_
  clear hK174 K174
  refine wp_ret (ret_k hd180 (v := .bool true) (res_t rfl h181 _) ?_)
  exact ⟨rfl, hN182⟩
theorem texts_walk (x : Value) (s : ByteArray) (z : Int) (w : World) (hx : BigAt w x z) : Calls Try.prog 3 #[x, .string s] w (IsBool true w) := by
  obtain ⟨b, v, m, rfl, hr, hl, -⟩ := hx
  obtain ⟨A, c, rfl⟩ := hr.form
  exact texts_w b A m c s w hr hl
end Go.Proofs.Ytfhflpchfgkgcaa
