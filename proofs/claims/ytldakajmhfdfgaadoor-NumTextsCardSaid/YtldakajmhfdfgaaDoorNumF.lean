/- The chapter's examples: first() is true. -/
import Derived.Test.YtldakajmhfdfgaaDoorNumC
namespace Go.Proofs.YtldakajmhfdfgaaDoor
open Go.RowKit
set_option linter.unusedSimpArgs false
set_option linter.unusedVariables false
theorem parse_m0 (w : World) : Calls Tryd.prog 16 #[.string ⟨#[45, 48]⟩] w (IsRet (.tuple #[.agg #[.int .i64 2, .int .i64 0], .bool false]) w) := by
  have h := parse_c ⟨#[45, 48]⟩ w 0 (fun w' _ => atoi_ok _ 0 (by decide) (by kernel_rfl) w') (fun w' _ => itoa_small 0 (by omega) w')
  have e : parseOkM ⟨#[45, 48]⟩ 0 = (⟨2, 0⟩, false) := by kernel_rfl
  rw [e] at h
  exact h
theorem text_m0 (w : World) : Calls Tryd.prog 20 #[.agg #[.int .i64 1, .int .i64 0]] w (IsRet (.string ⟨#[48]⟩) w) := by
  have h := text_c ⟨1, 0⟩ w (fun w' _ => itoa_small 0 (by omega) w')
  have e : textM ⟨1, 0⟩ = ⟨#[48]⟩ := by kernel_rfl
  rw [e] at h
  exact h
set_option maxHeartbeats 8000000 in
set_option maxRecDepth 100000 in
theorem first_c  (w : World) : Calls Tryd.prog 15 #[] w (IsRet (.bool true) w) := by
  refine enter_abs Tryd.func15 rfl fun a0 hs0 hd0 hp => ?_
  have hs0 : a0.tmps.size = 95 := hs0
  have hN0 : New w w := Upd.refl _ _
  clear hp
  refine wp_seq_k fun K hK => ?_
  refine wp_g0 [true] [] 95
    [ve (.bool false)] hs0 (.eq (.nil)) ?_ ?_
  · skip
    refine .o1 (tk rfl rfl fun _ w hn k => ⟨_, v_assign rfl rfl, rfl⟩) ?_
    exact .nil
  intro a1 w2 hn3 ha4
  have hs5 := ha4.size.trans hs0
  have hd6 := ha4.defers.trans hd0
  have h7 := ha4.ge 0 0 rfl
  have hN8 := hN0.transNew hn3
  clear hs0 hd0 hN0 ha4 hn3
  refine st_nil ?_
  refine hK _ _ ?_
  clear hK K
  refine wp_seq_k fun K hK => ?_
  refine wp_g [true, true, true, true, true, true, true, false, false] [5] [(7, false), (8, true)] 95
    [ve (nv (Nm.mk 0 0)),
     ve (nv (Nm.mk 0 (-3))),
     ve (.tuple #[nv ((mulM (Nm.mk 0 0) (Nm.mk 0 (-3))).1), .bool ((mulM (Nm.mk 0 0) (Nm.mk 0 (-3))).2)]),
     ve (.tuple #[nv ((mulM (Nm.mk 0 0) (Nm.mk 0 (-3))).1), .bool ((mulM (Nm.mk 0 0) (Nm.mk 0 (-3))).2)]),
     ve (nv ((mulM (Nm.mk 0 0) (Nm.mk 0 (-3))).1)),
     ve (.bool ((mulM (Nm.mk 0 0) (Nm.mk 0 (-3))).2)),
     IsNew w2 23 [iv 0, iv 0],
     vt,
     vt]
    [6] (newsCons (fun v w h => IsNew.old h) newsNil) hs5 (.eq (.eq (.eq (.eq (.eq (.eq (.nw (.tt (.tt (.nil)))))))))) ?_ ?_ ?_
  · skip
    refine .o1 (ck rfl rfl rfl (fun _ w hn k => ⟨#[iv 0], args1 rfl, fun _ => by kernel_rfl, w_c 0 _⟩) fun _ => rfl) ?_
    refine .o1 (ck rfl rfl rfl (fun _ w hn k => ⟨#[iv (-3)], args1 rfl, fun _ => by kernel_rfl, w_c (-3) _⟩) fun _ => rfl) ?_
    refine .o1 (ck rfl rfl rfl (fun _ w hn k => ⟨#[nv (Nm.mk 0 0), nv (Nm.mk 0 (-3))], args2 (k.eq1 0 10 rfl) (k.eq1 1 11 rfl), fun _ => by kernel_rfl, mul_c (Nm.mk 0 0) (Nm.mk 0 (-3)) _⟩) fun _ => rfl) ?_
    refine .o1 (tk rfl rfl fun _ w hn k => ⟨_, v_move rfl (k.eq1 2 12 rfl), rfl⟩) ?_
    refine .o1 (tk rfl rfl fun _ w hn k => ⟨_, v_extract rfl (k.eq1 3 9 rfl) rfl, rfl⟩) ?_
    refine .o3 ?_
    refine .o2 (step_allocN (cs := [iv 0, iv 0]) (t := 23) rfl (noG rfl) (fun _ w hn k => rfl) (fun q _ hq hb => ⟨q, rfl, hq, hb⟩)) ?_
    refine .off ?_
    refine .off ?_
    exact .nil
  · skip
    intro i h
    simp only [List.contains_eq_mem, List.mem_cons, List.not_mem_nil, or_false, decide_eq_true_eq] at h
    subst h
    · exact eager_take rfl rfl fun _ w hn k => ⟨.bool ((mulM (Nm.mk 0 0) (Nm.mk 0 (-3))).2), fun w => v_extract rfl (k.eq1 3 9 rfl) rfl, rfl⟩
  intro a9 w10 hn11 ha12
  have hs13 := ha12.size.trans hs5
  have hd14 := ha12.defers.trans hd6
  have h15 := ha12.fx 0 h7
  have h16 := ha12.ge 4 13 rfl
  have h17 := ha12.ge 5 14 rfl
  obtain ⟨q19, h18, hq20, hb21⟩ : IsNew _ _ _ _ _ := ha12.got 6 1 rfl (by kernel_rfl)
  have hq22 := Nat.le_trans hN8.size hq20
  have hN23 := hN8.transNew hn11
  clear hs5 hd6 h7 hq20 hN8 ha12 hn11
  obtain ⟨w24, -, hst25, hb26, hu27, hf28⟩ := s_two (v0 := iv ((mulM (Nm.mk 0 0) (Nm.mk 0 (-3))).1.k)) (v1 := iv ((mulM (Nm.mk 0 0) (Nm.mk 0 (-3))).1.n)) Tryd.sizeOf23 rfl rfl rfl hb21
  refine st_act rfl rfl fun K29 hL30 => a_store' rfl h18 h16 hst25 (hL30 _ _ trivial ?_)
  have hN31 := hN23.trans hu27 (fun k hk hkb => by subst hkb; omega)
  clear hb21 hst25 K29 hL30 hN23 hu27 hf28
  refine st_take rfl rfl (y_assign (v := .bool ((mulM (Nm.mk 0 0) (Nm.mk 0 (-3))).2)) rfl h17) rfl ?_
  obtain ⟨a32, ha33⟩ : ∃ a', a' = a9.put (some 2) (.bool ((mulM (Nm.mk 0 0) (Nm.mk 0 (-3))).2)) := ⟨_, rfl⟩
  have hs34 : a32.tmps.size = 95 := by rw [ha33, put_size]; exact hs13
  have hd35 : a32.defers = [] := by rw [ha33, put_defers]; exact hd14
  have h36 : a32.eval (.tmp 0) = .bool false := by rw [ha33, put_ne _ _ _ _ (by decide)]; exact h15
  have h37 : a32.eval (.tmp 13) = nv ((mulM (Nm.mk 0 0) (Nm.mk 0 (-3))).1) := by rw [ha33, put_ne _ _ _ _ (by decide)]; exact h16
  have h38 : a32.eval (.tmp 14) = .bool ((mulM (Nm.mk 0 0) (Nm.mk 0 (-3))).2) := by rw [ha33, put_ne _ _ _ _ (by decide)]; exact h17
  have h39 : a32.eval (.tmp 1) = pv q19 := by rw [ha33, put_ne _ _ _ _ (by decide)]; exact h18
  have h40 : a32.eval (.tmp 2) = .bool ((mulM (Nm.mk 0 0) (Nm.mk 0 (-3))).2) := by rw [ha33]; exact put_same _ _ _ (by rw [hs13]; decide)
  show stepsTo _ _ _ _ _ (a9.put (some 2) (.bool ((mulM (Nm.mk 0 0) (Nm.mk 0 (-3))).2))) _
  rw [← ha33]
  clear ha33 hs13 hd14 h15 h16 h17 h18
  refine st_nil ?_
  clear h37 h38
  refine hK _ _ ?_
  clear hK K
  refine wp_seq_k fun K hK => ?_
  refine wp_g [true, true, true, true, true, true, true, false, false] [5] [(7, false), (8, true)] 95
    [ve (nv (Nm.mk 0 7)),
     ve (nv (Nm.mk 0 2)),
     ve (.tuple #[nv ((divM (Nm.mk 0 7) (Nm.mk 0 2)).1), .bool ((divM (Nm.mk 0 7) (Nm.mk 0 2)).2)]),
     ve (.tuple #[nv ((divM (Nm.mk 0 7) (Nm.mk 0 2)).1), .bool ((divM (Nm.mk 0 7) (Nm.mk 0 2)).2)]),
     ve (nv ((divM (Nm.mk 0 7) (Nm.mk 0 2)).1)),
     ve (.bool ((divM (Nm.mk 0 7) (Nm.mk 0 2)).2)),
     IsNew w24 23 [iv 0, iv 0],
     vt,
     vt]
    [6] (newsCons (fun v w h => IsNew.old h) newsNil) hs34 (.eq (.eq (.eq (.eq (.eq (.eq (.nw (.tt (.tt (.nil)))))))))) ?_ ?_ ?_
  · skip
    refine .o1 (ck rfl rfl rfl (fun _ w hn k => ⟨#[iv 7], args1 rfl, fun _ => by kernel_rfl, w_c 7 _⟩) fun _ => rfl) ?_
    refine .o1 (ck rfl rfl rfl (fun _ w hn k => ⟨#[iv 2], args1 rfl, fun _ => by kernel_rfl, w_c 2 _⟩) fun _ => rfl) ?_
    refine .o1 (ck rfl rfl rfl (fun _ w hn k => ⟨#[nv (Nm.mk 0 7), nv (Nm.mk 0 2)], args2 (k.eq1 0 16 rfl) (k.eq1 1 17 rfl), fun _ => by kernel_rfl, div_c (Nm.mk 0 7) (Nm.mk 0 2) _⟩) fun _ => rfl) ?_
    refine .o1 (tk rfl rfl fun _ w hn k => ⟨_, v_move rfl (k.eq1 2 18 rfl), rfl⟩) ?_
    refine .o1 (tk rfl rfl fun _ w hn k => ⟨_, v_extract rfl (k.eq1 3 15 rfl) rfl, rfl⟩) ?_
    refine .o3 ?_
    refine .o2 (step_allocN (cs := [iv 0, iv 0]) (t := 23) rfl (noG rfl) (fun _ w hn k => rfl) (fun q _ hq hb => ⟨q, rfl, hq, hb⟩)) ?_
    refine .off ?_
    refine .off ?_
    exact .nil
  · skip
    intro i h
    simp only [List.contains_eq_mem, List.mem_cons, List.not_mem_nil, or_false, decide_eq_true_eq] at h
    subst h
    · exact eager_take rfl rfl fun _ w hn k => ⟨.bool ((divM (Nm.mk 0 7) (Nm.mk 0 2)).2), fun w => v_extract rfl (k.eq1 3 15 rfl) rfl, rfl⟩
  intro a41 w42 hn43 ha44
  have hs45 := ha44.size.trans hs34
  have hd46 := ha44.defers.trans hd35
  have h47 := ha44.fx 0 h36
  have h48 := ha44.fx 1 h39
  have h49 := ha44.fx 2 h40
  have h50 := ha44.ge 4 19 rfl
  have h51 := ha44.ge 5 20 rfl
  obtain ⟨q53, h52, hq54, hb55⟩ : IsNew _ _ _ _ _ := ha44.got 6 3 rfl (by kernel_rfl)
  have hb56 := hb26.new_ hn43
  have hne57 : q19 ≠ q53 := by have h1 := hb26.lt; have h2 := hq54; omega
  have hq58 := Nat.le_trans hN31.size hq54
  have hN59 := hN31.transNew hn43
  clear hs34 hd35 h36 h39 h40 hb26 hq54 hN31 ha44 hn43
  obtain ⟨w60, -, hst61, hb62, hu63, hf64⟩ := s_two (v0 := iv ((divM (Nm.mk 0 7) (Nm.mk 0 2)).1.k)) (v1 := iv ((divM (Nm.mk 0 7) (Nm.mk 0 2)).1.n)) Tryd.sizeOf23 rfl rfl rfl hb55
  refine st_act rfl rfl fun K65 hL66 => a_store' rfl h52 h50 hst61 (hL66 _ _ trivial ?_)
  have hb67 := hf64 _ _ _ (hne57) hb56
  have hN68 := hN59.trans hu63 (fun k hk hkb => by subst hkb; omega)
  clear hb55 hst61 K65 hL66 hN59 hb56 hu63 hf64
  refine st_take rfl rfl (y_assign (v := .bool ((divM (Nm.mk 0 7) (Nm.mk 0 2)).2)) rfl h51) rfl ?_
  obtain ⟨a69, ha70⟩ : ∃ a', a' = a41.put (some 4) (.bool ((divM (Nm.mk 0 7) (Nm.mk 0 2)).2)) := ⟨_, rfl⟩
  have hs71 : a69.tmps.size = 95 := by rw [ha70, put_size]; exact hs45
  have hd72 : a69.defers = [] := by rw [ha70, put_defers]; exact hd46
  have h73 : a69.eval (.tmp 0) = .bool false := by rw [ha70, put_ne _ _ _ _ (by decide)]; exact h47
  have h74 : a69.eval (.tmp 1) = pv q19 := by rw [ha70, put_ne _ _ _ _ (by decide)]; exact h48
  have h75 : a69.eval (.tmp 2) = .bool ((mulM (Nm.mk 0 0) (Nm.mk 0 (-3))).2) := by rw [ha70, put_ne _ _ _ _ (by decide)]; exact h49
  have h76 : a69.eval (.tmp 19) = nv ((divM (Nm.mk 0 7) (Nm.mk 0 2)).1) := by rw [ha70, put_ne _ _ _ _ (by decide)]; exact h50
  have h77 : a69.eval (.tmp 20) = .bool ((divM (Nm.mk 0 7) (Nm.mk 0 2)).2) := by rw [ha70, put_ne _ _ _ _ (by decide)]; exact h51
  have h78 : a69.eval (.tmp 3) = pv q53 := by rw [ha70, put_ne _ _ _ _ (by decide)]; exact h52
  have h79 : a69.eval (.tmp 4) = .bool ((divM (Nm.mk 0 7) (Nm.mk 0 2)).2) := by rw [ha70]; exact put_same _ _ _ (by rw [hs45]; decide)
  show stepsTo _ _ _ _ _ (a41.put (some 4) (.bool ((divM (Nm.mk 0 7) (Nm.mk 0 2)).2))) _
  rw [← ha70]
  clear ha70 hs45 hd46 h47 h48 h49 h50 h51 h52
  clear hne57
  refine st_nil ?_
  clear h76 h77
  refine hK _ _ ?_
  clear hK K
  refine wp_seq_k fun K hK => ?_
  refine wp_g [true, true, true, true, true, true, true, false, false] [5] [(7, false), (8, true)] 95
    [ve (nv (Nm.mk 0 9007199254740991)),
     ve (nv (Nm.mk 0 1)),
     ve (.tuple #[nv ((addM (Nm.mk 0 9007199254740991) (Nm.mk 0 1)).1), .bool ((addM (Nm.mk 0 9007199254740991) (Nm.mk 0 1)).2)]),
     ve (.tuple #[nv ((addM (Nm.mk 0 9007199254740991) (Nm.mk 0 1)).1), .bool ((addM (Nm.mk 0 9007199254740991) (Nm.mk 0 1)).2)]),
     ve (nv ((addM (Nm.mk 0 9007199254740991) (Nm.mk 0 1)).1)),
     ve (.bool ((addM (Nm.mk 0 9007199254740991) (Nm.mk 0 1)).2)),
     IsNew w60 23 [iv 0, iv 0],
     vt,
     vt]
    [6] (newsCons (fun v w h => IsNew.old h) newsNil) hs71 (.eq (.eq (.eq (.eq (.eq (.eq (.nw (.tt (.tt (.nil)))))))))) ?_ ?_ ?_
  · skip
    refine .o1 (ck rfl rfl rfl (fun _ w hn k => ⟨#[iv 9007199254740991], args1 rfl, fun _ => by kernel_rfl, w_c 9007199254740991 _⟩) fun _ => rfl) ?_
    refine .o1 (ck rfl rfl rfl (fun _ w hn k => ⟨#[iv 1], args1 rfl, fun _ => by kernel_rfl, w_c 1 _⟩) fun _ => rfl) ?_
    refine .o1 (ck rfl rfl rfl (fun _ w hn k => ⟨#[nv (Nm.mk 0 9007199254740991), nv (Nm.mk 0 1)], args2 (k.eq1 0 22 rfl) (k.eq1 1 23 rfl), fun _ => by kernel_rfl, add_c (Nm.mk 0 9007199254740991) (Nm.mk 0 1) _⟩) fun _ => rfl) ?_
    refine .o1 (tk rfl rfl fun _ w hn k => ⟨_, v_move rfl (k.eq1 2 24 rfl), rfl⟩) ?_
    refine .o1 (tk rfl rfl fun _ w hn k => ⟨_, v_extract rfl (k.eq1 3 21 rfl) rfl, rfl⟩) ?_
    refine .o3 ?_
    refine .o2 (step_allocN (cs := [iv 0, iv 0]) (t := 23) rfl (noG rfl) (fun _ w hn k => rfl) (fun q _ hq hb => ⟨q, rfl, hq, hb⟩)) ?_
    refine .off ?_
    refine .off ?_
    exact .nil
  · skip
    intro i h
    simp only [List.contains_eq_mem, List.mem_cons, List.not_mem_nil, or_false, decide_eq_true_eq] at h
    subst h
    · exact eager_take rfl rfl fun _ w hn k => ⟨.bool ((addM (Nm.mk 0 9007199254740991) (Nm.mk 0 1)).2), fun w => v_extract rfl (k.eq1 3 21 rfl) rfl, rfl⟩
  intro a80 w81 hn82 ha83
  have hs84 := ha83.size.trans hs71
  have hd85 := ha83.defers.trans hd72
  have h86 := ha83.fx 0 h73
  have h87 := ha83.fx 1 h74
  have h88 := ha83.fx 2 h75
  have h89 := ha83.fx 3 h78
  have h90 := ha83.fx 4 h79
  have h91 := ha83.ge 4 25 rfl
  have h92 := ha83.ge 5 26 rfl
  obtain ⟨q94, h93, hq95, hb96⟩ : IsNew _ _ _ _ _ := ha83.got 6 5 rfl (by kernel_rfl)
  have hb97 := hb67.new_ hn82
  have hb98 := hb62.new_ hn82
  have hne99 : q19 ≠ q94 := by have h1 := hb67.lt; have h2 := hq95; omega
  have hne100 : q53 ≠ q94 := by have h1 := hb62.lt; have h2 := hq95; omega
  have hq101 := Nat.le_trans hN68.size hq95
  have hN102 := hN68.transNew hn82
  clear hs71 hd72 h73 h74 h75 h78 h79 hb67 hb62 hq95 hN68 ha83 hn82
  obtain ⟨w103, -, hst104, hb105, hu106, hf107⟩ := s_two (v0 := iv ((addM (Nm.mk 0 9007199254740991) (Nm.mk 0 1)).1.k)) (v1 := iv ((addM (Nm.mk 0 9007199254740991) (Nm.mk 0 1)).1.n)) Tryd.sizeOf23 rfl rfl rfl hb96
  refine st_act rfl rfl fun K108 hL109 => a_store' rfl h93 h91 hst104 (hL109 _ _ trivial ?_)
  have hb110 := hf107 _ _ _ (hne99) hb97
  have hb111 := hf107 _ _ _ (hne100) hb98
  have hN112 := hN102.trans hu106 (fun k hk hkb => by subst hkb; omega)
  clear hb96 hst104 K108 hL109 hN102 hb97 hb98 hu106 hf107
  refine st_take rfl rfl (y_assign (v := .bool ((addM (Nm.mk 0 9007199254740991) (Nm.mk 0 1)).2)) rfl h92) rfl ?_
  obtain ⟨a113, ha114⟩ : ∃ a', a' = a80.put (some 6) (.bool ((addM (Nm.mk 0 9007199254740991) (Nm.mk 0 1)).2)) := ⟨_, rfl⟩
  have hs115 : a113.tmps.size = 95 := by rw [ha114, put_size]; exact hs84
  have hd116 : a113.defers = [] := by rw [ha114, put_defers]; exact hd85
  have h117 : a113.eval (.tmp 0) = .bool false := by rw [ha114, put_ne _ _ _ _ (by decide)]; exact h86
  have h118 : a113.eval (.tmp 1) = pv q19 := by rw [ha114, put_ne _ _ _ _ (by decide)]; exact h87
  have h119 : a113.eval (.tmp 2) = .bool ((mulM (Nm.mk 0 0) (Nm.mk 0 (-3))).2) := by rw [ha114, put_ne _ _ _ _ (by decide)]; exact h88
  have h120 : a113.eval (.tmp 3) = pv q53 := by rw [ha114, put_ne _ _ _ _ (by decide)]; exact h89
  have h121 : a113.eval (.tmp 4) = .bool ((divM (Nm.mk 0 7) (Nm.mk 0 2)).2) := by rw [ha114, put_ne _ _ _ _ (by decide)]; exact h90
  have h122 : a113.eval (.tmp 25) = nv ((addM (Nm.mk 0 9007199254740991) (Nm.mk 0 1)).1) := by rw [ha114, put_ne _ _ _ _ (by decide)]; exact h91
  have h123 : a113.eval (.tmp 26) = .bool ((addM (Nm.mk 0 9007199254740991) (Nm.mk 0 1)).2) := by rw [ha114, put_ne _ _ _ _ (by decide)]; exact h92
  have h124 : a113.eval (.tmp 5) = pv q94 := by rw [ha114, put_ne _ _ _ _ (by decide)]; exact h93
  have h125 : a113.eval (.tmp 6) = .bool ((addM (Nm.mk 0 9007199254740991) (Nm.mk 0 1)).2) := by rw [ha114]; exact put_same _ _ _ (by rw [hs84]; decide)
  show stepsTo _ _ _ _ _ (a80.put (some 6) (.bool ((addM (Nm.mk 0 9007199254740991) (Nm.mk 0 1)).2))) _
  rw [← ha114]
  clear ha114 hs84 hd85 h86 h87 h88 h89 h90 h91 h92 h93
  clear hne99
  clear hne100
  refine st_nil ?_
  clear h122 h123
  refine hK _ _ ?_
  clear hK K
  refine wp_seq_k fun K hK => ?_
  refine wp_g [true, true, true, true, true, false, false] [3] [(5, false), (6, true)] 95
    [ve (.tuple #[nv (Nm.mk 2 0), .bool false]),
     ve (.tuple #[nv (Nm.mk 2 0), .bool false]),
     ve (nv (Nm.mk 2 0)),
     ve (.bool false),
     IsNew w103 23 [iv 0, iv 0],
     vt,
     vt]
    [4] (newsCons (fun v w h => IsNew.old h) newsNil) hs115 (.eq (.eq (.eq (.eq (.nw (.tt (.tt (.nil)))))))) ?_ ?_ ?_
  · skip
    refine .o1 (ck rfl rfl rfl (fun _ w hn k => ⟨#[.string ⟨#[45, 48]⟩], args1 rfl, fun _ => by kernel_rfl, parse_m0 _⟩) fun _ => rfl) ?_
    refine .o1 (tk rfl rfl fun _ w hn k => ⟨_, v_move rfl (k.eq1 0 28 rfl), rfl⟩) ?_
    refine .o1 (tk rfl rfl fun _ w hn k => ⟨_, v_extract rfl (k.eq1 1 27 rfl) rfl, rfl⟩) ?_
    refine .o3 ?_
    refine .o2 (step_allocN (cs := [iv 0, iv 0]) (t := 23) rfl (noG rfl) (fun _ w hn k => rfl) (fun q _ hq hb => ⟨q, rfl, hq, hb⟩)) ?_
    refine .off ?_
    refine .off ?_
    exact .nil
  · skip
    intro i h
    simp only [List.contains_eq_mem, List.mem_cons, List.not_mem_nil, or_false, decide_eq_true_eq] at h
    subst h
    · exact eager_take rfl rfl fun _ w hn k => ⟨.bool false, fun w => v_extract rfl (k.eq1 1 27 rfl) rfl, rfl⟩
  intro a126 w127 hn128 ha129
  have hs130 := ha129.size.trans hs115
  have hd131 := ha129.defers.trans hd116
  have h132 := ha129.fx 0 h117
  have h133 := ha129.fx 1 h118
  have h134 := ha129.fx 2 h119
  have h135 := ha129.fx 3 h120
  have h136 := ha129.fx 4 h121
  have h137 := ha129.fx 5 h124
  have h138 := ha129.fx 6 h125
  have h139 := ha129.ge 2 29 rfl
  have h140 := ha129.ge 3 30 rfl
  obtain ⟨q142, h141, hq143, hb144⟩ : IsNew _ _ _ _ _ := ha129.got 4 7 rfl (by kernel_rfl)
  have hb145 := hb110.new_ hn128
  have hb146 := hb111.new_ hn128
  have hb147 := hb105.new_ hn128
  have hne148 : q19 ≠ q142 := by have h1 := hb110.lt; have h2 := hq143; omega
  have hne149 : q53 ≠ q142 := by have h1 := hb111.lt; have h2 := hq143; omega
  have hne150 : q94 ≠ q142 := by have h1 := hb105.lt; have h2 := hq143; omega
  have hq151 := Nat.le_trans hN112.size hq143
  have hN152 := hN112.transNew hn128
  clear hs115 hd116 h117 h118 h119 h120 h121 h124 h125 hb110 hb111 hb105 hq143 hN112 ha129 hn128
  obtain ⟨w153, -, hst154, hb155, hu156, hf157⟩ := s_two (v0 := iv 2) (v1 := iv 0) Tryd.sizeOf23 rfl rfl rfl hb144
  refine st_act rfl rfl fun K158 hL159 => a_store' rfl h141 h139 hst154 (hL159 _ _ trivial ?_)
  have hb160 := hf157 _ _ _ (hne148) hb145
  have hb161 := hf157 _ _ _ (hne149) hb146
  have hb162 := hf157 _ _ _ (hne150) hb147
  have hN163 := hN152.trans hu156 (fun k hk hkb => by subst hkb; omega)
  clear hb144 hst154 K158 hL159 hN152 hb145 hb146 hb147 hu156 hf157
  refine st_take rfl rfl (y_assign (v := .bool false) rfl h140) rfl ?_
  obtain ⟨a164, ha165⟩ : ∃ a', a' = a126.put (some 8) (.bool false) := ⟨_, rfl⟩
  have hs166 : a164.tmps.size = 95 := by rw [ha165, put_size]; exact hs130
  have hd167 : a164.defers = [] := by rw [ha165, put_defers]; exact hd131
  have h168 : a164.eval (.tmp 0) = .bool false := by rw [ha165, put_ne _ _ _ _ (by decide)]; exact h132
  have h169 : a164.eval (.tmp 1) = pv q19 := by rw [ha165, put_ne _ _ _ _ (by decide)]; exact h133
  have h170 : a164.eval (.tmp 2) = .bool ((mulM (Nm.mk 0 0) (Nm.mk 0 (-3))).2) := by rw [ha165, put_ne _ _ _ _ (by decide)]; exact h134
  have h171 : a164.eval (.tmp 3) = pv q53 := by rw [ha165, put_ne _ _ _ _ (by decide)]; exact h135
  have h172 : a164.eval (.tmp 4) = .bool ((divM (Nm.mk 0 7) (Nm.mk 0 2)).2) := by rw [ha165, put_ne _ _ _ _ (by decide)]; exact h136
  have h173 : a164.eval (.tmp 5) = pv q94 := by rw [ha165, put_ne _ _ _ _ (by decide)]; exact h137
  have h174 : a164.eval (.tmp 6) = .bool ((addM (Nm.mk 0 9007199254740991) (Nm.mk 0 1)).2) := by rw [ha165, put_ne _ _ _ _ (by decide)]; exact h138
  have h175 : a164.eval (.tmp 29) = nv (Nm.mk 2 0) := by rw [ha165, put_ne _ _ _ _ (by decide)]; exact h139
  have h176 : a164.eval (.tmp 30) = .bool false := by rw [ha165, put_ne _ _ _ _ (by decide)]; exact h140
  have h177 : a164.eval (.tmp 7) = pv q142 := by rw [ha165, put_ne _ _ _ _ (by decide)]; exact h141
  have h178 : a164.eval (.tmp 8) = .bool false := by rw [ha165]; exact put_same _ _ _ (by rw [hs130]; decide)
  show stepsTo _ _ _ _ _ (a126.put (some 8) (.bool false)) _
  rw [← ha165]
  clear ha165 hs130 hd131 h132 h133 h134 h135 h136 h137 h138 h139 h140 h141
  clear hne148
  clear hne149
  clear hne150
  refine st_nil ?_
  clear h175 h176
  refine hK _ _ ?_
  clear hK K
  refine wp_seq_k fun K hK => ?_
  have ht179 : ((mulM (Nm.mk 0 0) (Nm.mk 0 (-3))).2) = true := by decide
  have hv180 : a164.eval (.tmp 2) = .bool true := h170.trans (congrArg Value.bool ht179)
  clear h170
  have ht181 : (decide (((mulM (Nm.mk 0 0) (Nm.mk 0 (-3))).1.k) = 1)) = true := by decide
  have ht181d := of_decide_eq_true ht181
  have ht182 : ((divM (Nm.mk 0 7) (Nm.mk 0 2)).2) = false := by decide
  have hv183 : a164.eval (.tmp 4) = .bool false := h172.trans (congrArg Value.bool ht182)
  clear h172
  have ht184 : (decide (((divM (Nm.mk 0 7) (Nm.mk 0 2)).1.k) = 2)) = true := by decide
  have ht184d := of_decide_eq_true ht184
  have ht185 : ((addM (Nm.mk 0 9007199254740991) (Nm.mk 0 1)).2) = false := by decide
  have hv186 : a164.eval (.tmp 6) = .bool false := h174.trans (congrArg Value.bool ht185)
  clear h174
  have ht187 : (decide (((addM (Nm.mk 0 9007199254740991) (Nm.mk 0 1)).1.k) = 2)) = true := by decide
  have ht187d := of_decide_eq_true ht187
  have ht188 : (decide (((remM (Nm.mk 0 (-4)) (Nm.mk 0 2)).k) = 1)) = true := by decide
  have ht188d := of_decide_eq_true ht188
  have ht189 : (decide ((i32M (Nm.mk 0 2147483648)) = -2147483648)) = true := by decide
  have ht189d := of_decide_eq_true ht189
  have ht190 : (decide (((bitM 6 (Nm.mk 0 (-1)) (Nm.mk 0 0)).n) = 4294967295)) = true := by decide
  have ht190d := of_decide_eq_true ht190
  have ht191 : (decide (((bitM 4 (Nm.mk 0 1) (Nm.mk 0 33)).n) = 2)) = true := by decide
  have ht191d := of_decide_eq_true ht191
  refine wp_g0 [true, true, true, true, true, true, true, true, true, true, true, true, true, true, true, true, true, true, true, true, true, true, true, true, true, true, true, true, true, true, true, true, true, true, true, true, true, true, true, true, true, true, true, true, true, true, true, true, true, true, true, true, true, true, true, true, true, true, true, true, true, true, true, true, true] [] 95
    [ve (.bool true),
     ve (.bool true),
     ve (pv q19),
     ve (iv ((mulM (Nm.mk 0 0) (Nm.mk 0 (-3))).1.k)),
     ve (.bool true),
     ve (.bool true),
     ve (.bool true),
     ve (.bool false),
     ve (.bool true),
     ve (.bool true),
     ve (.bool true),
     ve (pv q53),
     ve (iv ((divM (Nm.mk 0 7) (Nm.mk 0 2)).1.k)),
     ve (.bool true),
     ve (.bool true),
     ve (.bool true),
     ve (.bool false),
     ve (.bool true),
     ve (.bool true),
     ve (.bool true),
     ve (pv q94),
     ve (iv ((addM (Nm.mk 0 9007199254740991) (Nm.mk 0 1)).1.k)),
     ve (.bool true),
     ve (.bool true),
     ve (.bool true),
     ve (.bool false),
     ve (.bool true),
     ve (.bool true),
     ve (.bool true),
     ve (pv q142),
     ve (iv 2),
     ve (.bool true),
     ve (.bool true),
     ve (.bool true),
     ve (nv (Nm.mk 0 (-4))),
     ve (nv (Nm.mk 0 2)),
     ve (nv (remM (Nm.mk 0 (-4)) (Nm.mk 0 2))),
     ve (iv ((remM (Nm.mk 0 (-4)) (Nm.mk 0 2)).k)),
     ve (.bool true),
     ve (.bool true),
     ve (.bool true),
     ve (nv (Nm.mk 0 2147483648)),
     ve (iv (i32M (Nm.mk 0 2147483648))),
     ve (.bool true),
     ve (.bool true),
     ve (.bool true),
     ve (nv (Nm.mk 0 (-1))),
     ve (nv (Nm.mk 0 0)),
     ve (nv (bitM 6 (Nm.mk 0 (-1)) (Nm.mk 0 0))),
     ve (iv ((bitM 6 (Nm.mk 0 (-1)) (Nm.mk 0 0)).n)),
     ve (.bool true),
     ve (.bool true),
     ve (.bool true),
     ve (nv (Nm.mk 0 1)),
     ve (nv (Nm.mk 0 33)),
     ve (nv (bitM 4 (Nm.mk 0 1) (Nm.mk 0 33))),
     ve (iv ((bitM 4 (Nm.mk 0 1) (Nm.mk 0 33)).n)),
     ve (.bool true),
     ve (.bool true),
     ve (.bool true),
     ve (nv (Nm.mk 1 0)),
     ve (.string ⟨#[48]⟩),
     ve (.bool true),
     ve (.bool true),
     ve (.bool true)] hs166 (.eq (.eq (.eq (.eq (.eq (.eq (.eq (.eq (.eq (.eq (.eq (.eq (.eq (.eq (.eq (.eq (.eq (.eq (.eq (.eq (.eq (.eq (.eq (.eq (.eq (.eq (.eq (.eq (.eq (.eq (.eq (.eq (.eq (.eq (.eq (.eq (.eq (.eq (.eq (.eq (.eq (.eq (.eq (.eq (.eq (.eq (.eq (.eq (.eq (.eq (.eq (.eq (.eq (.eq (.eq (.eq (.eq (.eq (.eq (.eq (.eq (.eq (.eq (.eq (.eq (.nil)))))))))))))))))))))))))))))))))))))))))))))))))))))))))))))))))) ?_ ?_
  · skip
    refine .o1 (tk rfl rfl fun _ w hn k => ⟨_, v_move rfl (k.fx 2 hv180), rfl⟩) ?_
    refine .o1 (tk rfl rfl fun _ w hn k => ⟨_, v_move rfl (k.eq1 0 31 rfl), rfl⟩) ?_
    refine .o1 (tg rfl rfl rfl (fun _ _ k => k.eq1 1 32 rfl) fun _ w hn k => ⟨_, v_field rfl (k.fx 1 h169) (fun w => rfl), rfl⟩) ?_
    refine .o1 (tg rfl rfl rfl (fun _ _ k => k.eq1 1 32 rfl) fun _ w hn k => ⟨_, v_load rfl (k.eq1 2 33 rfl) (l_one Tryd.isAgg3 ((hb160.new_ hn).cell 0)), rfl⟩) ?_
    refine .o1 (tg rfl rfl rfl (fun _ _ k => k.eq1 1 32 rfl) fun _ w hn k => ⟨_, v_bin rfl (k.eq1 3 34 rfl) rfl (fun _ => rfl) (r_eql ht181), rfl⟩) ?_
    refine .o1 (tk rfl rfl fun _ w hn k => ⟨_, v_pickT rfl (k.eq1 1 32 rfl) (k.eq1 4 35 rfl), rfl⟩) ?_
    refine .o1 (tk rfl rfl fun _ w hn k => ⟨_, v_move rfl (k.eq1 5 36 rfl), rfl⟩) ?_
    refine .o1 (tg rfl rfl rfl (fun _ _ k => k.eq1 6 37 rfl) fun _ w hn k => ⟨_, v_move rfl (k.fx 4 hv183), rfl⟩) ?_
    refine .o1 (tg rfl rfl rfl (fun _ _ k => k.eq1 6 37 rfl) fun _ w hn k => ⟨_, v_not rfl (k.eq1 7 38 rfl), rfl⟩) ?_
    refine .o1 (tk rfl rfl fun _ w hn k => ⟨_, v_pickT rfl (k.eq1 6 37 rfl) (k.eq1 8 39 rfl), rfl⟩) ?_
    refine .o1 (tk rfl rfl fun _ w hn k => ⟨_, v_move rfl (k.eq1 9 40 rfl), rfl⟩) ?_
    refine .o1 (tg rfl rfl rfl (fun _ _ k => k.eq1 10 41 rfl) fun _ w hn k => ⟨_, v_field rfl (k.fx 3 h171) (fun w => rfl), rfl⟩) ?_
    refine .o1 (tg rfl rfl rfl (fun _ _ k => k.eq1 10 41 rfl) fun _ w hn k => ⟨_, v_load rfl (k.eq1 11 42 rfl) (l_one Tryd.isAgg3 ((hb161.new_ hn).cell 0)), rfl⟩) ?_
    refine .o1 (tg rfl rfl rfl (fun _ _ k => k.eq1 10 41 rfl) fun _ w hn k => ⟨_, v_bin rfl (k.eq1 12 43 rfl) rfl (fun _ => rfl) (r_eql ht184), rfl⟩) ?_
    refine .o1 (tk rfl rfl fun _ w hn k => ⟨_, v_pickT rfl (k.eq1 10 41 rfl) (k.eq1 13 44 rfl), rfl⟩) ?_
    refine .o1 (tk rfl rfl fun _ w hn k => ⟨_, v_move rfl (k.eq1 14 45 rfl), rfl⟩) ?_
    refine .o1 (tg rfl rfl rfl (fun _ _ k => k.eq1 15 46 rfl) fun _ w hn k => ⟨_, v_move rfl (k.fx 6 hv186), rfl⟩) ?_
    refine .o1 (tg rfl rfl rfl (fun _ _ k => k.eq1 15 46 rfl) fun _ w hn k => ⟨_, v_not rfl (k.eq1 16 47 rfl), rfl⟩) ?_
    refine .o1 (tk rfl rfl fun _ w hn k => ⟨_, v_pickT rfl (k.eq1 15 46 rfl) (k.eq1 17 48 rfl), rfl⟩) ?_
    refine .o1 (tk rfl rfl fun _ w hn k => ⟨_, v_move rfl (k.eq1 18 49 rfl), rfl⟩) ?_
    refine .o1 (tg rfl rfl rfl (fun _ _ k => k.eq1 19 50 rfl) fun _ w hn k => ⟨_, v_field rfl (k.fx 5 h173) (fun w => rfl), rfl⟩) ?_
    refine .o1 (tg rfl rfl rfl (fun _ _ k => k.eq1 19 50 rfl) fun _ w hn k => ⟨_, v_load rfl (k.eq1 20 51 rfl) (l_one Tryd.isAgg3 ((hb162.new_ hn).cell 0)), rfl⟩) ?_
    refine .o1 (tg rfl rfl rfl (fun _ _ k => k.eq1 19 50 rfl) fun _ w hn k => ⟨_, v_bin rfl (k.eq1 21 52 rfl) rfl (fun _ => rfl) (r_eql ht187), rfl⟩) ?_
    refine .o1 (tk rfl rfl fun _ w hn k => ⟨_, v_pickT rfl (k.eq1 19 50 rfl) (k.eq1 22 53 rfl), rfl⟩) ?_
    refine .o1 (tk rfl rfl fun _ w hn k => ⟨_, v_move rfl (k.eq1 23 54 rfl), rfl⟩) ?_
    refine .o1 (tg rfl rfl rfl (fun _ _ k => k.eq1 24 55 rfl) fun _ w hn k => ⟨_, v_move rfl (k.fx 8 h178), rfl⟩) ?_
    refine .o1 (tg rfl rfl rfl (fun _ _ k => k.eq1 24 55 rfl) fun _ w hn k => ⟨_, v_not rfl (k.eq1 25 56 rfl), rfl⟩) ?_
    refine .o1 (tk rfl rfl fun _ w hn k => ⟨_, v_pickT rfl (k.eq1 24 55 rfl) (k.eq1 26 57 rfl), rfl⟩) ?_
    refine .o1 (tk rfl rfl fun _ w hn k => ⟨_, v_move rfl (k.eq1 27 58 rfl), rfl⟩) ?_
    refine .o1 (tg rfl rfl rfl (fun _ _ k => k.eq1 28 59 rfl) fun _ w hn k => ⟨_, v_field rfl (k.fx 7 h177) (fun w => rfl), rfl⟩) ?_
    refine .o1 (tg rfl rfl rfl (fun _ _ k => k.eq1 28 59 rfl) fun _ w hn k => ⟨_, v_load rfl (k.eq1 29 60 rfl) (l_one Tryd.isAgg3 ((hb155.new_ hn).cell 0)), rfl⟩) ?_
    refine .o1 (tg rfl rfl rfl (fun _ _ k => k.eq1 28 59 rfl) fun _ w hn k => ⟨_, v_bin rfl (k.eq1 30 61 rfl) rfl (fun _ => rfl) (fun w => by kernel_rfl), rfl⟩) ?_
    refine .o1 (tk rfl rfl fun _ w hn k => ⟨_, v_pickT rfl (k.eq1 28 59 rfl) (k.eq1 31 62 rfl), rfl⟩) ?_
    refine .o1 (tk rfl rfl fun _ w hn k => ⟨_, v_move rfl (k.eq1 32 63 rfl), rfl⟩) ?_
    refine .o1 (cg rfl rfl rfl (fun _ _ k => k.eq1 33 64 rfl) rfl (fun _ w hn k => ⟨#[iv (-4)], args1 rfl, fun _ => by kernel_rfl, w_c (-4) _⟩) fun _ => rfl) ?_
    refine .o1 (cg rfl rfl rfl (fun _ _ k => k.eq1 33 64 rfl) rfl (fun _ w hn k => ⟨#[iv 2], args1 rfl, fun _ => by kernel_rfl, w_c 2 _⟩) fun _ => rfl) ?_
    refine .o1 (cg rfl rfl rfl (fun _ _ k => k.eq1 33 64 rfl) rfl (fun _ w hn k => ⟨#[nv (Nm.mk 0 (-4)), nv (Nm.mk 0 2)], args2 (k.eq1 34 65 rfl) (k.eq1 35 66 rfl), fun _ => by kernel_rfl, rem_c (Nm.mk 0 (-4)) (Nm.mk 0 2) _⟩) fun _ => rfl) ?_
    refine .o1 (tg rfl rfl rfl (fun _ _ k => k.eq1 33 64 rfl) fun _ w hn k => ⟨_, v_fieldv rfl (k.eq1 36 67 rfl) (fun w => by kernel_rfl), rfl⟩) ?_
    refine .o1 (tg rfl rfl rfl (fun _ _ k => k.eq1 33 64 rfl) fun _ w hn k => ⟨_, v_bin rfl (k.eq1 37 68 rfl) rfl (fun _ => rfl) (r_eql ht188), rfl⟩) ?_
    refine .o1 (tk rfl rfl fun _ w hn k => ⟨_, v_pickT rfl (k.eq1 33 64 rfl) (k.eq1 38 69 rfl), rfl⟩) ?_
    refine .o1 (tk rfl rfl fun _ w hn k => ⟨_, v_move rfl (k.eq1 39 70 rfl), rfl⟩) ?_
    refine .o1 (cg rfl rfl rfl (fun _ _ k => k.eq1 40 71 rfl) rfl (fun _ w hn k => ⟨#[iv 2147483648], args1 rfl, fun _ => by kernel_rfl, w_c 2147483648 _⟩) fun _ => rfl) ?_
    refine .o1 (cg rfl rfl rfl (fun _ _ k => k.eq1 40 71 rfl) rfl (fun _ w hn k => ⟨#[nv (Nm.mk 0 2147483648)], args1 (k.eq1 41 72 rfl), fun _ => by kernel_rfl, i32_c (Nm.mk 0 2147483648) _⟩) fun _ => rfl) ?_
    refine .o1 (tg rfl rfl rfl (fun _ _ k => k.eq1 40 71 rfl) fun _ w hn k => ⟨_, v_bin rfl (k.eq1 42 73 rfl) rfl (fun _ => rfl) (r_eql ht189), rfl⟩) ?_
    refine .o1 (tk rfl rfl fun _ w hn k => ⟨_, v_pickT rfl (k.eq1 40 71 rfl) (k.eq1 43 74 rfl), rfl⟩) ?_
    refine .o1 (tk rfl rfl fun _ w hn k => ⟨_, v_move rfl (k.eq1 44 75 rfl), rfl⟩) ?_
    refine .o1 (cg rfl rfl rfl (fun _ _ k => k.eq1 45 76 rfl) rfl (fun _ w hn k => ⟨#[iv (-1)], args1 rfl, fun _ => by kernel_rfl, w_c (-1) _⟩) fun _ => rfl) ?_
    refine .o1 (cg rfl rfl rfl (fun _ _ k => k.eq1 45 76 rfl) rfl (fun _ w hn k => ⟨#[iv 0], args1 rfl, fun _ => by kernel_rfl, w_c 0 _⟩) fun _ => rfl) ?_
    refine .o1 (cg rfl rfl rfl (fun _ _ k => k.eq1 45 76 rfl) rfl (fun _ w hn k => ⟨#[iv 6, nv (Nm.mk 0 (-1)), nv (Nm.mk 0 0)], args3 rfl (k.eq1 46 77 rfl) (k.eq1 47 78 rfl), fun _ => by kernel_rfl, bit_c 6 (Nm.mk 0 (-1)) (Nm.mk 0 0) _⟩) fun _ => rfl) ?_
    refine .o1 (tg rfl rfl rfl (fun _ _ k => k.eq1 45 76 rfl) fun _ w hn k => ⟨_, v_fieldv rfl (k.eq1 48 79 rfl) (fun w => by kernel_rfl), rfl⟩) ?_
    refine .o1 (tg rfl rfl rfl (fun _ _ k => k.eq1 45 76 rfl) fun _ w hn k => ⟨_, v_bin rfl (k.eq1 49 80 rfl) rfl (fun _ => rfl) (r_eql ht190), rfl⟩) ?_
    refine .o1 (tk rfl rfl fun _ w hn k => ⟨_, v_pickT rfl (k.eq1 45 76 rfl) (k.eq1 50 81 rfl), rfl⟩) ?_
    refine .o1 (tk rfl rfl fun _ w hn k => ⟨_, v_move rfl (k.eq1 51 82 rfl), rfl⟩) ?_
    refine .o1 (cg rfl rfl rfl (fun _ _ k => k.eq1 52 83 rfl) rfl (fun _ w hn k => ⟨#[iv 1], args1 rfl, fun _ => by kernel_rfl, w_c 1 _⟩) fun _ => rfl) ?_
    refine .o1 (cg rfl rfl rfl (fun _ _ k => k.eq1 52 83 rfl) rfl (fun _ w hn k => ⟨#[iv 33], args1 rfl, fun _ => by kernel_rfl, w_c 33 _⟩) fun _ => rfl) ?_
    refine .o1 (cg rfl rfl rfl (fun _ _ k => k.eq1 52 83 rfl) rfl (fun _ w hn k => ⟨#[iv 4, nv (Nm.mk 0 1), nv (Nm.mk 0 33)], args3 rfl (k.eq1 53 84 rfl) (k.eq1 54 85 rfl), fun _ => by kernel_rfl, bit_c 4 (Nm.mk 0 1) (Nm.mk 0 33) _⟩) fun _ => rfl) ?_
    refine .o1 (tg rfl rfl rfl (fun _ _ k => k.eq1 52 83 rfl) fun _ w hn k => ⟨_, v_fieldv rfl (k.eq1 55 86 rfl) (fun w => by kernel_rfl), rfl⟩) ?_
    refine .o1 (tg rfl rfl rfl (fun _ _ k => k.eq1 52 83 rfl) fun _ w hn k => ⟨_, v_bin rfl (k.eq1 56 87 rfl) rfl (fun _ => rfl) (r_eql ht191), rfl⟩) ?_
    refine .o1 (tk rfl rfl fun _ w hn k => ⟨_, v_pickT rfl (k.eq1 52 83 rfl) (k.eq1 57 88 rfl), rfl⟩) ?_
    refine .o1 (tk rfl rfl fun _ w hn k => ⟨_, v_move rfl (k.eq1 58 89 rfl), rfl⟩) ?_
    refine .o1 (tg rfl rfl rfl (fun _ _ k => k.eq1 59 90 rfl) fun _ w hn k => ⟨_, v_build (ps := [(0, iv 1)]) rfl (parts1 rfl) (by kernel_rfl), rfl⟩) ?_
    refine .o1 (cg rfl rfl rfl (fun _ _ k => k.eq1 59 90 rfl) rfl (fun _ w hn k => ⟨#[nv (Nm.mk 1 0)], args1 (k.eq1 60 91 rfl), fun _ => by kernel_rfl, text_m0 _⟩) fun _ => rfl) ?_
    refine .o1 (tg rfl rfl rfl (fun _ _ k => k.eq1 59 90 rfl) fun _ w hn k => ⟨_, v_bin rfl (k.eq1 61 92 rfl) rfl (fun _ => rfl) (r_eqlS (r := true) (by kernel_rfl)), rfl⟩) ?_
    refine .o1 (tk rfl rfl fun _ w hn k => ⟨_, v_pickT rfl (k.eq1 59 90 rfl) (k.eq1 62 93 rfl), rfl⟩) ?_
    refine .o1 (tk rfl rfl fun _ w hn k => ⟨_, v_assign rfl (k.eq1 63 94 rfl), rfl⟩) ?_
    exact .nil
  intro a192 w193 hn194 ha195
  have hs196 := ha195.size.trans hs166
  have hd197 := ha195.defers.trans hd167
  have h198 := ha195.ge 64 0 rfl
  have hN199 := hN163.transNew hn194
  clear hs166 hd167 h168 h169 hv180 h171 hv183 h173 hv186 h177 h178 hb160 hq22 hb161 hq58 hb162 hq101 hb155 hq151 hN163 ha195 hn194
  have hi32_Nmmk02147483648 : -2147483648 ≤ i32M (Nm.mk 0 2147483648) ∧ i32M (Nm.mk 0 2147483648) ≤ 2147483647 := i32_bd _
  refine st_nil ?_
  refine hK _ _ ?_
  clear hK K
  refine wp_ret (ret_k hd197 (v := .bool true) (res_t rfl h198 _) ?_)
  exact ⟨rfl, hN199⟩
end Go.Proofs.YtldakajmhfdfgaaDoor
