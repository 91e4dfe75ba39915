import Derived.Test.YtecgdgjlmlpcnaaCmd
namespace Go.Proofs.Ytecgdgjlmlpcnaa
open Go.RowKit
set_option linter.unusedSimpArgs false
set_option linter.unusedVariables false
set_option maxHeartbeats 16000000 in
set_option maxRecDepth 100000 in
theorem first_c  (w : World) : Calls Try.prog 6 #[] w (IsRet (.bool true) w) := by
  refine enter_abs Try.func6 rfl fun a0 hs0 hd0 hp => ?_
  have hs0 : a0.tmps.size = 94 := hs0
  have hN0 : New w w := Upd.refl _ _
  refine wp_seq_k fun K1 hK1 => ?_
  refine wp_g0 [true] [] 94
    [ve (.bool false)] hs0 (.eq (.nil)) ?_ ?_
  refine .o1 (tk rfl rfl fun _ w hn k => ⟨_, v_assign rfl rfl, rfl⟩) ?_
  exact .nil
  intro a2 w3 hn4 ha5
  obtain ⟨hs6, hd7, hN8⟩ := aft ha5 hs0 hd0 hN0 hn4
  refine st_nil (hK1 _ _ ?_)
  refine wp_seq_k fun K9 hK9 => ?_
  refine wp_g [true, true, true, true, true, true, false, false] [4] [(6, false), (7, true)] 94
    [(fun (v_ : Value) (W : World) => ∃ (A3 : Option Addr) (c4 : Nat), v_ = vv (Vl.mk 5 0 0 false [] (asc ⟨#[49, 50]⟩) 0) none 0 A3 c4 ∧ SRow W .u16 A3 (asc ⟨#[49, 50]⟩) c4),
     ve (.tuple #[nv (Nm.mk 0 12), iv 0]),
     ve (.tuple #[nv (Nm.mk 0 12), iv 0]),
     ve (nv (Nm.mk 0 12)),
     ve (iv 0),
     IsNew w3 23 [iv 0, iv 0],
     vt,
     vt]
    [5] (newsCons (fun v w h => IsNew.old h) newsNil) hs6 (.cons (fun v W W' hn ⟨A3, c4, he, h0⟩ => ⟨A3, c4, he, h0.new_ hn⟩) (.eq (.eq (.eq (.eq (.nw (.tt (.tt (.nil))))))))) ?_ ?_ ?_
  refine .o1 (tkC rfl (noG rfl) rfl fun _ w hn k => (by
        refine ⟨#[.string ⟨#[49, 50]⟩], _, args1 rfl, fun w => by kernel_rfl, lstr_c ⟨#[49, 50]⟩ _ (by first | omega | (show (_ : Nat) ≤ _; decide)), ?_⟩
        rintro e w' ⟨A1, c2, rfl, hmo0, hm⟩
        exact ⟨_, rfl, hm, ⟨A1, c2, rfl, hmo0⟩⟩)) ?_
  refine .o1 (tkC rfl (noG rfl) rfl fun _ w hn k => (by
        obtain ⟨A5, c6, e7, hx8⟩ : (fun (v_ : Value) (W : World) => ∃ (A3 : Option Addr) (c4 : Nat), v_ = vv (Vl.mk 5 0 0 false [] (asc ⟨#[49, 50]⟩) 0) none 0 A3 c4 ∧ SRow W .u16 A3 (asc ⟨#[49, 50]⟩) c4) _ _ := k.dep 0 16 (by kernel_rfl) (by kernel_rfl)
        refine ⟨#[vv (Vl.mk 5 0 0 false [] (asc ⟨#[49, 50]⟩) 0) none 0 A5 c6], _, args1 e7, fun w => by kernel_rfl, first_n1 _ _ _ _ _ (SRow.nil _ _) hx8, ?_⟩
        rintro e w' ⟨rfl, hm⟩
        exact ⟨_, rfl, hm, rfl⟩)) ?_
  refine .o1 (tk rfl rfl fun _ w hn k => ⟨_, v_move rfl (k.eq1 1 17 rfl), rfl⟩) ?_
  refine .o1 (tk rfl rfl fun _ w hn k => ⟨_, v_extract rfl (k.eq1 2 15 rfl) rfl, rfl⟩) ?_
  refine .o3 ?_
  refine .o2 (step_allocN (cs := [iv 0, iv 0]) (t := 23) rfl (noG rfl) (fun _ w hn k => rfl) (fun q _ hq hb => ⟨q, rfl, hq, hb⟩)) ?_
  refine .off ?_
  refine .off ?_
  exact .nil
  intro i h
  simp only [List.contains_eq_mem, List.mem_cons, List.not_mem_nil, or_false, decide_eq_true_eq] at h
  subst h
  exact eager_take rfl rfl fun _ w hn k => ⟨iv 0, fun w => v_extract rfl (k.eq1 2 15 rfl) rfl, rfl⟩
  intro a10 w11 hn12 ha13
  obtain ⟨hs14, hd15, hN23⟩ := aft ha13 hs6 hd7 hN8 hn12
  have h16 := ha13.ge 3 18 rfl
  have h17 := ha13.ge 4 19 rfl
  obtain ⟨q19, h18, hq20, hb21⟩ : IsNew _ _ _ _ _ := ha13.got 5 1 rfl (by kernel_rfl)
  have hq22 := Nat.le_trans hN8.size hq20
  obtain ⟨w24, -, hst25, hb26, hu27, hf28⟩ := s_two (v0 := iv 0) (v1 := iv 12) Try.sizeOf23 rfl rfl rfl hb21
  refine st_act rfl rfl fun K29 hL30 => a_store' rfl h18 h16 hst25 (hL30 _ _ trivial ?_)
  have hN31 := hN23.trans hu27 (fun k hk hkb => by subst hkb; omega)
  refine st_take rfl rfl (y_assign (v := iv 0) rfl h17) rfl ?_
  obtain ⟨a32, ha33⟩ : ∃ a', a' = a10.put (some 2) (iv 0) := ⟨_, rfl⟩
  have hs34 : a32.tmps.size = 94 := by rw [ha33, put_size]; exact hs14
  have hd35 : a32.defers = [] := by rw [ha33, put_defers]; exact hd15
  have h36 := pn ha33 h16 (by decide)
  have h37 := pn ha33 h17 (by decide)
  have h38 := pn ha33 h18 (by decide)
  have h39 : a32.eval (.tmp 2) = iv 0 := by rw [ha33]; exact put_same _ _ _ (by rw [hs14]; decide)
  show stepsTo _ _ _ _ _ (a10.put (some 2) (iv 0)) _
  rw [← ha33]
  refine st_nil (hK9 _ _ ?_)
  refine wp_seq_k fun K40 hK40 => ?_
  refine wp_g [true, true, true, true, true, true, false, false] [4] [(6, false), (7, true)] 94
    [(fun (v_ : Value) (W : World) => ∃ (A11 : Option Addr) (c12 : Nat), v_ = vv (Vl.mk 5 0 0 false [] (asc ⟨#[49, 46, 53]⟩) 0) none 0 A11 c12 ∧ SRow W .u16 A11 (asc ⟨#[49, 46, 53]⟩) c12),
     ve (.tuple #[nv (Nm.mk 0 0), iv 3]),
     ve (.tuple #[nv (Nm.mk 0 0), iv 3]),
     ve (nv (Nm.mk 0 0)),
     ve (iv 3),
     IsNew w24 23 [iv 0, iv 0],
     vt,
     vt]
    [5] (newsCons (fun v w h => IsNew.old h) newsNil) hs34 (.cons (fun v W W' hn ⟨A11, c12, he, h0⟩ => ⟨A11, c12, he, h0.new_ hn⟩) (.eq (.eq (.eq (.eq (.nw (.tt (.tt (.nil))))))))) ?_ ?_ ?_
  refine .o1 (tkC rfl (noG rfl) rfl fun _ w hn k => (by
        refine ⟨#[.string ⟨#[49, 46, 53]⟩], _, args1 rfl, fun w => by kernel_rfl, lstr_c ⟨#[49, 46, 53]⟩ _ (by first | omega | (show (_ : Nat) ≤ _; decide)), ?_⟩
        rintro e w' ⟨A9, c10, rfl, hmo0, hm⟩
        exact ⟨_, rfl, hm, ⟨A9, c10, rfl, hmo0⟩⟩)) ?_
  refine .o1 (tkC rfl (noG rfl) rfl fun _ w hn k => (by
        obtain ⟨A13, c14, e15, hx16⟩ : (fun (v_ : Value) (W : World) => ∃ (A11 : Option Addr) (c12 : Nat), v_ = vv (Vl.mk 5 0 0 false [] (asc ⟨#[49, 46, 53]⟩) 0) none 0 A11 c12 ∧ SRow W .u16 A11 (asc ⟨#[49, 46, 53]⟩) c12) _ _ := k.dep 0 21 (by kernel_rfl) (by kernel_rfl)
        refine ⟨#[vv (Vl.mk 5 0 0 false [] (asc ⟨#[49, 46, 53]⟩) 0) none 0 A13 c14], _, args1 e15, fun w => by kernel_rfl, first_n2 _ _ _ _ _ (SRow.nil _ _) hx16, ?_⟩
        rintro e w' ⟨rfl, hm⟩
        exact ⟨_, rfl, hm, rfl⟩)) ?_
  refine .o1 (tk rfl rfl fun _ w hn k => ⟨_, v_move rfl (k.eq1 1 22 rfl), rfl⟩) ?_
  refine .o1 (tk rfl rfl fun _ w hn k => ⟨_, v_extract rfl (k.eq1 2 20 rfl) rfl, rfl⟩) ?_
  refine .o3 ?_
  refine .o2 (step_allocN (cs := [iv 0, iv 0]) (t := 23) rfl (noG rfl) (fun _ w hn k => rfl) (fun q _ hq hb => ⟨q, rfl, hq, hb⟩)) ?_
  refine .off ?_
  refine .off ?_
  exact .nil
  intro i h
  simp only [List.contains_eq_mem, List.mem_cons, List.not_mem_nil, or_false, decide_eq_true_eq] at h
  subst h
  exact eager_take rfl rfl fun _ w hn k => ⟨iv 3, fun w => v_extract rfl (k.eq1 2 20 rfl) rfl, rfl⟩
  intro a41 w42 hn43 ha44
  obtain ⟨hs45, hd46, hN58⟩ := aft ha44 hs34 hd35 hN31 hn43
  have h47 := ha44.fx 1 h38
  have h48 := ha44.fx 2 h39
  have h49 := ha44.ge 3 23 rfl
  have h50 := ha44.ge 4 24 rfl
  obtain ⟨q52, h51, hq53, hb54⟩ : IsNew _ _ _ _ _ := ha44.got 5 3 rfl (by kernel_rfl)
  have hb55 := hb26.new_ hn43
  have hne56 : q19 ≠ q52 := by have h1 := hb26.lt; have h2 := hq53; omega
  have hq57 := Nat.le_trans hN31.size hq53
  obtain ⟨w59, -, hst60, hb61, hu62, hf63⟩ := s_two (v0 := iv 0) (v1 := iv 0) Try.sizeOf23 rfl rfl rfl hb54
  refine st_act rfl rfl fun K64 hL65 => a_store' rfl h51 h49 hst60 (hL65 _ _ trivial ?_)
  have hb66 := hf63 _ _ _ (hne56) hb55
  have hN67 := hN58.trans hu62 (fun k hk hkb => by subst hkb; omega)
  refine st_take rfl rfl (y_assign (v := iv 3) rfl h50) rfl ?_
  obtain ⟨a68, ha69⟩ : ∃ a', a' = a41.put (some 4) (iv 3) := ⟨_, rfl⟩
  have hs70 : a68.tmps.size = 94 := by rw [ha69, put_size]; exact hs45
  have hd71 : a68.defers = [] := by rw [ha69, put_defers]; exact hd46
  have h72 := pn ha69 h47 (by decide)
  have h73 := pn ha69 h48 (by decide)
  have h74 := pn ha69 h49 (by decide)
  have h75 := pn ha69 h50 (by decide)
  have h76 := pn ha69 h51 (by decide)
  have h77 : a68.eval (.tmp 4) = iv 3 := by rw [ha69]; exact put_same _ _ _ (by rw [hs45]; decide)
  show stepsTo _ _ _ _ _ (a41.put (some 4) (iv 3)) _
  rw [← ha69]
  refine st_nil (hK40 _ _ ?_)
  refine wp_seq_k fun K78 hK78 => ?_
  refine wp_g [true, true, true, true, true, true, false, false] [4] [(6, false), (7, true)] 94
    [(fun (v_ : Value) (W : World) => ∃ (A19 : Option Addr) (c20 : Nat), v_ = vv (Vl.mk 4 0 0 false [5] [] 0) A19 c20 none 0 ∧ SRow W .u32 A19 ([5]) c20),
     ve (.tuple #[nv (Nm.mk 0 0), iv 1]),
     ve (.tuple #[nv (Nm.mk 0 0), iv 1]),
     ve (nv (Nm.mk 0 0)),
     ve (iv 1),
     IsNew w59 23 [iv 0, iv 0],
     vt,
     vt]
    [5] (newsCons (fun v w h => IsNew.old h) newsNil) hs70 (.cons (fun v W W' hn ⟨A19, c20, he, h0⟩ => ⟨A19, c20, he, h0.new_ hn⟩) (.eq (.eq (.eq (.eq (.nw (.tt (.tt (.nil))))))))) ?_ ?_ ?_
  refine .o1 (tkC rfl (noG rfl) rfl fun _ w hn k => (by
        refine ⟨#[.int .u32 5], _, args1 rfl, fun w => by kernel_rfl, lbig_c 5 _ (by omega), ?_⟩
        rintro e w' ⟨A17, c18, rfl, hmo0, hm⟩
        exact ⟨_, rfl, hm, ⟨A17, c18, rfl, hmo0⟩⟩)) ?_
  refine .o1 (tkC rfl (noG rfl) rfl fun _ w hn k => (by
        obtain ⟨A21, c22, e23, hx24⟩ : (fun (v_ : Value) (W : World) => ∃ (A19 : Option Addr) (c20 : Nat), v_ = vv (Vl.mk 4 0 0 false [5] [] 0) A19 c20 none 0 ∧ SRow W .u32 A19 ([5]) c20) _ _ := k.dep 0 26 (by kernel_rfl) (by kernel_rfl)
        refine ⟨#[vv (Vl.mk 4 0 0 false [5] [] 0) A21 c22 none 0], _, args1 e23, fun w => by kernel_rfl, first_n3 _ _ _ _ _ hx24 (SRow.nil _ _), ?_⟩
        rintro e w' ⟨rfl, hm⟩
        exact ⟨_, rfl, hm, rfl⟩)) ?_
  refine .o1 (tk rfl rfl fun _ w hn k => ⟨_, v_move rfl (k.eq1 1 27 rfl), rfl⟩) ?_
  refine .o1 (tk rfl rfl fun _ w hn k => ⟨_, v_extract rfl (k.eq1 2 25 rfl) rfl, rfl⟩) ?_
  refine .o3 ?_
  refine .o2 (step_allocN (cs := [iv 0, iv 0]) (t := 23) rfl (noG rfl) (fun _ w hn k => rfl) (fun q _ hq hb => ⟨q, rfl, hq, hb⟩)) ?_
  refine .off ?_
  refine .off ?_
  exact .nil
  intro i h
  simp only [List.contains_eq_mem, List.mem_cons, List.not_mem_nil, or_false, decide_eq_true_eq] at h
  subst h
  exact eager_take rfl rfl fun _ w hn k => ⟨iv 1, fun w => v_extract rfl (k.eq1 2 25 rfl) rfl, rfl⟩
  intro a79 w80 hn81 ha82
  obtain ⟨hs83, hd84, hN97⟩ := aft ha82 hs70 hd71 hN67 hn81
  have h85 := ha82.fx 1 h72
  have h86 := ha82.fx 2 h73
  have h87 := ha82.fx 4 h77
  have h88 := ha82.ge 3 28 rfl
  have h89 := ha82.ge 4 29 rfl
  obtain ⟨q91, h90, hq92, hb93⟩ : IsNew _ _ _ _ _ := ha82.got 5 5 rfl (by kernel_rfl)
  have hb94 := hb66.new_ hn81
  have hne95 : q19 ≠ q91 := by have h1 := hb66.lt; have h2 := hq92; omega
  have hq96 := Nat.le_trans hN67.size hq92
  obtain ⟨w98, -, hst99, hb100, hu101, hf102⟩ := s_two (v0 := iv 0) (v1 := iv 0) Try.sizeOf23 rfl rfl rfl hb93
  refine st_act rfl rfl fun K103 hL104 => a_store' rfl h90 h88 hst99 (hL104 _ _ trivial ?_)
  have hb105 := hf102 _ _ _ (hne95) hb94
  have hN106 := hN97.trans hu101 (fun k hk hkb => by subst hkb; omega)
  refine st_take rfl rfl (y_assign (v := iv 1) rfl h89) rfl ?_
  obtain ⟨a107, ha108⟩ : ∃ a', a' = a79.put (some 6) (iv 1) := ⟨_, rfl⟩
  have hs109 : a107.tmps.size = 94 := by rw [ha108, put_size]; exact hs83
  have hd110 : a107.defers = [] := by rw [ha108, put_defers]; exact hd84
  have h111 := pn ha108 h85 (by decide)
  have h112 := pn ha108 h86 (by decide)
  have h113 := pn ha108 h87 (by decide)
  have h114 := pn ha108 h88 (by decide)
  have h115 := pn ha108 h89 (by decide)
  have h116 := pn ha108 h90 (by decide)
  have h117 : a107.eval (.tmp 6) = iv 1 := by rw [ha108]; exact put_same _ _ _ (by rw [hs83]; decide)
  show stepsTo _ _ _ _ _ (a79.put (some 6) (iv 1)) _
  rw [← ha108]
  refine st_nil (hK78 _ _ ?_)
  refine wp_seq_k fun K118 hK118 => ?_
  refine wp_g0 [true, true, true, true, true, true, true, true] [] 94
    [(fun (v_ : Value) (W : World) => ∃ (A27 : Option Addr) (c28 : Nat), v_ = vv (Vl.mk 5 0 0 false [] (asc ⟨#[49]⟩) 0) none 0 A27 c28 ∧ SRow W .u16 A27 (asc ⟨#[49]⟩) c28),
     (fun (v_ : Value) (W : World) => ∃ (A33 : Option Addr) (c34 : Nat) (A35 : Option Addr) (c36 : Nat), v_ = vv (truthV true) A33 c34 A35 c36 ∧ SRow W .u32 A33 ((truthV true).mag) c34 ∧ SRow W .u16 A35 ((truthV true).s) c36),
     ve (.tuple #[.bool true, iv 0]),
     ve (.tuple #[.bool true, iv 0]),
     ve (.bool true),
     ve (iv 0),
     ve (.bool true),
     ve (iv 0)] hs109 (.cons (fun v W W' hn ⟨A27, c28, he, h0⟩ => ⟨A27, c28, he, h0.new_ hn⟩) (.cons (fun v W W' hn ⟨A33, c34, A35, c36, he, h0, h1⟩ => ⟨A33, c34, A35, c36, he, h0.new_ hn, h1.new_ hn⟩) (.eq (.eq (.eq (.eq (.eq (.eq (.nil))))))))) ?_ ?_
  refine .o1 (tkC rfl (noG rfl) rfl fun _ w hn k => (by
        refine ⟨#[.string ⟨#[49]⟩], _, args1 rfl, fun w => by kernel_rfl, lstr_c ⟨#[49]⟩ _ (by first | omega | (show (_ : Nat) ≤ _; decide)), ?_⟩
        rintro e w' ⟨A25, c26, rfl, hmo0, hm⟩
        exact ⟨_, rfl, hm, ⟨A25, c26, rfl, hmo0⟩⟩)) ?_
  refine .o1 (tkC rfl (noG rfl) rfl fun _ w hn k => (by
        refine ⟨#[.bool true], _, args1 rfl, fun w => by kernel_rfl, truth_c true _ , ?_⟩
        rintro e w' ⟨A29, c30, A31, c32, rfl, hmo0, hmo1, hm⟩
        exact ⟨_, rfl, hm, ⟨A29, c30, A31, c32, rfl, hmo0, hmo1⟩⟩)) ?_
  refine .o1 (tkC rfl (noG rfl) rfl fun _ w hn k => (by
        obtain ⟨A37, c38, e39, hx40⟩ : (fun (v_ : Value) (W : World) => ∃ (A27 : Option Addr) (c28 : Nat), v_ = vv (Vl.mk 5 0 0 false [] (asc ⟨#[49]⟩) 0) none 0 A27 c28 ∧ SRow W .u16 A27 (asc ⟨#[49]⟩) c28) _ _ := k.dep 0 31 (by kernel_rfl) (by kernel_rfl)
        obtain ⟨A41, c42, A43, c44, e45, hx46, hx47⟩ : (fun (v_ : Value) (W : World) => ∃ (A33 : Option Addr) (c34 : Nat) (A35 : Option Addr) (c36 : Nat), v_ = vv (truthV true) A33 c34 A35 c36 ∧ SRow W .u32 A33 ((truthV true).mag) c34 ∧ SRow W .u16 A35 ((truthV true).s) c36) _ _ := k.dep 1 32 (by kernel_rfl) (by kernel_rfl)
        refine ⟨#[vv (Vl.mk 5 0 0 false [] (asc ⟨#[49]⟩) 0) none 0 A37 c38, vv (truthV true) A41 c42 A43 c44], _, args2 e39 e45, fun w => by kernel_rfl, first_l1 _ _ _ _ _ _ _ _ _ (SRow.nil _ _) hx40 hx46 hx47, ?_⟩
        rintro e w' ⟨rfl, hm⟩
        exact ⟨_, rfl, hm, rfl⟩)) ?_
  refine .o1 (tk rfl rfl fun _ w hn k => ⟨_, v_move rfl (k.eq1 2 33 rfl), rfl⟩) ?_
  refine .o1 (tk rfl rfl fun _ w hn k => ⟨_, v_extract rfl (k.eq1 3 30 rfl) rfl, rfl⟩) ?_
  refine .o1 (tk rfl rfl fun _ w hn k => ⟨_, v_extract rfl (k.eq1 3 30 rfl) rfl, rfl⟩) ?_
  refine .o1 (tk rfl rfl fun _ w hn k => ⟨_, v_assign rfl (k.eq1 4 34 rfl), rfl⟩) ?_
  refine .o1 (tk rfl rfl fun _ w hn k => ⟨_, v_assign rfl (k.eq1 5 35 rfl), rfl⟩) ?_
  exact .nil
  intro a119 w120 hn121 ha122
  obtain ⟨hs123, hd124, hN132⟩ := aft ha122 hs109 hd110 hN106 hn121
  have h125 := ha122.fx 1 h111
  have h126 := ha122.fx 2 h112
  have h127 := ha122.fx 4 h113
  have h128 := ha122.fx 6 h117
  have h129 := ha122.ge 6 7 rfl
  have h130 := ha122.ge 7 8 rfl
  have hb131 := hb105.new_ hn121
  refine st_nil (hK118 _ _ ?_)
  refine wp_seq_k fun K133 hK133 => ?_
  refine wp_g0 [true, true, true, true, true, true, true, true] [] 94
    [(fun (v_ : Value) (W : World) => ∃ (A50 : Option Addr) (c51 : Nat), v_ = vv (Vl.mk 4 0 0 false [2] [] 0) A50 c51 none 0 ∧ SRow W .u32 A50 ([2]) c51),
     ve (vv (Vl.mk 3 0 2 false [] [] 0) none 0 none 0),
     ve (.tuple #[.bool true, iv 0]),
     ve (.tuple #[.bool true, iv 0]),
     ve (.bool true),
     ve (iv 0),
     ve (.bool true),
     ve (iv 0)] hs123 (.cons (fun v W W' hn ⟨A50, c51, he, h0⟩ => ⟨A50, c51, he, h0.new_ hn⟩) (.eq (.eq (.eq (.eq (.eq (.eq (.eq (.nil))))))))) ?_ ?_
  refine .o1 (tkC rfl (noG rfl) rfl fun _ w hn k => (by
        refine ⟨#[.int .u32 2], _, args1 rfl, fun w => by kernel_rfl, lbig_c 2 _ (by omega), ?_⟩
        rintro e w' ⟨A48, c49, rfl, hmo0, hm⟩
        exact ⟨_, rfl, hm, ⟨A48, c49, rfl, hmo0⟩⟩)) ?_
  refine .o1 (ck rfl rfl rfl (fun _ w hn k => ⟨#[iv 2], args1 rfl, fun _ => by kernel_rfl, lwhole_c 2 _ ⟩) fun _ => rfl) ?_
  refine .o1 (tkC rfl (noG rfl) rfl fun _ w hn k => (by
        obtain ⟨A52, c53, e54, hx55⟩ : (fun (v_ : Value) (W : World) => ∃ (A50 : Option Addr) (c51 : Nat), v_ = vv (Vl.mk 4 0 0 false [2] [] 0) A50 c51 none 0 ∧ SRow W .u32 A50 ([2]) c51) _ _ := k.dep 0 37 (by kernel_rfl) (by kernel_rfl)
        refine ⟨#[vv (Vl.mk 4 0 0 false [2] [] 0) A52 c53 none 0, vv (Vl.mk 3 0 2 false [] [] 0) none 0 none 0], _, args2 e54 (k.eq1 1 38 rfl), fun w => by kernel_rfl, first_l2 _ _ _ _ _ _ _ _ _ hx55 (SRow.nil _ _) (SRow.nil _ _) (SRow.nil _ _), ?_⟩
        rintro e w' ⟨rfl, hm⟩
        exact ⟨_, rfl, hm, rfl⟩)) ?_
  refine .o1 (tk rfl rfl fun _ w hn k => ⟨_, v_move rfl (k.eq1 2 39 rfl), rfl⟩) ?_
  refine .o1 (tk rfl rfl fun _ w hn k => ⟨_, v_extract rfl (k.eq1 3 36 rfl) rfl, rfl⟩) ?_
  refine .o1 (tk rfl rfl fun _ w hn k => ⟨_, v_extract rfl (k.eq1 3 36 rfl) rfl, rfl⟩) ?_
  refine .o1 (tk rfl rfl fun _ w hn k => ⟨_, v_assign rfl (k.eq1 4 40 rfl), rfl⟩) ?_
  refine .o1 (tk rfl rfl fun _ w hn k => ⟨_, v_assign rfl (k.eq1 5 41 rfl), rfl⟩) ?_
  exact .nil
  intro a134 w135 hn136 ha137
  obtain ⟨hs138, hd139, hN149⟩ := aft ha137 hs123 hd124 hN132 hn136
  have h140 := ha137.fx 1 h125
  have h141 := ha137.fx 2 h126
  have h142 := ha137.fx 4 h127
  have h143 := ha137.fx 6 h128
  have h144 := ha137.fx 7 h129
  have h145 := ha137.fx 8 h130
  have h146 := ha137.ge 6 9 rfl
  have h147 := ha137.ge 7 10 rfl
  have hb148 := hb131.new_ hn136
  refine st_nil (hK133 _ _ ?_)
  refine wp_seq_k fun K150 hK150 => ?_
  refine wp_g0 [true, true, true, true, true, true, true, true] [] 94
    [ve (vv (Vl.mk 1 0 0 false [] [] 0) none 0 none 0),
     ve (vv (Vl.mk 3 0 0 false [] [] 0) none 0 none 0),
     ve (.tuple #[.bool false, iv 0]),
     ve (.tuple #[.bool false, iv 0]),
     ve (.bool false),
     ve (iv 0),
     ve (.bool false),
     ve (iv 0)] hs138 (.eq (.eq (.eq (.eq (.eq (.eq (.eq (.eq (.nil))))))))) ?_ ?_
  refine .o1 (tk rfl rfl fun _ w hn k => ⟨_, v_build (ps := [(0, iv 1)]) rfl (parts1 rfl) (by kernel_rfl), rfl⟩) ?_
  refine .o1 (ck rfl rfl rfl (fun _ w hn k => ⟨#[iv 0], args1 rfl, fun _ => by kernel_rfl, lwhole_c 0 _ ⟩) fun _ => rfl) ?_
  refine .o1 (ck rfl rfl rfl (fun _ w hn k => ⟨#[vv (Vl.mk 1 0 0 false [] [] 0) none 0 none 0, vv (Vl.mk 3 0 0 false [] [] 0) none 0 none 0], args2 (k.eq1 0 43 rfl) (k.eq1 1 44 rfl), fun _ => by kernel_rfl, first_l3 _ _ _ _ _ _ _ _ _ (SRow.nil _ _) (SRow.nil _ _) (SRow.nil _ _) (SRow.nil _ _)⟩) fun _ => rfl) ?_
  refine .o1 (tk rfl rfl fun _ w hn k => ⟨_, v_move rfl (k.eq1 2 45 rfl), rfl⟩) ?_
  refine .o1 (tk rfl rfl fun _ w hn k => ⟨_, v_extract rfl (k.eq1 3 42 rfl) rfl, rfl⟩) ?_
  refine .o1 (tk rfl rfl fun _ w hn k => ⟨_, v_extract rfl (k.eq1 3 42 rfl) rfl, rfl⟩) ?_
  refine .o1 (tk rfl rfl fun _ w hn k => ⟨_, v_assign rfl (k.eq1 4 46 rfl), rfl⟩) ?_
  refine .o1 (tk rfl rfl fun _ w hn k => ⟨_, v_assign rfl (k.eq1 5 47 rfl), rfl⟩) ?_
  exact .nil
  intro a151 w152 hn153 ha154
  obtain ⟨hs155, hd156, hN168⟩ := aft ha154 hs138 hd139 hN149 hn153
  have h157 := ha154.fx 1 h140
  have h158 := ha154.fx 2 h141
  have h159 := ha154.fx 4 h142
  have h160 := ha154.fx 6 h143
  have h161 := ha154.fx 7 h144
  have h162 := ha154.fx 8 h145
  have h163 := ha154.fx 9 h146
  have h164 := ha154.fx 10 h147
  have h165 := ha154.ge 6 11 rfl
  have h166 := ha154.ge 7 12 rfl
  have hb167 := hb148.new_ hn153
  refine st_nil (hK150 _ _ ?_)
  refine wp_seq_k fun K169 hK169 => ?_
  refine wp_g0 [true, true, true, true, true, true, true] [] 94
    [ve (vv (Vl.mk 3 0 (-1) false [] [] 0) none 0 none 0),
     ve (.tuple #[iv 0, iv 2]),
     ve (.tuple #[iv 0, iv 2]),
     ve (iv 0),
     ve (iv 2),
     ve (iv 0),
     ve (iv 2)] hs155 (.eq (.eq (.eq (.eq (.eq (.eq (.eq (.nil)))))))) ?_ ?_
  refine .o1 (ck rfl rfl rfl (fun _ w hn k => ⟨#[iv (-1)], args1 rfl, fun _ => by kernel_rfl, lwhole_c (-1) _ ⟩) fun _ => rfl) ?_
  refine .o1 (ck rfl rfl rfl (fun _ w hn k => ⟨#[vv (Vl.mk 3 0 (-1) false [] [] 0) none 0 none 0], args1 (k.eq1 0 49 rfl), fun _ => by kernel_rfl, first_i1 _ _ _ _ _ (SRow.nil _ _) (SRow.nil _ _)⟩) fun _ => rfl) ?_
  refine .o1 (tk rfl rfl fun _ w hn k => ⟨_, v_move rfl (k.eq1 1 50 rfl), rfl⟩) ?_
  refine .o1 (tk rfl rfl fun _ w hn k => ⟨_, v_extract rfl (k.eq1 2 48 rfl) rfl, rfl⟩) ?_
  refine .o1 (tk rfl rfl fun _ w hn k => ⟨_, v_extract rfl (k.eq1 2 48 rfl) rfl, rfl⟩) ?_
  refine .o1 (tk rfl rfl fun _ w hn k => ⟨_, v_assign rfl (k.eq1 3 51 rfl), rfl⟩) ?_
  refine .o1 (tk rfl rfl fun _ w hn k => ⟨_, v_assign rfl (k.eq1 4 52 rfl), rfl⟩) ?_
  exact .nil
  intro a170 w171 hn172 ha173
  obtain ⟨hs174, hd175, hN188⟩ := aft ha173 hs155 hd156 hN168 hn172
  have h176 := ha173.fx 1 h157
  have h177 := ha173.fx 2 h158
  have h178 := ha173.fx 4 h159
  have h179 := ha173.fx 6 h160
  have h180 := ha173.fx 7 h161
  have h181 := ha173.fx 8 h162
  have h182 := ha173.fx 9 h163
  have h183 := ha173.fx 10 h164
  have h184 := ha173.fx 11 h165
  have h185 := ha173.fx 12 h166
  have h186 := ha173.ge 6 14 rfl
  have hb187 := hb167.new_ hn172
  refine st_nil (hK169 _ _ ?_)
  refine wp_seq_k fun K189 hK189 => ?_
  refine wp_g0 [true, true, true, true, true, true, true, true, true, true, true, true, true, true, true, true, true, true, true, true, true, true, true, true, true, true, true, true, true, true, true, true, true, true, true, true, true, true, true, true, true, true] [] 94
    [ve (iv 0),
     ve (.bool true),
     ve (.bool true),
     ve (.pointer (some ⟨q19, 1, none⟩)),
     ve (iv 12),
     ve (.bool true),
     ve (.bool true),
     ve (.bool true),
     ve (iv 3),
     ve (.bool true),
     ve (.bool true),
     ve (.bool true),
     ve (iv 1),
     ve (.bool true),
     ve (.bool true),
     ve (.bool true),
     ve (iv 0),
     ve (.bool true),
     ve (.bool true),
     ve (.bool true),
     ve (.bool true),
     ve (.bool true),
     ve (.bool true),
     ve (iv 0),
     ve (.bool true),
     ve (.bool true),
     ve (.bool true),
     ve (.bool true),
     ve (.bool true),
     ve (.bool true),
     ve (iv 0),
     ve (.bool true),
     ve (.bool true),
     ve (.bool true),
     ve (.bool false),
     ve (.bool true),
     ve (.bool true),
     ve (.bool true),
     ve (iv 2),
     ve (.bool true),
     ve (.bool true),
     ve (.bool true)] hs174 (.eq (.eq (.eq (.eq (.eq (.eq (.eq (.eq (.eq (.eq (.eq (.eq (.eq (.eq (.eq (.eq (.eq (.eq (.eq (.eq (.eq (.eq (.eq (.eq (.eq (.eq (.eq (.eq (.eq (.eq (.eq (.eq (.eq (.eq (.eq (.eq (.eq (.eq (.eq (.eq (.eq (.eq (.nil))))))))))))))))))))))))))))))))))))))))))) ?_ ?_
  refine .o1 (tk rfl rfl fun _ w hn k => ⟨_, v_move rfl (k.fx 2 h177), rfl⟩) ?_
  refine .o1 (tk rfl rfl fun _ w hn k => ⟨_, v_bin rfl (k.eq1 0 53 rfl) rfl (fun _ => rfl) (fun w => by kernel_rfl), rfl⟩) ?_
  refine .o1 (tk rfl rfl fun _ w hn k => ⟨_, v_move rfl (k.eq1 1 54 rfl), rfl⟩) ?_
  refine .o1 (tg rfl rfl rfl (fun _ _ k => k.eq1 2 55 rfl) fun _ w hn k => ⟨_, v_field rfl (k.fx 1 h176) (fun w => rfl), rfl⟩) ?_
  refine .o1 (tg rfl rfl rfl (fun _ _ k => k.eq1 2 55 rfl) fun _ w hn k => ⟨_, v_load rfl (k.eq1 3 56 rfl) (l_one Try.isAgg3 ((hb187.new_ hn).cell 1)), rfl⟩) ?_
  refine .o1 (tg rfl rfl rfl (fun _ _ k => k.eq1 2 55 rfl) fun _ w hn k => ⟨_, v_bin rfl (k.eq1 4 57 rfl) rfl (fun _ => rfl) (fun w => by kernel_rfl), rfl⟩) ?_
  refine .o1 (tk rfl rfl fun _ w hn k => ⟨_, v_pickT rfl (k.eq1 2 55 rfl) (k.eq1 5 58 rfl), rfl⟩) ?_
  refine .o1 (tk rfl rfl fun _ w hn k => ⟨_, v_move rfl (k.eq1 6 59 rfl), rfl⟩) ?_
  refine .o1 (tg rfl rfl rfl (fun _ _ k => k.eq1 7 60 rfl) fun _ w hn k => ⟨_, v_move rfl (k.fx 4 h178), rfl⟩) ?_
  refine .o1 (tg rfl rfl rfl (fun _ _ k => k.eq1 7 60 rfl) fun _ w hn k => ⟨_, v_bin rfl (k.eq1 8 61 rfl) rfl (fun _ => rfl) (fun w => by kernel_rfl), rfl⟩) ?_
  refine .o1 (tk rfl rfl fun _ w hn k => ⟨_, v_pickT rfl (k.eq1 7 60 rfl) (k.eq1 9 62 rfl), rfl⟩) ?_
  refine .o1 (tk rfl rfl fun _ w hn k => ⟨_, v_move rfl (k.eq1 10 63 rfl), rfl⟩) ?_
  refine .o1 (tg rfl rfl rfl (fun _ _ k => k.eq1 11 64 rfl) fun _ w hn k => ⟨_, v_move rfl (k.fx 6 h179), rfl⟩) ?_
  refine .o1 (tg rfl rfl rfl (fun _ _ k => k.eq1 11 64 rfl) fun _ w hn k => ⟨_, v_bin rfl (k.eq1 12 65 rfl) rfl (fun _ => rfl) (fun w => by kernel_rfl), rfl⟩) ?_
  refine .o1 (tk rfl rfl fun _ w hn k => ⟨_, v_pickT rfl (k.eq1 11 64 rfl) (k.eq1 13 66 rfl), rfl⟩) ?_
  refine .o1 (tk rfl rfl fun _ w hn k => ⟨_, v_move rfl (k.eq1 14 67 rfl), rfl⟩) ?_
  refine .o1 (tg rfl rfl rfl (fun _ _ k => k.eq1 15 68 rfl) fun _ w hn k => ⟨_, v_move rfl (k.fx 8 h181), rfl⟩) ?_
  refine .o1 (tg rfl rfl rfl (fun _ _ k => k.eq1 15 68 rfl) fun _ w hn k => ⟨_, v_bin rfl (k.eq1 16 69 rfl) rfl (fun _ => rfl) (fun w => by kernel_rfl), rfl⟩) ?_
  refine .o1 (tk rfl rfl fun _ w hn k => ⟨_, v_pickT rfl (k.eq1 15 68 rfl) (k.eq1 17 70 rfl), rfl⟩) ?_
  refine .o1 (tk rfl rfl fun _ w hn k => ⟨_, v_move rfl (k.eq1 18 71 rfl), rfl⟩) ?_
  refine .o1 (tg rfl rfl rfl (fun _ _ k => k.eq1 19 72 rfl) fun _ w hn k => ⟨_, v_move rfl (k.fx 7 h180), rfl⟩) ?_
  refine .o1 (tk rfl rfl fun _ w hn k => ⟨_, v_pickT rfl (k.eq1 19 72 rfl) (k.eq1 20 73 rfl), rfl⟩) ?_
  refine .o1 (tk rfl rfl fun _ w hn k => ⟨_, v_move rfl (k.eq1 21 74 rfl), rfl⟩) ?_
  refine .o1 (tg rfl rfl rfl (fun _ _ k => k.eq1 22 75 rfl) fun _ w hn k => ⟨_, v_move rfl (k.fx 10 h183), rfl⟩) ?_
  refine .o1 (tg rfl rfl rfl (fun _ _ k => k.eq1 22 75 rfl) fun _ w hn k => ⟨_, v_bin rfl (k.eq1 23 76 rfl) rfl (fun _ => rfl) (fun w => by kernel_rfl), rfl⟩) ?_
  refine .o1 (tk rfl rfl fun _ w hn k => ⟨_, v_pickT rfl (k.eq1 22 75 rfl) (k.eq1 24 77 rfl), rfl⟩) ?_
  refine .o1 (tk rfl rfl fun _ w hn k => ⟨_, v_move rfl (k.eq1 25 78 rfl), rfl⟩) ?_
  refine .o1 (tg rfl rfl rfl (fun _ _ k => k.eq1 26 79 rfl) fun _ w hn k => ⟨_, v_move rfl (k.fx 9 h182), rfl⟩) ?_
  refine .o1 (tk rfl rfl fun _ w hn k => ⟨_, v_pickT rfl (k.eq1 26 79 rfl) (k.eq1 27 80 rfl), rfl⟩) ?_
  refine .o1 (tk rfl rfl fun _ w hn k => ⟨_, v_move rfl (k.eq1 28 81 rfl), rfl⟩) ?_
  refine .o1 (tg rfl rfl rfl (fun _ _ k => k.eq1 29 82 rfl) fun _ w hn k => ⟨_, v_move rfl (k.fx 12 h185), rfl⟩) ?_
  refine .o1 (tg rfl rfl rfl (fun _ _ k => k.eq1 29 82 rfl) fun _ w hn k => ⟨_, v_bin rfl (k.eq1 30 83 rfl) rfl (fun _ => rfl) (fun w => by kernel_rfl), rfl⟩) ?_
  refine .o1 (tk rfl rfl fun _ w hn k => ⟨_, v_pickT rfl (k.eq1 29 82 rfl) (k.eq1 31 84 rfl), rfl⟩) ?_
  refine .o1 (tk rfl rfl fun _ w hn k => ⟨_, v_move rfl (k.eq1 32 85 rfl), rfl⟩) ?_
  refine .o1 (tg rfl rfl rfl (fun _ _ k => k.eq1 33 86 rfl) fun _ w hn k => ⟨_, v_move rfl (k.fx 11 h184), rfl⟩) ?_
  refine .o1 (tg rfl rfl rfl (fun _ _ k => k.eq1 33 86 rfl) fun _ w hn k => ⟨_, v_not rfl (k.eq1 34 87 rfl), rfl⟩) ?_
  refine .o1 (tk rfl rfl fun _ w hn k => ⟨_, v_pickT rfl (k.eq1 33 86 rfl) (k.eq1 35 88 rfl), rfl⟩) ?_
  refine .o1 (tk rfl rfl fun _ w hn k => ⟨_, v_move rfl (k.eq1 36 89 rfl), rfl⟩) ?_
  refine .o1 (tg rfl rfl rfl (fun _ _ k => k.eq1 37 90 rfl) fun _ w hn k => ⟨_, v_move rfl (k.fx 14 h186), rfl⟩) ?_
  refine .o1 (tg rfl rfl rfl (fun _ _ k => k.eq1 37 90 rfl) fun _ w hn k => ⟨_, v_bin rfl (k.eq1 38 91 rfl) rfl (fun _ => rfl) (fun w => by kernel_rfl), rfl⟩) ?_
  refine .o1 (tk rfl rfl fun _ w hn k => ⟨_, v_pickT rfl (k.eq1 37 90 rfl) (k.eq1 39 92 rfl), rfl⟩) ?_
  refine .o1 (tk rfl rfl fun _ w hn k => ⟨_, v_assign rfl (k.eq1 40 93 rfl), rfl⟩) ?_
  exact .nil
  intro a190 w191 hn192 ha193
  obtain ⟨hs194, hd195, hN197⟩ := aft ha193 hs174 hd175 hN188 hn192
  have h196 := ha193.ge 41 0 rfl
  refine st_nil (hK189 _ _ ?_)
  refine wp_ret (ret_k hd195 (v := .bool true) (res_t rfl h196 _) ?_)
  exact ⟨rfl, hN197⟩
set_option maxHeartbeats 16000000 in
set_option maxRecDepth 100000 in
theorem makes_w (t : Bool) (a : Nm) (Au : Option Addr) (u : List Nat) (cu : Nat) (w : World) (hru : SRow w .u16 Au u cu) (hu : U16s u) : Calls Try.prog 5 #[.bool t, nv a, sv Au u cu] w (IsRet (.bool true) w) := by
  refine enter_abs Try.func5 rfl fun a0 hs0 hd0 hp => ?_
  have hs0 : a0.tmps.size = 49 := hs0
  have hN0 : New w w := Upd.refl _ _
  have hp0 : a0.eval (.tmp 0) = .bool t := hp 0 _ rfl
  have hp1 : a0.eval (.tmp 1) = nv a := hp 1 _ rfl
  have hp2 : a0.eval (.tmp 2) = sv Au u cu := hp 2 _ rfl
  have hmx := hru.max
  refine wp_seq_k fun K1 hK1 => ?_
  refine wp_g [true, true] [] [] 49
    [IsNew w 23 [iv a.k, iv a.n],
     ve (.bool false)]
    [0] (newsCons (fun v w h => IsNew.old h) newsNil) hs0 (.nw (.eq (.nil))) ?_ (fun i h => by cases h) ?_
  refine .o2 (step_allocN (cs := [iv a.k, iv a.n]) (t := 23) rfl (noG rfl) (fun _ w hn k => v_box rfl (k.fx 1 hp1) (fun w => rfl)) (fun q _ hq hb => ⟨q, rfl, hq, hb⟩)) ?_
  refine .o1 (tk rfl rfl fun _ w hn k => ⟨_, v_assign rfl rfl, rfl⟩) ?_
  exact .nil
  intro a2 w3 hn4 ha5
  obtain ⟨hs6, hd7, hN15⟩ := aft ha5 hs0 hd0 hN0 hn4
  have h8 := ha5.fx 0 hp0
  have h9 := ha5.fx 2 hp2
  obtain ⟨q11, h10, hq12, hb13⟩ : IsNew _ _ _ _ _ := ha5.got 0 4 rfl (by kernel_rfl)
  have hq14 := Nat.le_trans hN0.size hq12
  refine st_nil (hK1 _ _ ?_)
  refine wp_seq_k fun K16 hK16 => ?_
  refine wp_seq_k fun K17 hK17 => ?_
  refine wp_g0 [true, true] [] 49
    [ve (.bool true),
     ve (.bool false)] hs6 (.eq (.eq (.nil))) ?_ ?_
  refine .o1 (ck rfl rfl rfl (fun _ w hn k => ⟨#[], rfl, fun _ => by kernel_rfl, first_c _⟩) fun _ => rfl) ?_
  refine .o1 (tk rfl rfl fun _ w hn k => ⟨_, v_not rfl (k.eq1 0 9 rfl), rfl⟩) ?_
  exact .nil
  intro a18 w19 hn20 ha21
  obtain ⟨hs22, hd23, hN29⟩ := aft ha21 hs6 hd7 hN15 hn20
  have h24 := ha21.fx 0 h8
  have h25 := ha21.fx 2 h9
  have h26 := ha21.fx 4 h10
  have h27 := ha21.ge 1 10 rfl
  have hb28 := hb13.new_ hn20
  refine st_nil (hK17 _ _ ?_)
  refine wp_cond_false h27 ?_
  refine wp_skip ?_
  refine hK16 _ _ ?_
  refine wp_seq_k fun K30 hK30 => ?_
  refine wp_seq_k fun K31 hK31 => ?_
  rcases Bool.eq_false_or_eq_true (decide ((u.length : Int) ≤ 20000)) with ht32 | ht32
  have ht32d := of_decide_eq_true ht32
  refine wp_g0 [true, true, true] [] 49
    [ve (sv Au u cu),
     ve (iv (u.length : Int)),
     ve (.bool false)] hs22 (.eq (.eq (.eq (.nil)))) ?_ ?_
  refine .o1 (tk rfl rfl fun _ w hn k => ⟨_, v_move rfl (k.fx 2 h25), rfl⟩) ?_
  refine .o1 (tk rfl rfl fun _ w hn k => ⟨_, v_lenR rfl elU (k.eq1 0 11 rfl), rfl⟩) ?_
  refine .o1 (tk rfl rfl fun _ w hn k => ⟨_, v_bin rfl (k.eq1 1 12 rfl) rfl (fun _ => rfl) (r_gtrK ht32), rfl⟩) ?_
  exact .nil
  intro a33 w34 hn35 ha36
  obtain ⟨hs37, hd38, hN44⟩ := aft ha36 hs22 hd23 hN29 hn35
  have h39 := ha36.fx 0 h24
  have h40 := ha36.fx 2 h25
  have h41 := ha36.fx 4 h26
  have h42 := ha36.ge 2 13 rfl
  have hb43 := hb28.new_ hn35
  refine st_nil (hK31 _ _ ?_)
  refine wp_cond_false h42 ?_
  refine wp_skip ?_
  refine hK30 _ _ ?_
  refine wp_seq_k fun K45 hK45 => ?_
  refine wp_g [true, true, true, false] [] [(3, false)] 49
    [ve (.bool t),
     (fun (v_ : Value) (W : World) => ∃ (A5 : Option Addr) (c6 : Nat) (A7 : Option Addr) (c8 : Nat), v_ = vv (truthV t) A5 c6 A7 c8 ∧ SRow W .u32 A5 ((truthV t).mag) c6 ∧ SRow W .u16 A7 ((truthV t).s) c8),
     IsNew w34 29 [iv 0, iv 0, iv 0, .bool false, sv none ([]) 0, sv none ([]) 0, iv 0],
     vt]
    [2] (newsCons (fun v w h => IsNew.old h) newsNil) hs37 (.eq (.cons (fun v W W' hn ⟨A5, c6, A7, c8, he, h0, h1⟩ => ⟨A5, c6, A7, c8, he, h0.new_ hn, h1.new_ hn⟩) (.nw (.tt (.nil))))) ?_ (fun i h => by cases h) ?_
  refine .o1 (tk rfl rfl fun _ w hn k => ⟨_, v_move rfl (k.fx 0 h39), rfl⟩) ?_
  refine .o1 (tkC rfl (noG rfl) rfl fun _ w hn k => (by
        refine ⟨#[.bool t], _, args1 (k.eq1 0 15 rfl), fun w => by kernel_rfl, truth_c t _ , ?_⟩
        rintro e w' ⟨A1, c2, A3, c4, rfl, hmo0, hmo1, hm⟩
        exact ⟨_, rfl, hm, ⟨A1, c2, A3, c4, rfl, hmo0, hmo1⟩⟩)) ?_
  refine .o2 (step_allocN (cs := [iv 0, iv 0, iv 0, .bool false, sv none ([]) 0, sv none ([]) 0, iv 0]) (t := 29) rfl (noG rfl) (fun _ w hn k => rfl) (fun q _ hq hb => ⟨q, rfl, hq, hb⟩)) ?_
  refine .off ?_
  exact .nil
  intro a46 w47 hn48 ha49
  obtain ⟨hs50, hd51, hN69⟩ := aft ha49 hs37 hd38 hN44 hn48
  have h52 := ha49.fx 0 h39
  have h53 := ha49.fx 2 h40
  have h54 := ha49.fx 4 h41
  obtain ⟨A56, cc57, A59, cc60, h55, hr58, hr61⟩ : (fun (v_ : Value) (W : World) => ∃ (A5 : Option Addr) (c6 : Nat) (A7 : Option Addr) (c8 : Nat), v_ = vv (truthV t) A5 c6 A7 c8 ∧ SRow W .u32 A5 ((truthV t).mag) c6 ∧ SRow W .u16 A7 ((truthV t).s) c8) _ _ := ha49.got 1 16 rfl (by kernel_rfl)
  have h55 : a46.eval (.tmp 16) = vv (truthV t) A56 cc57 A59 cc60 := h55
  obtain ⟨q63, h62, hq64, hb65⟩ : IsNew _ _ _ _ _ := ha49.got 2 7 rfl (by kernel_rfl)
  have hb66 := hb43.new_ hn48
  have hne67 : q11 ≠ q63 := by have h1 := hb43.lt; have h2 := hq64; omega
  have hq68 := Nat.le_trans hN44.size hq64
  obtain ⟨w70, hst71, hb720, hu73, hf74⟩ := s_many (P := Try.prog) (t := 29) (i := 0) [iv ((truthV t).k), iv ((truthV t).nk), iv ((truthV t).nn), .bool ((truthV t).neg), sv A56 ((truthV t).mag) cc57, sv A59 ((truthV t).s) cc60, iv ((truthV t).ref)] Try.sizeOf29 rfl rfl rfl hb65 (Nat.le_of_ble_eq_true rfl)
  have hb72 : Blk w70 q63 29 [iv ((truthV t).k), iv ((truthV t).nk), iv ((truthV t).nn), .bool ((truthV t).neg), sv A56 ((truthV t).mag) cc57, sv A59 ((truthV t).s) cc60, iv ((truthV t).ref)] := hb720
  refine st_act rfl rfl fun K75 hL76 => a_store' rfl h62 h55 hst71 (hL76 _ _ trivial ?_)
  have hr77 := hr58.far hb65 hu73 (by first | rfl | decide | simp [notK])
  have hr78 := hr61.far hb65 hu73 (by first | rfl | decide | simp [notK])
  have hb79 := hf74 _ _ _ (hne67) hb66
  have hN80 := hN69.trans hu73 (fun k hk hkb => by subst hkb; omega)
  refine st_nil (hK45 _ _ ?_)
  refine wp_seq_k fun K81 hK81 => ?_
  refine wp_g [true, true, true, false] [] [(3, false)] 49
    [ve (sv Au u cu),
     (fun (v_ : Value) (W : World) => ∃ (A20 : Option Addr) (c21 : Nat) (A22 : Option Addr) (c23 : Nat), v_ = vv (strV u) A20 c21 A22 c23 ∧ SRow W .u32 A20 ((strV u).mag) c21 ∧ SRow W .u16 A22 ((strV u).s) c23),
     IsNew w70 29 [iv 0, iv 0, iv 0, .bool false, sv none ([]) 0, sv none ([]) 0, iv 0],
     vt]
    [2] (newsCons (fun v w h => IsNew.old h) newsNil) hs50 (.eq (.cons (fun v W W' hn ⟨A20, c21, A22, c23, he, h0, h1⟩ => ⟨A20, c21, A22, c23, he, h0.new_ hn, h1.new_ hn⟩) (.nw (.tt (.nil))))) ?_ (fun i h => by cases h) ?_
  refine .o1 (tk rfl rfl fun _ w hn k => ⟨_, v_move rfl (k.fx 2 h53), rfl⟩) ?_
  refine .o1 (tkC rfl (noG rfl) rfl fun _ w hn k => (by
        refine ⟨#[sv Au u cu], _, args1 (k.eq1 0 17 rfl), fun w => by kernel_rfl, cstr_c _ u _ _ (hru.new_ (hN80.transNew hn)) (by first | omega | (simp only [List.length_nil, List.length_take, List.length_drop]; omega) | (simp only [List.length_cons, List.length_nil]; omega)), ?_⟩
        rintro e w' ⟨A16, c17, A18, c19, rfl, hmo0, hmo1, hm⟩
        exact ⟨_, rfl, hm, ⟨A16, c17, A18, c19, rfl, hmo0, hmo1⟩⟩)) ?_
  refine .o2 (step_allocN (cs := [iv 0, iv 0, iv 0, .bool false, sv none ([]) 0, sv none ([]) 0, iv 0]) (t := 29) rfl (noG rfl) (fun _ w hn k => rfl) (fun q _ hq hb => ⟨q, rfl, hq, hb⟩)) ?_
  refine .off ?_
  exact .nil
  intro a82 w83 hn84 ha85
  obtain ⟨hs86, hd87, hN110⟩ := aft ha85 hs50 hd51 hN80 hn84
  have h88 := ha85.fx 0 h52
  have h89 := ha85.fx 2 h53
  have h90 := ha85.fx 4 h54
  have h91 := ha85.fx 7 h62
  obtain ⟨A93, cc94, A96, cc97, h92, hr95, hr98⟩ : (fun (v_ : Value) (W : World) => ∃ (A20 : Option Addr) (c21 : Nat) (A22 : Option Addr) (c23 : Nat), v_ = vv (strV u) A20 c21 A22 c23 ∧ SRow W .u32 A20 ((strV u).mag) c21 ∧ SRow W .u16 A22 ((strV u).s) c23) _ _ := ha85.got 1 18 rfl (by kernel_rfl)
  have h92 : a82.eval (.tmp 18) = vv (strV u) A93 cc94 A96 cc97 := h92
  obtain ⟨q100, h99, hq101, hb102⟩ : IsNew _ _ _ _ _ := ha85.got 2 8 rfl (by kernel_rfl)
  have hb103 := hb79.new_ hn84
  have hb104 := hb72.new_ hn84
  have hne105 : q11 ≠ q100 := by have h1 := hb79.lt; have h2 := hq101; omega
  have hne106 : q63 ≠ q100 := by have h1 := hb72.lt; have h2 := hq101; omega
  have hq107 := Nat.le_trans hN80.size hq101
  have hr108 := hr77.new_ hn84
  have hr109 := hr78.new_ hn84
  obtain ⟨w111, hst112, hb1130, hu114, hf115⟩ := s_many (P := Try.prog) (t := 29) (i := 0) [iv ((strV u).k), iv ((strV u).nk), iv ((strV u).nn), .bool ((strV u).neg), sv A93 ((strV u).mag) cc94, sv A96 ((strV u).s) cc97, iv ((strV u).ref)] Try.sizeOf29 rfl rfl rfl hb102 (Nat.le_of_ble_eq_true rfl)
  have hb113 : Blk w111 q100 29 [iv ((strV u).k), iv ((strV u).nk), iv ((strV u).nn), .bool ((strV u).neg), sv A93 ((strV u).mag) cc94, sv A96 ((strV u).s) cc97, iv ((strV u).ref)] := hb1130
  refine st_act rfl rfl fun K116 hL117 => a_store' rfl h99 h92 hst112 (hL117 _ _ trivial ?_)
  have hr118 := hr108.far hb102 hu114 (by first | rfl | decide | simp [notK])
  have hr119 := hr109.far hb102 hu114 (by first | rfl | decide | simp [notK])
  have hr120 := hr95.far hb102 hu114 (by first | rfl | decide | simp [notK])
  have hr121 := hr98.far hb102 hu114 (by first | rfl | decide | simp [notK])
  have hb122 := hf115 _ _ _ (hne105) hb103
  have hb123 := hf115 _ _ _ (hne106) hb104
  have hN124 := hN110.trans hu114 (fun k hk hkb => by subst hkb; omega)
  refine st_nil (hK81 _ _ ?_)
  refine wp_seq_k fun K125 hK125 => ?_
  refine wp_g0 [true, true, true, true, true, true, true, true, true, true, true, true, true, true, true, true, true, true, true, true, true, true, true, true, true, true, true, true, true, true, true] [] 49
    [ve (.bool true),
     ve (.bool true),
     ve (vv (truthV t) A56 cc57 A59 cc60),
     ve (.bool t),
     (fun (v_ : Value) (W : World) => ∃ (A35 : Option Addr) (c36 : Nat) (A37 : Option Addr) (c38 : Nat), v_ = vv (truthV t) A35 c36 A37 c38 ∧ SRow W .u32 A35 ((truthV t).mag) c36 ∧ SRow W .u16 A37 ((truthV t).s) c38),
     ve (.bool true),
     ve (.bool true),
     ve (.bool true),
     ve (nv a),
     ve (vv (Vl.mk 3 a.k a.n false [] [] 0) none 0 none 0),
     ve (nv a),
     ve (vv (Vl.mk 3 a.k a.n false [] [] 0) none 0 none 0),
     ve (.bool true),
     ve (.bool true),
     ve (.bool true),
     ve (vv (strV u) A93 cc94 A96 cc97),
     ve (sv Au u cu),
     (fun (v_ : Value) (W : World) => ∃ (A50 : Option Addr) (c51 : Nat) (A52 : Option Addr) (c53 : Nat), v_ = vv (strV u) A50 c51 A52 c53 ∧ SRow W .u32 A50 ((strV u).mag) c51 ∧ SRow W .u16 A52 ((strV u).s) c53),
     ve (.bool true),
     ve (.bool true),
     ve (.bool true),
     ve (vv (truthV t) A56 cc57 A59 cc60),
     ve (.bool t),
     ve (.bool t),
     ve (.bool true),
     ve (.bool true),
     ve (.bool true),
     ve (vv (strV u) A93 cc94 A96 cc97),
     ve (.bool true),
     ve (.bool true),
     ve (.bool true)] hs86 (.eq (.eq (.eq (.eq (.cons (fun v W W' hn ⟨A35, c36, A37, c38, he, h0, h1⟩ => ⟨A35, c36, A37, c38, he, h0.new_ hn, h1.new_ hn⟩) (.eq (.eq (.eq (.eq (.eq (.eq (.eq (.eq (.eq (.eq (.eq (.eq (.cons (fun v W W' hn ⟨A50, c51, A52, c53, he, h0, h1⟩ => ⟨A50, c51, A52, c53, he, h0.new_ hn, h1.new_ hn⟩) (.eq (.eq (.eq (.eq (.eq (.eq (.eq (.eq (.eq (.eq (.eq (.eq (.eq (.nil)))))))))))))))))))))))))))))))) ?_ ?_
  refine .o1 (ck rfl rfl rfl (fun _ w hn k => ⟨#[], rfl, fun _ => by kernel_rfl, first_c _⟩) fun _ => rfl) ?_
  refine .o1 (tk rfl rfl fun _ w hn k => ⟨_, v_move rfl (k.eq1 0 19 rfl), rfl⟩) ?_
  refine .o1 (tg rfl rfl rfl (fun _ _ k => k.eq1 1 20 rfl) fun _ w hn k => ⟨_, v_load rfl (k.fx 7 h91) (l_agg Try.isAgg29 Try.sizeOf29 (hb123.new_ hn) rfl), rfl⟩) ?_
  refine .o1 (tg rfl rfl rfl (fun _ _ k => k.eq1 1 20 rfl) fun _ w hn k => ⟨_, v_move rfl (k.fx 0 h88), rfl⟩) ?_
  refine .o1 (tkC rfl (onG rfl rfl fun _ _ k => k.eq1 1 20 rfl) rfl fun _ w hn k => (by
        refine ⟨#[.bool t], _, args1 (k.eq1 3 22 rfl), fun w => by kernel_rfl, qtruth_c t _ , ?_⟩
        rintro e w' ⟨A31, c32, A33, c34, rfl, hmo0, hmo1, hm⟩
        exact ⟨_, rfl, hm, ⟨A31, c32, A33, c34, rfl, hmo0, hmo1⟩⟩)) ?_
  refine .o1 (tkC rfl (onG rfl rfl fun _ _ k => k.eq1 1 20 rfl) rfl fun _ w hn k => (by
        obtain ⟨A39, c40, A41, c42, e43, hx44, hx45⟩ : (fun (v_ : Value) (W : World) => ∃ (A35 : Option Addr) (c36 : Nat) (A37 : Option Addr) (c38 : Nat), v_ = vv (truthV t) A35 c36 A37 c38 ∧ SRow W .u32 A35 ((truthV t).mag) c36 ∧ SRow W .u16 A37 ((truthV t).s) c38) _ _ := k.dep 4 23 (by kernel_rfl) (by kernel_rfl)
        refine ⟨#[vv (truthV t) A56 cc57 A59 cc60, vv (truthV t) A39 c40 A41 c42], _, args2 (k.eq1 2 21 rfl) e43, fun w => by kernel_rfl, is_c (truthV t) _ _ _ _ (truthV t) _ _ _ _ _ (hr118.new_ hn) (hr119.new_ hn) hx44 hx45, ?_⟩
        rintro e w' ⟨rfl, hm⟩
        exact ⟨_, rfl, hm, congrArg Value.bool (sameV_self _)⟩)) ?_
  refine .o1 (tk rfl rfl fun _ w hn k => ⟨_, v_pickT rfl (k.eq1 1 20 rfl) (k.eq1 5 24 rfl), rfl⟩) ?_
  refine .o1 (tk rfl rfl fun _ w hn k => ⟨_, v_move rfl (k.eq1 6 25 rfl), rfl⟩) ?_
  refine .o1 (tg rfl rfl rfl (fun _ _ k => k.eq1 7 26 rfl) fun _ w hn k => ⟨_, v_load rfl (k.fx 4 h90) (l_two Try.isAgg23 Try.sizeOf23 (hb122.new_ hn)), rfl⟩) ?_
  refine .o1 (cg rfl rfl rfl (fun _ _ k => k.eq1 7 26 rfl) rfl (fun _ w hn k => ⟨#[nv a], args1 (k.eq1 8 27 rfl), fun _ => by kernel_rfl, cnum_c a _ ⟩) fun _ => rfl) ?_
  refine .o1 (tg rfl rfl rfl (fun _ _ k => k.eq1 7 26 rfl) fun _ w hn k => ⟨_, v_load rfl (k.fx 4 h90) (l_two Try.isAgg23 Try.sizeOf23 (hb122.new_ hn)), rfl⟩) ?_
  refine .o1 (cg rfl rfl rfl (fun _ _ k => k.eq1 7 26 rfl) rfl (fun _ w hn k => ⟨#[nv a], args1 (k.eq1 10 29 rfl), fun _ => by kernel_rfl, qnum_c a _ ⟩) fun _ => rfl) ?_
  refine .o1 (cg rfl rfl rfl (fun _ _ k => k.eq1 7 26 rfl) rfl (fun _ w hn k => ⟨#[vv (Vl.mk 3 a.k a.n false [] [] 0) none 0 none 0, vv (Vl.mk 3 a.k a.n false [] [] 0) none 0 none 0], args2 (k.eq1 9 28 rfl) (k.eq1 11 30 rfl), fun _ => by kernel_rfl, is_c (Vl.mk 3 a.k a.n false [] [] 0) _ _ _ _ (Vl.mk 3 a.k a.n false [] [] 0) _ _ _ _ _ (SRow.nil _ _) (SRow.nil _ _) (SRow.nil _ _) (SRow.nil _ _)⟩) fun _ => congrArg Value.bool (sameV_self _)) ?_
  refine .o1 (tk rfl rfl fun _ w hn k => ⟨_, v_pickT rfl (k.eq1 7 26 rfl) (k.eq1 12 31 rfl), rfl⟩) ?_
  refine .o1 (tk rfl rfl fun _ w hn k => ⟨_, v_move rfl (k.eq1 13 32 rfl), rfl⟩) ?_
  refine .o1 (tg rfl rfl rfl (fun _ _ k => k.eq1 14 33 rfl) fun _ w hn k => ⟨_, v_load rfl (k.fx 8 h99) (l_agg Try.isAgg29 Try.sizeOf29 (hb113.new_ hn) rfl), rfl⟩) ?_
  refine .o1 (tg rfl rfl rfl (fun _ _ k => k.eq1 14 33 rfl) fun _ w hn k => ⟨_, v_move rfl (k.fx 2 h89), rfl⟩) ?_
  refine .o1 (tkC rfl (onG rfl rfl fun _ _ k => k.eq1 14 33 rfl) rfl fun _ w hn k => (by
        refine ⟨#[sv Au u cu], _, args1 (k.eq1 16 35 rfl), fun w => by kernel_rfl, qstr_c _ u _ _ (hru.new_ (hN124.transNew hn)) (by first | omega | (simp only [List.length_nil, List.length_take, List.length_drop]; omega) | (simp only [List.length_cons, List.length_nil]; omega)), ?_⟩
        rintro e w' ⟨A46, c47, A48, c49, rfl, hmo0, hmo1, hm⟩
        exact ⟨_, rfl, hm, ⟨A46, c47, A48, c49, rfl, hmo0, hmo1⟩⟩)) ?_
  refine .o1 (tkC rfl (onG rfl rfl fun _ _ k => k.eq1 14 33 rfl) rfl fun _ w hn k => (by
        obtain ⟨A54, c55, A56, c57, e58, hx59, hx60⟩ : (fun (v_ : Value) (W : World) => ∃ (A50 : Option Addr) (c51 : Nat) (A52 : Option Addr) (c53 : Nat), v_ = vv (strV u) A50 c51 A52 c53 ∧ SRow W .u32 A50 ((strV u).mag) c51 ∧ SRow W .u16 A52 ((strV u).s) c53) _ _ := k.dep 17 36 (by kernel_rfl) (by kernel_rfl)
        refine ⟨#[vv (strV u) A93 cc94 A96 cc97, vv (strV u) A54 c55 A56 c57], _, args2 (k.eq1 15 34 rfl) e58, fun w => by kernel_rfl, is_c (strV u) _ _ _ _ (strV u) _ _ _ _ _ (hr120.new_ hn) (hr121.new_ hn) hx59 hx60, ?_⟩
        rintro e w' ⟨rfl, hm⟩
        exact ⟨_, rfl, hm, congrArg Value.bool (sameV_self _)⟩)) ?_
  refine .o1 (tk rfl rfl fun _ w hn k => ⟨_, v_pickT rfl (k.eq1 14 33 rfl) (k.eq1 18 37 rfl), rfl⟩) ?_
  refine .o1 (tk rfl rfl fun _ w hn k => ⟨_, v_move rfl (k.eq1 19 38 rfl), rfl⟩) ?_
  refine .o1 (tg rfl rfl rfl (fun _ _ k => k.eq1 20 39 rfl) fun _ w hn k => ⟨_, v_load rfl (k.fx 7 h91) (l_agg Try.isAgg29 Try.sizeOf29 (hb123.new_ hn) rfl), rfl⟩) ?_
  refine .o1 (cg rfl rfl rfl (fun _ _ k => k.eq1 20 39 rfl) rfl (fun _ w hn k => ⟨#[vv (truthV t) A56 cc57 A59 cc60], args1 (k.eq1 21 40 rfl), fun _ => by kernel_rfl, cbool_c (truthV t) _ _ _ _ _ (hr118.new_ hn) (hr119.new_ hn)⟩) fun _ => congrArg Value.bool (boolV_truth _)) ?_
  refine .o1 (tg rfl rfl rfl (fun _ _ k => k.eq1 20 39 rfl) fun _ w hn k => ⟨_, v_move rfl (k.fx 0 h88), rfl⟩) ?_
  refine .o1 (tg rfl rfl rfl (fun _ _ k => k.eq1 20 39 rfl) fun _ w hn k => ⟨_, v_bin rfl (k.eq1 22 41 rfl) (k.eq1 23 42 rfl) (fun _ => rfl) (self_eqlB _), rfl⟩) ?_
  refine .o1 (tk rfl rfl fun _ w hn k => ⟨_, v_pickT rfl (k.eq1 20 39 rfl) (k.eq1 24 43 rfl), rfl⟩) ?_
  refine .o1 (tk rfl rfl fun _ w hn k => ⟨_, v_move rfl (k.eq1 25 44 rfl), rfl⟩) ?_
  refine .o1 (tg rfl rfl rfl (fun _ _ k => k.eq1 26 45 rfl) fun _ w hn k => ⟨_, v_load rfl (k.fx 8 h99) (l_agg Try.isAgg29 Try.sizeOf29 (hb113.new_ hn) rfl), rfl⟩) ?_
  refine .o1 (cg rfl rfl rfl (fun _ _ k => k.eq1 26 45 rfl) rfl (fun _ w hn k => ⟨#[vv (strV u) A93 cc94 A96 cc97], args1 (k.eq1 27 46 rfl), fun _ => by kernel_rfl, vmay_c (strV u) _ _ _ _ _ (hr120.new_ hn) (hr121.new_ hn)⟩) fun _ => congrArg Value.bool (strV_may _)) ?_
  refine .o1 (tk rfl rfl fun _ w hn k => ⟨_, v_pickT rfl (k.eq1 26 45 rfl) (k.eq1 28 47 rfl), rfl⟩) ?_
  refine .o1 (tk rfl rfl fun _ w hn k => ⟨_, v_assign rfl (k.eq1 29 48 rfl), rfl⟩) ?_
  exact .nil
  intro a126 w127 hn128 ha129
  obtain ⟨hs130, hd131, hN133⟩ := aft ha129 hs86 hd87 hN124 hn128
  have h132 := ha129.ge 30 6 rfl
  refine st_nil (hK125 _ _ ?_)
  refine wp_ret (ret_k hd131 (v := .bool true) (res_t rfl h132 _) ?_)
  exact ⟨rfl, hN133⟩
  have ht32d := of_decide_eq_false ht32
  refine wp_g0 [true, true, true] [] 49
    [ve (sv Au u cu),
     ve (iv (u.length : Int)),
     ve (.bool true)] hs22 (.eq (.eq (.eq (.nil)))) ?_ ?_
  refine .o1 (tk rfl rfl fun _ w hn k => ⟨_, v_move rfl (k.fx 2 h25), rfl⟩) ?_
  refine .o1 (tk rfl rfl fun _ w hn k => ⟨_, v_lenR rfl elU (k.eq1 0 11 rfl), rfl⟩) ?_
  refine .o1 (tk rfl rfl fun _ w hn k => ⟨_, v_bin rfl (k.eq1 1 12 rfl) rfl (fun _ => rfl) (r_gtrK ht32), rfl⟩) ?_
  exact .nil
  intro a134 w135 hn136 ha137
  obtain ⟨hs138, hd139, hN145⟩ := aft ha137 hs22 hd23 hN29 hn136
  have h140 := ha137.fx 0 h24
  have h141 := ha137.fx 2 h25
  have h142 := ha137.fx 4 h26
  have h143 := ha137.ge 2 13 rfl
  have hb144 := hb28.new_ hn136
  refine st_nil (hK31 _ _ ?_)
  refine wp_cond_true h143 ?_
  refine wp_seq_k fun K146 hK146 => ?_
  refine wp_g0 [true, true] [] 49
    [ve (.bool true),
     ve (.bool true)] hs138 (.eq (.eq (.nil))) ?_ ?_
  refine .o1 (ck rfl rfl rfl (fun _ w hn k => ⟨#[], rfl, fun _ => by kernel_rfl, first_c _⟩) fun _ => rfl) ?_
  refine .o1 (tk rfl rfl fun _ w hn k => ⟨_, v_assign rfl (k.eq1 0 14 rfl), rfl⟩) ?_
  exact .nil
  intro a147 w148 hn149 ha150
  obtain ⟨hs151, hd152, hN154⟩ := aft ha150 hs138 hd139 hN145 hn149
  have h153 := ha150.ge 1 6 rfl
  refine st_nil (hK146 _ _ ?_)
  refine wp_ret (ret_k hd152 (v := .bool true) (res_t rfl h153 _) ?_)
  exact ⟨rfl, hN154⟩
end Go.Proofs.Ytecgdgjlmlpcnaa
